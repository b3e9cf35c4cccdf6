/-
  The evaluator's soundness, seventh part: calls; every operation.
  The evaluator's soundness, eighth part: what a state tells; one operation carried out; regions in their order.
  The evaluator's soundness, ninth part: regions whose order is drawn: what is static, and the run in the text's order.
  The evaluator's soundness, tenth part: regions whose order is drawn: facts of the run.
-/
import Derived.Test.YthmogphlnjpakaaGreatDoorPeE1
import Derived.Laws.IdiomCopy

namespace Go.Pe
open Go Go.RowKit
abbrev CallFn := FuncId → List Value → Heap → Nat → (Value → Heap → Nat → Nat → Prop) → Prop
def CallOk (E : Env) (base : World) (call : CallFn) : Prop :=
  ∀ f args h n K, call f args h n K → ∃ v h' n' mw, K v h' n' mw ∧ FuncSem E base f args h n v h' n' mw
section
variable {E : Env} {base : World} {o : Oper} {ρ : Operand → Value} {h : Heap} {n : Nat}
theorem Rel.grow {P : Program} {base w w' : World} {μ κ : Nat → Nat} (hr : Rel P base μ κ h w) (hb : Below w.heap.size w w') : Rel P base μ κ h w' :=
  ⟨hr.below.trans (hb.mono hr.below.size), fun k b hk => (hr.blk k b hk).same rfl rfl (fun _ _ => rfl) (hb.block _ (hr.blk k b hk).lt), hr.inj, hr.glob, hr.gsz⟩
theorem callK_sound (hE : EnvOk E base) {call : CallFn} (hcall : CallOk E base call) {g : FuncId} {args : List Value} {K : Value → Heap → Nat → Nat → Prop} (hk : callK E call g args h n K) :
    ∃ v h' n' mw, K v h' n' mw ∧ FuncSem E base g args h n v h' n' mw := by
  unfold callK at hk
  split at hk
  · rename_i T hT
    exact hE.oracle g args h n T K hT hk
  · exact hcall g args h n K hk
theorem addCaps_eq (l caps : List Value) : addCaps l caps = l ++ caps := by cases caps <;> simp [addCaps]
theorem sound_call {c : Call} {f : Operand} {g : FuncId} {caps : List Value} {v : Value} {h' : Heap} {n' mw : Nat} (ho : o.op = .call c) (hc : c.callee = .value f) (hf : ρ f = .func (.func g) #[] ⟨caps⟩) (hs : FuncSem E base g (c.args.toList.map ρ ++ caps) h n v h' n' mw) :
    OpSem E base o ρ h n v h' n' mw := by
  obtain ⟨⟨s0, s1⟩, s2⟩ := hs
  have hops : o.op.operands.toList = f :: c.args.toList := by simp [ho, Op.operands, Call.operands, hc]
  have all : ∀ D : Nat → Prop, (∀ x ∈ o.op.operands.toList, WF D (ρ x)) → ∀ x ∈ c.args.toList.map ρ ++ caps, WF D x := fun D hx x hxx => by
    rcases List.mem_append.1 hxx with hxx | hxx
    · obtain ⟨y, hy, rfl⟩ := List.mem_map.1 hxx
      exact hx y (by rw [hops]; exact List.mem_cons_of_mem _ hy)
    · have := hx f (by rw [hops]; exact List.mem_cons_self ..)
      rw [hf] at this
      exact (WF.func.1 this).2 x hxx
  refine ⟨⟨s0, fun D hD hG hx hh => s1 D hD hG (all D fun x hxx => hx _ (List.mem_map_of_mem hxx)) hh⟩, fun μ κ w ρr hr hρ hh hx hg => ?_⟩
  have := s2 μ κ w hr hh (all _ hx) hg
  have e1 : ρr f = .func (.func g) #[] (caps.map (renV μ κ)).toArray := by rw [hρ f (by rw [hops]; exact List.mem_cons_self ..), hf]; simp
  have e2 : c.args.map ρr = ((c.args.toList.map ρ).map (renV μ κ)).toArray := by
    apply Array.ext'
    rw [Array.toList_map, List.map_map]
    exact List.map_congr_left fun x hxx => hρ x (by rw [hops]; exact List.mem_cons_of_mem _ hxx)
  have e3 : (execOp ρr o).run E.P w = (callFunc g ((c.args.toList.map ρ ++ caps).map (renV μ κ)).toArray).run E.P w := by
    simp only [execOp, ho, resolve, hc, e1, e2, Deferred.ofValue, Sem.run_bind, Sem.run_pure, Result.andThen_ok, invoke, List.append_toArray, List.map_append, List.nil_append]
  rw [e3]
  exact this
theorem sound_makeFunc {g : FuncId} {first captured : Array Operand} (ho : o.op = .makeFunc (.func g) first captured) (hf : first.toList = []) : OpSem E base o ρ h n (.func (.func g) ⟨[]⟩ ⟨captured.toList.map ρ⟩) h n big := by
  have hfa : first = #[] := Array.ext' hf
  subst hfa
  refine OpSem.pure _ fun μ κ w ρr _ hρ => ?_
  have e : captured.map ρr = ((captured.toList.map ρ).map (renV μ κ)).toArray := by
    apply Array.ext'
    rw [Array.toList_map, List.map_map]
    exact List.map_congr_left fun x hx => hρ x (by simp [ho, Op.operands, hx])
  simp [execOp, ho, Instr.makeFunc, e]
theorem sound_invoke {c : Call} {r : Operand} {name : String} {t : TypeId} {x : Value} {g : FuncId} {v : Value} {h' : Heap} {n' mw : Nat} (ho : o.op = .call c) (hc : c.callee = .invoke r name) (hr0 : ρ r = .iface t x) (hm : methodOf E t name = some g)
    (hs : FuncSem E base g (x :: c.args.toList.map ρ) h n v h' n' mw) : OpSem E base o ρ h n v h' n' mw := by
  obtain ⟨⟨s0, s1⟩, s2⟩ := hs
  have hops : o.op.operands.toList = r :: c.args.toList := by simp [ho, Op.operands, Call.operands, hc]
  refine ⟨⟨s0, fun D hD hG hx hh => s1 D hD hG (fun y hy => ?_) hh⟩, fun μ κ w ρr hr hρ hh hx hg => ?_⟩
  · rcases List.mem_cons.1 hy with rfl | hy
    · have := hx (ρ r) (by rw [hops]; exact List.mem_cons_self ..)
      rw [hr0] at this
      exact WF.iface.1 this
    · exact hx y (by rw [hops]; exact List.mem_cons_of_mem _ hy)
  · have hs := s2 μ κ w hr hh (fun y hy => by
      rcases List.mem_cons.1 hy with rfl | hy
      · have := hx r (by rw [hops]; exact List.mem_cons_self ..)
        rw [hr0] at this
        exact WF.iface.1 this
      · obtain ⟨z, hz, rfl⟩ := List.mem_map.1 hy
        exact hx z (by rw [hops]; exact List.mem_cons_of_mem _ hz)) hg
    have e1 : ρr r = .iface t (renV μ κ x) := by rw [hρ r (by rw [hops]; exact List.mem_cons_self ..), hr0]; rfl
    have e2 : c.args.map ρr = ((c.args.toList.map ρ).map (renV μ κ)).toArray := by
      apply Array.ext'
      rw [Array.toList_map, List.map_map]
      exact List.map_congr_left fun x hxx => hρ x (by rw [hops]; exact List.mem_cons_of_mem _ hxx)
    unfold methodOf at hm
    split at hm
    · cases hm
    · rename_i i hi
      split at hm
      · cases hm
      · rename_i m hfind
        split at hm
        · rename_i f hpath hfunc
          have hd : E.P.types.size + Made.depth = (E.P.types.size + (Made.depth - 1)) + 1 := by
            show E.P.types.size + 100 = _
            show _ = (E.P.types.size + (100 - 1)) + 1
            omega
          have e3 : (execOp ρr o).run E.P w = (callFunc g (#[renV μ κ x] ++ ((c.args.toList.map ρ).map (renV μ κ)).toArray)).run E.P w := by
            unfold und at hm
            cases hu : E.P.underlying t with
            | none => simp [hu] at hm
            | some d =>
              rw [hu] at hm
              have hmeth : (method (E.P.types.size + Made.depth) t (renV μ κ x) name).run E.P w = .ok (g, renV μ κ x) w := by
                rw [hd]
                cases d <;> simp at hm <;> subst hm <;> simp [method, typeInfo, hi, hfind, hpath, follow, hfunc, receiverAt, run_underlying hu, Place.get]
              simp only [execOp, ho, resolve, hc, e1, e2, Sem.run_bind, Sem.run_pure, Result.andThen_ok, invoke]
              have hget : (#[Value.iface t (renV μ κ x)] ++ ((c.args.toList.map ρ).map (renV μ κ)).toArray)[0]? = some (Value.iface t (renV μ κ x)) := by simp
              have hext : (#[Value.iface t (renV μ κ x)] ++ ((c.args.toList.map ρ).map (renV μ κ)).toArray).extract 1 (#[Value.iface t (renV μ κ x)] ++ ((c.args.toList.map ρ).map (renV μ κ)).toArray).size = ((c.args.toList.map ρ).map (renV μ κ)).toArray := by
                apply Array.ext'
                simp
                exact List.take_of_length_le (by simp)
              rw [hget]
              simp only [hext, callMethod, Sem.run_bind]
              have hp : (program : Sem Program).run E.P w = .ok E.P w := rfl
              rw [hp]
              simp only [Result.andThen_ok, hmeth]
          rw [e3]
          have : (#[renV μ κ x] ++ ((c.args.toList.map ρ).map (renV μ κ)).toArray) = ((x :: c.args.toList.map ρ).map (renV μ κ)).toArray := by simp
          rw [this]
          exact hs
        · cases hm
theorem pure_builtin {c : Call} {b : Builtin} {ts : List TypeId} {v : Value} (ho : o.op = .call c) (hc : c.callee = .builtin b) (hts : c.argTypes.toList = ts)
    (H : ∀ μ κ w cs, (builtin b ts.toArray o.type cs ((c.args.toList.map ρ).map (renV μ κ)).toArray).run E.P w = .ok (.value (renV μ κ v)) w) : OpSem E base o ρ h n v h n big := by
  refine OpSem.pure _ fun μ κ w ρr _ hρ => ?_
  obtain ⟨cs, h1⟩ := builtin_run (E := E) ho hc hts hρ w
  rw [h1]
  exact H μ κ w cs
theorem sound_builtin {c : Call} {b : Builtin} {K : Value → Heap → Nat → Nat → Prop} (ho : o.op = .call c) (hc : c.callee = .builtin b) (hk : builtinK E h n b c.argTypes.toList (c.args.toList.map ρ) K) :
    ∃ v h' n' mw, K v h' n' mw ∧ OpSem E base o ρ h n v h' n' mw := by
  unfold builtinK at hk
  split at hk
  · split at hk
    · rename_i t x hts hargs
      split at hk
      · rename_i s hu
        unfold und at hu
        refine ⟨_, _, _, _, hk, pure_builtin ho hc hts fun μ κ w cs => ?_⟩
        simp [hargs, builtin, Builtin.len_, run_underlying hu, goInt, strLen_eq]
      · rename_i e a m cp hu
        unfold und at hu
        refine ⟨_, _, _, _, hk, pure_builtin ho hc hts fun μ κ w cs => ?_⟩
        cases a <;> simp [hargs, builtin, Builtin.len_, run_underlying hu, goInt]
      · rename_i m e hu
        unfold und at hu
        refine ⟨_, _, _, _, hk, pure_builtin ho hc hts fun μ κ w cs => ?_⟩
        simp [hargs, builtin, Builtin.len_, run_underlying hu, goInt]
      · exact hk.elim
    · exact hk.elim
  · split at hk
    · rename_i t a l m hts hargs
      split at hk
      · rename_i e hu
        unfold und at hu
        obtain ⟨h0, hk⟩ := chk_true hk
        have h0 : m < big := ble_true h0
        refine ⟨_, _, _, _, hk, pure_builtin ho hc hts fun μ κ w cs => ?_⟩
        cases a <;> simp [hargs, builtin, Builtin.cap_, run_underlying hu, goInt, renCap_small h0]
      · exact hk.elim
    · exact hk.elim
  · split at hk
    · rename_i k a l hargs
      split at hk
      · rename_i v hv
        refine ⟨_, _, _, _, hk, pure_builtin ho hc rfl fun μ κ w cs => ?_⟩
        obtain ⟨h1, h2⟩ := minL_spec (E := E) k l a v hv
        simp only [hargs, builtin, Builtin.min_, Sem.run_bind, List.map_cons, renV_int, h2, Result.andThen_ok, Sem.run_pure, h1]
      · exact hk.elim
    · exact hk.elim
  · split at hk
    · rename_i k a l hargs
      split at hk
      · rename_i v hv
        refine ⟨_, _, _, _, hk, pure_builtin ho hc rfl fun μ κ w cs => ?_⟩
        obtain ⟨h1, h2⟩ := maxL_spec (E := E) k l a v hv
        simp only [hargs, builtin, Builtin.max_, Sem.run_bind, List.map_cons, renV_int, h2, Result.andThen_ok, Sem.run_pure, h1]
      · exact hk.elim
    · exact hk.elim
  · split at hk
    · rename_i t u s x hts hargs
      exact sound_append ho hc hts hargs hk
    · exact hk.elim
  · split at hk
    · rename_i t u d dl dc a sl sc hts hargs
      split at hk
      · rename_i e hu
        unfold und at hu
        split at hk
        · rename_i i hi
          obtain ⟨h0, hk⟩ := chk_true hk
          simp only [Bool.and_eq_true, Bool.or_eq_true] at h0
          refine ⟨_, _, _, _, hk, pure_builtin ho hc hts fun μ κ w cs => ?_⟩
          have hz : Nat.min sl dl = 0 := by
            rcases h0.2 with h | h
            · rw [beq_true h]; exact Nat.zero_min _
            · rw [beq_true h]; exact Nat.min_zero _
          have hs : (E.P.info? e).map (·.size) = some 1 := by rw [hi]; simp [beq_true h0.1]
          have key := fun (d a : Option Addr) (dc sc : Nat) => run_copy_none (P := E.P) w t u o.type e d a dl dc sl sc hu hs hz
          cases d <;> cases a <;> simp [hargs, builtin, key, goInt]
        · exact hk.elim
      · exact hk.elim
    · exact hk.elim
  · exact hk.elim
theorem byteAt_spec {l : List UInt8} {i : Nat} (h : i < l.length) : nth l i = some (byteAt l i) := by
  unfold byteAt
  rw [nth_eq, List.getElem?_eq_getElem h]
theorem takeN_one {l : List (Option Value)} {i : Nat} {v : Value} (h : l[i]? = some (some v)) : takeN (l.drop i) 1 = some [v] := by
  have hlt := (List.getElem?_eq_some_iff.1 h).1
  rw [List.drop_eq_getElem_cons hlt]
  have : l[i] = some v := (List.getElem?_eq_some_iff.1 h).2
  rw [this]
  simp [takeN]
theorem manyO_cells {h : Heap} {ad : Addr} {cs : List (Option Value)} (hm : manyO h ad = some cs) {v : Value} (hv : cs[ad.off]? = some (some v)) : cellsAt h ad 1 = some [v] := by
  cases hs : ad.spot with
  | some x => simp [manyO, hs] at hm
  | none =>
    cases hb : getBlk h ad.block with
    | none => simp [manyO, hs, hb] at hm
    | some b =>
      cases hi : b.iter with
      | some x => simp [manyO, hs, hb, hi] at hm
      | none =>
        have hc : b.cells = cs := by
          simp only [manyO, hs, hb, hi] at hm
          split at hm
          · cases hm
          · split at hm
            · cases hm
            · rename_i hc
              cases hm
              exact hc
        simp only [cellsAt, hs, hb, hi, hc]
        exact takeN_one hv
theorem addO_eq (a : Addr) (n : Nat) : addO a n = a.add n := by
  obtain ⟨b, o, s⟩ := a
  cases s with
  | none =>
    unfold addO Addr.add
    simp only
    split
    · rename_i h; subst h; rfl
    · rfl
  | some s => rfl
theorem allStr_at : ∀ (l : List (Option Value)) (i : Nat), allStr l = true → i < l.length → l[i]? = some (some (.string (strAt l i))) := by
  intro l
  induction l with
  | nil => intro i _ h; simp at h
  | cons c l ih =>
    intro i h hi
    simp only [allStr] at h
    split at h
    · rename_i v
      split at h
      · cases i with
        | zero => rfl
        | succ i => simpa [strAt, nth] using ih i h (by simpa using hi)
      · cases h
    · cases h
theorem allInt_at (k : IntKind) : ∀ (l : List (Option Value)) (i : Nat), allInt k l = true → i < l.length → l[i]? = some (some (.int k (intAt l i))) := by
  intro l
  induction l with
  | nil => intro i _ h; simp at h
  | cons c l ih =>
    intro i h hi
    simp only [allInt] at h
    split at h
    · rename_i v
      split at h
      · rename_i k' m
        split at h
        · rename_i hk
          have hk := of_decide_eq_true hk
          subst hk
          cases i with
          | zero => rfl
          | succ i => simpa [intAt, nth] using ih i h (by simpa using hi)
        · cases h
      · cases h
    · cases h
theorem loadK0_sound (hstr : E.strF = strAt) {h : Heap} {t : TypeId} {ad : Addr} {K : Value → Prop} (hk : loadK0 E h t ad K) : ∃ v, loadO E h t ad = some v ∧ K v := by
  have one : (match loadO E h t ad with | some v => K v | none => False) → ∃ v, loadO E h t ad = some v ∧ K v := fun hk => by
    split at hk
    · rename_i v hv; exact ⟨v, hv, hk⟩
    · exact hk.elim
  unfold loadK0 at hk
  rw [hstr] at hk
  split at hk
  · rename_i cells hm
    split at hk
    · rename_i hu
      split at hk
      · rename_i ha
        obtain ⟨hlt, hk⟩ := chk_true hk
        have hlt : ad.off < cells.length := by simpa [Nat.blt_eq] using hlt
        refine ⟨_, ?_, hk⟩
        have := manyO_cells hm (allStr_at cells _ ha hlt)
        simp only [loadO, isAggT, hu, this]
      · exact one hk
    · rename_i k hu
      split at hk
      · rename_i ha
        simp only [Bool.and_eq_true] at ha
        have ha := ha.2
        obtain ⟨hlt, hk⟩ := chk_true hk
        have hlt : ad.off < cells.length := by simpa [Nat.blt_eq] using hlt
        refine ⟨_, ?_, hk⟩
        have := manyO_cells hm (allInt_at k cells _ ha hlt)
        simp only [loadO, isAggT, hu, this]
      · exact one hk
    · exact one hk
  · exact one hk
theorem exN_of : ∀ (n : Nat) (K : List Value → Prop), exN n K → ∃ l, l.length = n ∧ K l := by
  intro n
  induction n with
  | zero => intro K h; exact ⟨[], rfl, h⟩
  | succ n ih =>
    intro K h
    obtain ⟨v, h⟩ := h
    obtain ⟨l, hl, hk⟩ := ih _ h
    exact ⟨v :: l, by simp [hl], hk⟩
theorem loadS_sound {h : Heap} {b : Blk} {t : TypeId} {ad : Addr} {K : Value → Prop} (hb : getBlk h ad.block = some b) (hk : loadS E b t ad K) : ∃ v, loadO E h t ad = some v ∧ K v := by
  unfold loadS at hk
  split at hk
  · rename_i hs hi
    have one : ∀ v, cellIs b.cells ad.off v → cellsAt h ad 1 = some [v] := fun v hv => by
      simp only [cellsAt, hs, hb, hi]
      exact takeN_one hv
    split at hk
    · rename_i hu
      obtain ⟨s, h1, hk⟩ := hk
      exact ⟨_, by simp only [loadO, isAggT, hu, one _ h1], hk⟩
    · rename_i k hu
      obtain ⟨s, h1, hk⟩ := hk
      exact ⟨_, by simp only [loadO, isAggT, hu, one _ h1], hk⟩
    · rename_i hu
      obtain ⟨s, h1, hk⟩ := hk
      exact ⟨_, by simp only [loadO, isAggT, hu, one _ h1], hk⟩
    · rename_i fs hu
      split at hk
      · rename_i s hz
        obtain ⟨l, hl, h1, hk⟩ := exN_of _ _ hk
        refine ⟨_, ?_, hk⟩
        unfold cellsAre at h1
        rw [hl] at h1
        have : cellsAt h ad s = some l := by simp only [cellsAt, hs, hb, hi, h1]
        simp only [loadO, isAggT, hu, hz, this]
      · exact hk.elim
    · exact hk.elim
    · rename_i d h1 h2 h3 h4 h5 hu
      obtain ⟨s, h6, hk⟩ := hk
      refine ⟨_, ?_, hk⟩
      have : isAggT E t = some false := by
        unfold isAggT
        rw [hu]
        cases d <;> first | rfl | (exfalso; simp_all)
      simp only [loadO, this, one _ h6]
    · exact hk.elim
  · exact hk.elim
theorem loadK_sound (hstr : E.strF = strAt) {h : Heap} {t : TypeId} {ad : Addr} {K : Value → Prop} (hk : loadK E h t ad K) : ∃ v, loadO E h t ad = some v ∧ K v := by
  unfold loadK at hk
  split at hk
  · rename_i b hs
    exact loadS_sound (symB_some hs) hk
  · exact loadK0_sound hstr hk
theorem opK_sound (hE : EnvOk E base) {call : CallFn} (hcall : CallOk E base call) {K : Value → Heap → Nat → Nat → Prop} (hk : opK E call o ρ h n K) :
    ∃ v h' n' mw, K v h' n' mw ∧ OpSem E base o ρ h n v h' n' mw := by
  cases ho : o.op with
  | slice t x lo hi mx =>
    obtain ⟨v, h1, h2⟩ := sound_slice (base := base) ho hk
    exact ⟨_, _, _, _, h1, h2⟩
  | move x => rw [opK_eq] at hk; unfold opK0 at hk; rw [ho] at hk; exact ⟨_, _, _, _, hk, sound_move (.inl ho)⟩
  | assign x => rw [opK_eq] at hk; unfold opK0 at hk; rw [ho] at hk; exact ⟨_, _, _, _, hk, sound_move (.inr ho)⟩
  | pick c a b =>
    rw [opK_eq] at hk; unfold opK0 at hk; rw [ho] at hk
    simp only at hk
    split at hk
    · rename_i t hc
      have := sound_pick (E := E) (base := base) (h := h) (n := n) ho hc
      cases t <;> exact ⟨_, _, _, _, hk, this⟩
    · exact hk.elim
  | alloc e =>
    rw [opK_eq] at hk; unfold opK0 at hk; rw [ho] at hk
    simp only at hk
    split at hk
    · rename_i z hz; exact ⟨_, _, _, _, hk, sound_alloc hE ho hz⟩
    · exact hk.elim
  | box e x => rw [opK_eq] at hk; unfold opK0 at hk; rw [ho] at hk; exact ⟨_, _, _, _, hk, sound_box ho⟩
  | build t parts =>
    rw [opK_eq] at hk; unfold opK0 at hk; rw [ho] at hk
    obtain ⟨hlt, hk⟩ := chk_true hk
    split at hk
    · rename_i cs hcs; exact ⟨_, _, _, _, hk, sound_build hE ho (by simpa [Nat.blt_eq] using hlt) hcs⟩
    · exact hk.elim
  | buildSlice t len parts =>
    rw [opK_eq] at hk; unfold opK0 at hk; rw [ho] at hk
    simp only at hk
    split at hk
    · rename_i hl hp
      split at hk
      · rename_i e hu
        split at hk
        · rename_i sz hsz
          exact ⟨_, _, _, _, hk, sound_buildSlice0 ho hu hsz (beq_true hl) hp⟩
        · exact hk.elim
      · exact hk.elim
    · split at hk
      · rename_i e hu
        split at hk
        · rename_i sz z hsz hz
          obtain ⟨hc, hk⟩ := chk_true hk
          simp only [Bool.and_eq_true] at hc
          split at hk
          · rename_i cs hcs
            exact ⟨_, _, _, _, hk, sound_buildSlice hE ho hu hsz hz (ble_true hc.1.1) (beq_true hc.1.2) (ble_true hc.2) hcs⟩
          · exact hk.elim
        · exact hk.elim
      · exact hk.elim
  | load t a =>
    rw [opK_eq] at hk; unfold opK0 at hk; rw [ho] at hk
    simp only at hk
    split at hk
    · rename_i ad ha
      obtain ⟨v, hv, hk⟩ := loadK_sound hE.str hk
      exact ⟨_, _, _, _, hk, sound_load ho ha hv⟩
    · exact hk.elim
  | store t a x =>
    rw [opK_eq] at hk; unfold opK0 at hk; rw [ho] at hk
    simp only at hk
    split at hk
    · rename_i ad ha
      split at hk
      · rename_i s hs
        split at hk
        · rename_i hn
          obtain ⟨h', hst, hk⟩ := storeK_of hk
          exact ⟨_, _, _, _, hk, sound_store ho ha hs (beq_true hn) hst⟩
        · exact hk.elim
      · exact hk.elim
    · exact hk.elim
  | nilCheck x =>
    rw [opK_eq] at hk; unfold opK0 at hk; rw [ho] at hk
    simp only at hk
    split at hk
    · rename_i a ha; have := sound_nilCheck (E := E) (base := base) (h := h) (n := n) ho (.inl ⟨a, ha⟩); rw [ha] at this; exact ⟨_, _, _, _, hk, this⟩
    · rename_i t v ha; have := sound_nilCheck (E := E) (base := base) (h := h) (n := n) ho (.inr ⟨t, v, ha⟩); rw [ha] at this; exact ⟨_, _, _, _, hk, this⟩
    · exact hk.elim
  | binOp op t x y yt =>
    rw [opK_eq] at hk; unfold opK0 at hk; rw [ho] at hk
    obtain ⟨v, h1, h2⟩ := sound_bin (base := base) (h := h) (n := n) hE ho hk
    exact ⟨_, _, _, _, h1, h2⟩
  | unOp op t x =>
    rw [opK_eq] at hk; unfold opK0 at hk; rw [ho] at hk
    obtain ⟨v, h1, h2⟩ := sound_un (base := base) (h := h) (n := n) (E := E) ho hk
    exact ⟨_, _, _, _, h1, h2⟩
  | convert src dst x =>
    rw [opK_eq] at hk; unfold opK0 at hk; rw [ho] at hk
    obtain ⟨v, h1, h2⟩ := sound_conv (base := base) ho hk
    exact ⟨_, _, _, _, h1, h2⟩
  | makeInterface t x =>
    rw [opK_eq] at hk; unfold opK0 at hk; rw [ho] at hk
    simp only at hk
    split at hk
    · exact hk.elim
    · rename_i d hne hd; exact ⟨_, _, _, _, hk, sound_makeInterface ho hd hne⟩
    · exact hk.elim
  | makeSlice t l c =>
    rw [opK_eq] at hk; unfold opK0 at hk; rw [ho] at hk
    simp only at hk
    split at hk
    · rename_i e a b hu hl hc
      split at hk
      · rename_i i hi
        split at hk
        · rename_i z hz
          obtain ⟨hck, hk⟩ := chk_true hk
          simp only [Bool.and_eq_true, decide_eq_true_eq] at hck
          obtain ⟨⟨⟨⟨⟨c1, c2⟩, c3⟩, c4⟩, c5⟩, c6⟩ := hck
          exact ⟨_, _, _, _, hk, sound_makeSlice hE ho hu hl hc hi hz c1 c2 c3 (ble_true c4) (beq_true c5) (by simpa [Nat.blt_eq] using c6)⟩
        · exact hk.elim
      · exact hk.elim
    · exact hk.elim
  | fieldAddr s x f =>
    rw [opK_eq] at hk; unfold opK0 at hk; rw [ho] at hk
    simp only at hk
    split at hk
    · rename_i a fl hx hf
      split at hk
      · rename_i z hz; exact ⟨_, _, _, _, hk, sound_fieldAddr ho hx hf hz⟩
      · exact hk.elim
    · exact hk.elim
  | field t x f =>
    rw [opK_eq] at hk; unfold opK0 at hk; rw [ho] at hk
    simp only at hk
    split at hk
    · rename_i cs fl hx hf
      split at hk
      · rename_i v hv; exact ⟨_, _, _, _, hk, sound_field ho hx hf hv⟩
      · exact hk.elim
    · exact hk.elim
  | indexAddr t x ix =>
    rw [opK_eq] at hk; unfold opK0 at hk; rw [ho] at hk
    simp only at hk
    split at hk
    · rename_i len e a k i hu hx hi
      split at hk
      · rename_i z hz
        obtain ⟨hc, hk⟩ := chk_true hk
        simp only [Bool.and_eq_true, decide_eq_true_eq] at hc
        rw [addO_eq] at hk
        exact ⟨_, _, _, _, hk, sound_indexAddr ho hi hz hc.1 hc.2 (.inl ⟨hu, hx⟩)⟩
      · exact hk.elim
    · rename_i e a len c k i hu hx hi
      split at hk
      · rename_i z hz
        obtain ⟨hc, hk⟩ := chk_true hk
        simp only [Bool.and_eq_true, decide_eq_true_eq] at hc
        rw [addO_eq] at hk
        exact ⟨_, _, _, _, hk, sound_indexAddr ho hi hz hc.1 hc.2 (.inr ⟨hu, c, hx⟩)⟩
      · exact hk.elim
    · exact hk.elim
  | index t x ix =>
    rw [opK_eq] at hk; unfold opK0 at hk; rw [ho] at hk
    simp only at hk
    split at hk
    · rename_i len e cs k i hu hx hi
      split at hk
      · rename_i z hz
        obtain ⟨hc, hk⟩ := chk_true hk
        simp only [Bool.and_eq_true, decide_eq_true_eq] at hc
        split at hk
        · rename_i v hv; exact ⟨_, _, _, _, hk, sound_indexArr ho hi hz hc.1 hc.2 hu hx hv⟩
        · exact hk.elim
      · exact hk.elim
    · rename_i s k i hu hx hi
      obtain ⟨hc, hk⟩ := chk_true hk
      simp only [Bool.and_eq_true, decide_eq_true_eq] at hc
      refine ⟨_, _, _, _, hk, sound_indexStr ho hi hc.1 hu hx (byteAt_spec ?_)⟩
      have := hc.2
      simp only [strLen] at this
      omega
    · exact hk.elim
  | range t x =>
    rw [opK_eq] at hk; unfold opK0 at hk; rw [ho] at hk
    simp only at hk
    split at hk
    · rename_i s hu hx; exact ⟨_, _, _, _, hk, sound_range ho hu hx⟩
    · exact hk.elim
  | next it isS =>
    rw [opK_eq] at hk; unfold opK0 at hk; rw [ho] at hk
    simp only at hk
    split at hk
    · rename_i r hi
      split at hk
      · rename_i b hb
        split at hk
        · rename_i s pos hs
          split at hk
          · rename_i hp; exact ⟨_, _, _, _, hk, sound_next ho hi hb hs (ble_true hp)⟩
          · rename_i hp
            have hp : strLen s < pos + 1 := ble_false hp
            exact ⟨_, _, _, _, hk, sound_next_over ho hi hb hs (by omega)⟩
        · exact hk.elim
      · exact hk.elim
    · exact hk.elim
  | typeAssert x xt t ok =>
    rw [opK_eq] at hk; unfold opK0 at hk; rw [ho] at hk
    simp only at hk
    split at hk
    · exact hk.elim
    · rename_i d hne hd hx
      split at hk
      · rename_i z hz; exact ⟨_, _, _, _, hk, sound_typeAssert_nil hE ho hd hne (.inl hx) hz⟩
      · exact hk.elim
    · rename_i d u v hne hd hx
      split at hk
      · rename_i hut
        have hut := beq_true hut
        subst hut
        have := sound_typeAssert (E := E) (base := base) (h := h) (n := n) ho hd hne hx
        split at hk <;> exact ⟨_, _, _, _, hk, this⟩
      · rename_i hut
        split at hk
        · rename_i z hz; exact ⟨_, _, _, _, hk, sound_typeAssert_nil hE ho hd hne (.inr ⟨u, v, hx, beq_false hut⟩) hz⟩
        · exact hk.elim
    · exact hk.elim
  | extract x ix =>
    rw [opK_eq] at hk; unfold opK0 at hk; rw [ho] at hk
    simp only at hk
    split at hk
    · rename_i vs hx
      split at hk
      · rename_i v hv; exact ⟨_, _, _, _, hk, sound_extract ho hx hv⟩
      · exact hk.elim
    · exact hk.elim
  | call c =>
    rw [opK_eq] at hk; unfold opK0 at hk; rw [ho] at hk
    simp only at hk
    split at hk
    · rename_i f hc
      split at hk
      · rename_i g caps hf
        rw [addCaps_eq] at hk
        obtain ⟨v, h', n', mw, h1, h2⟩ := callK_sound hE hcall hk
        exact ⟨_, _, _, _, h1, sound_call ho hc hf h2⟩
      · exact hk.elim
    · rename_i r name hc
      split at hk
      · rename_i t x hr
        split at hk
        · rename_i g hm
          obtain ⟨v, h', n', mw, h1, h2⟩ := callK_sound hE hcall hk
          exact ⟨_, _, _, _, h1, sound_invoke ho hc hr hm h2⟩
        · exact hk.elim
      · exact hk.elim
    · rename_i b hc
      exact sound_builtin ho hc hk
  | makeFunc fn first captured =>
    rw [opK_eq] at hk; unfold opK0 at hk; rw [ho] at hk
    simp only at hk
    split at hk
    · rename_i g hf
      exact ⟨_, _, _, _, hk, sound_makeFunc ho hf⟩
    · exact hk.elim
  | _ => rw [opK_eq] at hk; unfold opK0 at hk; rw [ho] at hk; exact hk.elim
end
end Go.Pe

namespace Go.Pe
open Go Go.RowKit
def TWF (D : Nat → Prop) (s : St) : Prop := HWF D s.heap ∧ ∀ t, WF D (getTmp s.tmps t)
noncomputable def defOf (μ κ : Nat → Nat) (d : FuncId × List Value) : Deferred := { target := .fn (.func d.1) (d.2.map (renV μ κ)).toArray, args := #[] }
def DWF (D : Nat → Prop) (l : List (FuncId × List Value)) : Prop := ∀ d ∈ l, ∀ v ∈ d.2, WF D v
theorem DWF.mono {D D' : Nat → Prop} {l : List (FuncId × List Value)} (h : DWF D l) (hd : ∀ k, D k → D' k) : DWF D' l := fun d hm v hv => (h d hm v hv).mono hd
theorem defs_same {D : Nat → Prop} {l : List (FuncId × List Value)} {μ κ μ' κ' : Nat → Nat} (h : DWF D l) (hag : ∀ k, D k → μ' k = μ k ∧ κ' k = κ k) : l.map (defOf μ' κ') = l.map (defOf μ κ) :=
  List.map_congr_left fun d hd => by
    unfold defOf
    rw [List.map_congr_left fun v hv => h d hd v hv μ κ μ' κ' hag]
theorem mem_tmpsOf {l : List Operand} {t : Nat} (h : Operand.tmp t ∈ l) : t ∈ tmpsOf l := by
  induction l with
  | nil => cases h
  | cons x l ih =>
    rcases List.mem_cons.1 h with h1 | h1
    · subst h1; simp [tmpsOf]
    · have := ih h1
      cases x <;> simp [tmpsOf, this]
def ToldE (E : Env) (s : St) (t : Nat) : Prop := E.weak = true → told s.tmps t = true
theorem toldAll_spec {E : Env} {s : St} {l : List Nat} (h : toldAll E s.tmps l = true) : ∀ t ∈ l, ToldE E s t := fun t ht hw => by
  unfold toldAll at h
  rw [hw] at h
  exact List.all_eq_true.1 h t ht
structure StRel (E : Env) (base : World) (μ κ : Nat → Nat) (s : St) (a : Act) (w : World) : Prop where
  rel : Rel E.P base μ κ s.heap w
  sz : a.tmps.size = s.size
  tmp : ∀ t, ToldE E s t → a.tmps.getD t undef = renV μ κ (getTmp s.tmps t)
  df : a.defers = s.df.map (defOf μ κ)
  dw : DWF (· < s.next) s.df
  wf : TWF (· < s.next) s
  gl : E.P.globals.size ≤ s.next
def SWf (E : Env) (s s' : St) : Prop :=
  s.next ≤ s'.next ∧ ∀ D : Nat → Prop, (∀ k, D k → k < s.next) → (∀ g, g < E.P.globals.size → D g) → TWF D s → TWF (Dp D s.next s'.next) s'
theorem SWf.refl (E : Env) (s : St) : SWf E s s := ⟨Nat.le_refl _, fun _ _ _ h => ⟨h.1.mono Dp_mono, fun t => (h.2 t).mono Dp_mono⟩⟩
theorem SWf.trans {E : Env} {s s1 s2 : St} (h : SWf E s s1) (k : SWf E s1 s2) : SWf E s s2 := by
  refine ⟨Nat.le_trans h.1 k.1, fun D hD hG hT => ?_⟩
  have l1 := h.1
  have l2 := k.1
  have h1 := h.2 D hD hG hT
  have h2 := k.2 (Dp D s.next s1.next) (fun j hj => hj.elim (fun hj => Nat.lt_of_lt_of_le (hD j hj) l1) (fun hj => hj.2)) (fun g hg => .inl (hG g hg)) h1
  have hm : ∀ j, Dp (Dp D s.next s1.next) s1.next s2.next j → Dp D s.next s2.next j := fun j hj => by
    rcases hj with (hj | hj) | hj
    · exact .inl hj
    · exact .inr ⟨hj.1, by omega⟩
    · exact .inr ⟨by omega, hj.2⟩
  exact ⟨h2.1.mono hm, fun t => (h2.2 t).mono hm⟩
def StOut (E : Env) (base : World) (s s' : St) (μ κ : Nat → Nat) (w : World) (a' : Act) (w' : World) : Prop :=
  ∃ μ' κ', Step s'.mw s.next s'.next μ κ w μ' κ' w' ∧ StRel E base μ' κ' s' a' w'
theorem StOut.trans {E : Env} {base : World} {s s1 s2 : St} {μ κ μ1 κ1 : Nat → Nat} {w w1 : World} {a2 : Act} {w2 : World} (h : Step s1.mw s.next s1.next μ κ w μ1 κ1 w1) (hm : s2.mw ≤ s1.mw)
    (k : StOut E base s1 s2 μ1 κ1 w1 a2 w2) : StOut E base s s2 μ κ w a2 w2 := by
  obtain ⟨μ2, κ2, k1, k2⟩ := k
  exact ⟨μ2, κ2, (h.mono hm).trans k1, k2⟩
section
variable {E : Env} {base : World}
theorem TWF.eval {D : Nat → Prop} {s : St} (h : TWF D s) (hG : ∀ g, g < E.P.globals.size → D g) {x : Operand} (hx : opdOk E.P.globals.size x = true) : WF D (evalO s.tmps x) := by
  cases x with
  | tmp t => exact h.2 t
  | const v => exact WF.pure hx
  | global g => exact WF.ptr.2 (hG g (by simpa [opdOk, Nat.blt_eq] using hx))
  | func f => exact WF.func0 _
theorem eval_gen {μ κ : Nat → Nat} {tm : List (Nat × Value)} {a : Act} {x : Operand} (hg : ∀ g, g < E.P.globals.size → μ g = g) (ht : ∀ t, x = .tmp t → a.tmps.getD t undef = renV μ κ (getTmp tm t)) (hx : opdOk E.P.globals.size x = true) :
    a.eval x = renV μ κ (evalO tm x) := by
  cases x with
  | tmp t => exact ht t rfl
  | const v => exact (ren_pure μ κ 6 v hx).symm
  | global g => simp [Act.eval, evalO, opdF, renAd, hg g (by simpa [opdOk, Nat.blt_eq] using hx)]
  | func f => rfl
theorem StRel.eval {μ κ : Nat → Nat} {s : St} {a : Act} {w : World} (h : StRel E base μ κ s a w) {x : Operand} (hx : opdOk E.P.globals.size x = true) (ht : ∀ t, x = .tmp t → ToldE E s t) : a.eval x = renV μ κ (evalO s.tmps x) :=
  eval_gen h.rel.glob (fun t e => h.tmp t (ht t e)) hx
def putS (s : St) (dst : Option Tmp) (v : Value) (h : Heap) (n mw : Nat) : St :=
  match dst with
  | none => { tmps := s.tmps, heap := h, next := n, mw := min s.mw mw, size := s.size, fn := s.fn, df := s.df }
  | some d => { tmps := (d, v) :: s.tmps, heap := h, next := n, mw := min s.mw mw, size := s.size, fn := s.fn, df := s.df }
theorem putSt_sound {s : St} {dst : Option Tmp} {v : Value} {h : Heap} {n mw : Nat} {K : St → Prop} (hk : putSt s dst v h n mw K) : K (putS s dst v h n mw) ∧ ∀ d, dst = some d → d < s.size := by
  rw [putSt_eq] at hk
  split at hk
  · exact ⟨hk, fun _ h => by cases h⟩
  · obtain ⟨h1, h2⟩ := chk_true hk
    exact ⟨h2, fun d hd => by cases hd; simpa [Nat.blt_eq] using h1⟩
theorem putK_sound {s : St} {o : Oper} {v : Value} {h : Heap} {n mw : Nat} {K : St → Prop} (hk : putK E s o v h n mw K) : K (putS s o.dst v h n mw) ∧ ∀ d, o.dst = some d → d < s.size := by
  unfold putK at hk
  split at hk
  · split at hk
    · rename_i b
      split at hk
      · obtain ⟨rfl, hk⟩ := hk
        exact putSt_sound hk
      · cases b <;> exact putSt_sound hk
    · exact putSt_sound hk
  · exact putSt_sound hk
theorem getTmp_put {s : St} {dst : Option Tmp} {v : Value} {h : Heap} {n mw : Nat} (t : Nat) : getTmp (putS s dst v h n mw).tmps t = if dst = some t then v else getTmp s.tmps t := by
  unfold putS
  cases dst with
  | none => simp
  | some d =>
    simp only [getTmp_cons, Option.some.injEq]
    split
    · rename_i hb; rw [if_pos (beq_true hb)]
    · rename_i hb; rw [if_neg (beq_false hb)]
@[simp] theorem putS_heap {s : St} {dst : Option Tmp} {v : Value} {h : Heap} {n mw : Nat} : (putS s dst v h n mw).heap = h := by cases dst <;> rfl
@[simp] theorem putS_next {s : St} {dst : Option Tmp} {v : Value} {h : Heap} {n mw : Nat} : (putS s dst v h n mw).next = n := by cases dst <;> rfl
@[simp] theorem putS_mw {s : St} {dst : Option Tmp} {v : Value} {h : Heap} {n mw : Nat} : (putS s dst v h n mw).mw = min s.mw mw := by cases dst <;> rfl
@[simp] theorem putS_fn {s : St} {dst : Option Tmp} {v : Value} {h : Heap} {n mw : Nat} : (putS s dst v h n mw).fn = s.fn := by cases dst <;> rfl
@[simp] theorem putS_df {s : St} {dst : Option Tmp} {v : Value} {h : Heap} {n mw : Nat} : (putS s dst v h n mw).df = s.df := by cases dst <;> rfl
@[simp] theorem putS_size {s : St} {dst : Option Tmp} {v : Value} {h : Heap} {n mw : Nat} : (putS s dst v h n mw).size = s.size := by cases dst <;> rfl
theorem getD_put (a : Act) (dst : Option Tmp) (v : Value) (t : Nat) (hd : ∀ d, dst = some d → d < a.tmps.size) : (a.put dst v).tmps.getD t undef = if dst = some t then v else a.tmps.getD t undef := by
  cases dst with
  | none => simp [Act.put]
  | some d =>
    have := hd d rfl
    simp only [Act.put, Array.getD_eq_getD_getElem?, Option.some.injEq, Array.getElem?_setIfInBounds]
    by_cases h : d = t
    · subst h; simp [this]
    · simp [h]
theorem size_put (a : Act) (dst : Option Tmp) (v : Value) : (a.put dst v).tmps.size = a.tmps.size := by cases dst <;> simp [Act.put]
theorem df_put (a : Act) (dst : Option Tmp) (v : Value) : (a.put dst v).defers = a.defers := by cases dst <;> simp [Act.put]
theorem told_put {s : St} {dst : Option Tmp} {v : Value} {h : Heap} {n mw : Nat} (t : Nat) : told (putS s dst v h n mw).tmps t = true ↔ dst = some t ∨ told s.tmps t = true := by
  unfold putS
  cases dst with
  | none => simp
  | some d =>
    simp only [told_cons, Option.some.injEq]
    split
    · rename_i hb; simp [beq_true hb]
    · rename_i hb; simp [beq_false hb]
theorem ToldE.put {s : St} {dst : Option Tmp} {v : Value} {h : Heap} {n mw : Nat} {t : Nat} (ht : dst ≠ some t → ToldE E s t) : ToldE E (putS s dst v h n mw) t := fun hw => by
  rw [told_put]
  by_cases e : dst = some t
  · exact .inl e
  · exact .inr (ht e hw)
theorem ToldE.of_put {s : St} {dst : Option Tmp} {v : Value} {h : Heap} {n mw : Nat} {t : Nat} (hne : dst ≠ some t) (ht : ToldE E (putS s dst v h n mw) t) : ToldE E s t := fun hw => by
  have := ht hw
  rw [told_put] at this
  exact this.resolve_left hne
theorem put_tmp {μ' κ' : Nat → Nat} {s : St} {a : Act} {dst : Option Tmp} {u v : Value} {h : Heap} {n mw : Nat} (hsz : a.tmps.size = s.size) (hd : ∀ d, dst = some d → d < s.size) (hu : u = renV μ' κ' v)
    (ht : ∀ t, dst ≠ some t → ToldE E s t → a.tmps.getD t undef = renV μ' κ' (getTmp s.tmps t)) (t : Nat) (hto : ToldE E (putS s dst v h n mw) t) : (a.put dst u).tmps.getD t undef = renV μ' κ' (getTmp (putS s dst v h n mw).tmps t) := by
  rw [getD_put a dst u t (fun d h => by rw [hsz]; exact hd d h), getTmp_put]
  split
  · exact hu
  · rename_i hne; exact ht t hne (hto.of_put hne)
theorem TWF.put {D : Nat → Prop} {s : St} {dst : Option Tmp} {v : Value} {h : Heap} {n mw : Nat} (ht : ∀ t, WF D (getTmp s.tmps t)) (hv : WF D v) (hh : HWF D h) : TWF D (putS s dst v h n mw) := by
  refine ⟨by simpa using hh, fun t => ?_⟩
  rw [getTmp_put]
  split
  · exact hv
  · exact ht t
theorem SWf.op {o : Oper} {s : St} {v : Value} {h : Heap} {n mw : Nat} (ho : operOk E.P.globals.size o = true) (hw : OpWf E (o.op.operands.toList.map (evalO s.tmps)) s.heap s.next v h n) : SWf E s (putS s o.dst v h n mw) := by
  obtain ⟨h0, h1⟩ := hw
  refine ⟨by simpa using h0, fun D hD hG hT => ?_⟩
  obtain ⟨a, b⟩ := h1 D hD hG (fun x hx => by
    obtain ⟨y, hy, rfl⟩ := List.mem_map.1 hx
    exact hT.eval hG (List.all_eq_true.1 ho y hy)) hT.1
  rw [putS_next]
  exact TWF.put (fun t => (hT.2 t).mono Dp_mono) a b
theorem op_step {o : Oper} {s : St} {v : Value} {h : Heap} {n mw : Nat} (ho : operOk E.P.globals.size o = true) (hd : ∀ d, o.dst = some d → d < s.size) (hs : OpSem E base o (evalO s.tmps) s.heap s.next v h n mw)
    {μ κ : Nat → Nat} {a : Act} {w : World} (hr : StRel E base μ κ s a w) (hto : ∀ t, Operand.tmp t ∈ o.op.operands.toList → ToldE E s t) {N : Act → World → Prop} {Q : Exit → Act → World → Prop} (hN : ∀ a' w', StOut E base s (putS s o.dst v h n mw) μ κ w a' w' → N a' w') : o.wp E.P a w N Q := by
  have hops := fun x hx => List.all_eq_true.1 ho x hx
  have hwf := SWf.op (mw := mw) ho hs.1
  have hout := hs.2 μ κ w a.eval hr.rel (fun x hx => hr.eval (hops x hx) fun t e => hto t (e ▸ hx)) hr.wf.1 (fun x hx => hr.wf.eval (fun g hg => Nat.lt_of_lt_of_le hg hr.gl) (hops x hx)) hr.gl
  have fin : ∀ u w', Out E base h v mw s.next n μ κ w u w' → StOut E base s (putS s o.dst v h n mw) μ κ w (a.put o.dst u) w' := by
    intro u w' ⟨μ', κ', h1, h2, h3⟩
    refine ⟨μ', κ', by simpa using h1.mono (Nat.min_le_right _ _), by simpa using h3, by rw [size_put, putS_size]; exact hr.sz, ?_, by rw [df_put, putS_df, defs_same hr.dw fun k hk => h1.ag k (.inl hk)]; exact hr.df, by rw [putS_df, putS_next]; exact hr.dw.mono fun k hk => Nat.lt_of_lt_of_le hk hs.1.1, ?_, by rw [putS_next]; exact Nat.le_trans hr.gl hs.1.1⟩
    · refine put_tmp hr.sz hd h2 fun t _ hx => ?_
      rw [hr.tmp t hx]
      exact (hr.wf.2 t _ _ _ _ fun k hk => h1.ag k (.inl hk)).symm
    · have hx := hwf.2 (· < s.next) (fun _ h => h) (fun g hg => Nat.lt_of_lt_of_le hg hr.gl) hr.wf
      have hm : ∀ k, Dp (· < s.next) s.next (putS s o.dst v h n mw).next k → k < (putS s o.dst v h n mw).next := fun k hk => by
        have := hwf.1
        rcases hk with hk | hk
        · exact Nat.lt_of_lt_of_le hk this
        · exact hk.2
      exact ⟨hx.1.mono hm, fun t => (hx.2 t).mono hm⟩
  unfold Oper.wp
  generalize (execOp a.eval o).run E.P w = r at *
  cases r with
  | halt x w' => exact hout.elim
  | ok nx w' =>
    cases nx with
    | value u => exact hN _ _ (fin u w' hout)
    | skip => exact hN _ _ (fin _ w' hout)
    | enter f args =>
      obtain ⟨rfl, hc⟩ := hout
      refine Calls.mono hc fun e w'' he => ?_
      obtain ⟨u, rfl, hu⟩ := he
      exact hN _ _ (fin u w'' hu)
    | _ => exact hout.elim
theorem skip_step {o : Oper} {s : St} (hd : ∀ d, o.dst = some d → d < s.size) {μ κ : Nat → Nat} {a : Act} {w : World} (hr : StRel E base μ κ s a w) :
    StOut E base s (putS s o.dst undef s.heap s.next big) μ κ w (a.put o.dst undef) w := by
  refine ⟨μ, κ, by simpa using Step.refl _ _ _ _ _, by simpa using hr.rel, by rw [size_put, putS_size]; exact hr.sz, put_tmp hr.sz hd (by simp) (fun t _ => hr.tmp t), by rw [df_put, putS_df]; exact hr.df, by rw [putS_df, putS_next]; exact hr.dw, ?_, by rw [putS_next]; exact hr.gl⟩
  rw [putS_next]
  exact TWF.put hr.wf.2 WF.undef hr.wf.1
theorem SWf.skip {o : Oper} {s : St} : SWf E s (putS s o.dst undef s.heap s.next big) := by
  refine ⟨by simp, fun D hD hG hT => ?_⟩
  exact TWF.put (fun t => (hT.2 t).mono Dp_mono) WF.undef (hT.1.mono Dp_mono)
theorem ren_bool {μ κ : Nat → Nat} {v : Value} {b : Bool} (h : renV μ κ v = .bool b) : v = .bool b := by
  cases v with
  | bool c => simpa using h
  | slice a n c => cases a <;> simp at h
  | _ => simp at h
theorem guard_gen {ops : List Oper} {tm : List (Nat × Value)} {μ κ : Nat → Nat} {a : Act} {j : Nat} (ht : ∀ o d, nth ops j = some o → o.dst = some d → a.tmps.getD d undef = renV μ κ (getTmp tm d)) :
    yielded ops.toArray a.tmps j = guardV ops tm j := by
  unfold yielded guardV
  rw [nth_eq] at *
  simp only [List.getElem?_toArray]
  cases ho : ops[j]? with
  | none => simp
  | some o =>
    cases hd : o.dst with
    | none => simp [hd]
    | some d =>
      have h := ht o d ho hd
      simp only [Option.bind_some, hd]
      rw [Array.getD_eq_getD_getElem?] at h
      cases hv : a.tmps[d]? with
      | none =>
        rw [hv] at h
        simp only [Option.getD_none] at h
        cases hg : getTmp tm d with
        | bool b => rw [hg] at h; simp [undef] at h
        | _ => rfl
      | some v =>
        rw [hv] at h
        simp only [Option.getD_some] at h
        cases hg : getTmp tm d with
        | bool b => rw [hg] at h; simp at h; simp [h]
        | _ =>
          cases v with
          | bool b => exact absurd (ren_bool h.symm) (by rw [hg]; simp)
          | _ => rfl
theorem StRel.guard {ops : List Oper} {μ κ : Nat → Nat} {s : St} {a : Act} {w : World} (h : StRel E base μ κ s a w) (j : Nat) (ht : ∀ o d, nth ops j = some o → o.dst = some d → ToldE E s d) : yielded ops.toArray a.tmps j = guardV ops s.tmps j :=
  guard_gen fun o d ho hd => h.tmp d (ht o d ho hd)
theorem needs_opd {ops rest : List Oper} {o : Oper} {s : St} (h : ∀ t ∈ needs ops (o :: rest), ToldE E s t) : ∀ t, Operand.tmp t ∈ o.op.operands.toList → ToldE E s t := fun t ht =>
  h t (by unfold needs; exact List.mem_append_left _ (List.mem_append_right _ (mem_tmpsOf ht)))
theorem needs_guard {ops rest : List Oper} {o : Oper} {s : St} (h : ∀ t ∈ needs ops (o :: rest), ToldE E s t) {j : Nat} {b : Bool} (hg : o.guard = some (j, b)) : ∀ p d, nth ops j = some p → p.dst = some d → ToldE E s d := fun p d hp hd =>
  h d (by
    unfold needs guardSlot
    rw [hg]
    simp only [hp, hd]
    exact List.mem_append_left _ (List.mem_append_left _ (List.mem_singleton.2 rfl)))
theorem needs_next {ops rest : List Oper} {o : Oper} {s : St} (h : ∀ t ∈ needs ops (o :: rest), ToldE E s t) {v : Value} {H : Heap} {n mw : Nat} : ∀ t ∈ needs ops rest, ToldE E (putS s o.dst v H n mw) t := fun t ht =>
  ToldE.put fun hne => h t (by
    unfold needs
    refine List.mem_append_right _ (List.mem_filter.2 ⟨ht, ?_⟩)
    unfold dstIs
    cases hd : o.dst with
    | none => rfl
    | some d =>
      have : d ≠ t := fun e => hne (by rw [hd, e])
      show (!Nat.beq d t) = true
      cases hb : Nat.beq d t with
      | true => exact absurd (beq_true hb) this
      | false => rfl)
theorem want_cases {ops : List Oper} {tm : List (Nat × Value)} {o : Oper} {yes no : Prop} (h : wantK ops tm o.guard yes no) :
    (yes ∧ Region.wanted o (guardV ops tm) = true) ∨ (no ∧ Region.wanted o (guardV ops tm) = false) := by
  rw [wantK_eq] at h
  unfold Region.wanted
  cases hg : o.guard with
  | none => rw [hg] at h; exact .inl ⟨h, rfl⟩
  | some p =>
    obtain ⟨j, want⟩ := p
    rw [hg] at h
    simp only at h ⊢
    split at h
    · rename_i hv; rw [hv]; cases want
      · exact .inr ⟨h, rfl⟩
      · exact .inl ⟨h, rfl⟩
    · rename_i hv; rw [hv]; cases want
      · exact .inl ⟨h, rfl⟩
      · exact .inr ⟨h, rfl⟩
    · rename_i hv; rw [hv]; exact .inr ⟨h, rfl⟩
theorem wanted_congr {o : Oper} {y y' : Nat → Option Bool} (h : ∀ j b, o.guard = some (j, b) → y j = y' j) : Region.wanted o y = Region.wanted o y' := by
  unfold Region.wanted
  cases hg : o.guard with
  | none => rfl
  | some p => simp only [h p.1 p.2 (by rw [hg])]
structure Sem1 (E : Env) (s s' : St) : Prop where
  wf : SWf E s s'
  mw : s'.mw ≤ s.mw
  size : s'.size = s.size
  dwf : ∀ D : Nat → Prop, (∀ k, D k → k < s.next) → (∀ g, g < E.P.globals.size → D g) → TWF D s → DWF D s.df → DWF (Dp D s.next s'.next) s'.df
theorem Sem1.refl (s : St) : Sem1 E s s := ⟨SWf.refl E s, Nat.le_refl _, rfl, fun _ _ _ _ h => h.mono Dp_mono⟩
theorem Sem1.trans {s s1 s2 : St} (h : Sem1 E s s1) (k : Sem1 E s1 s2) : Sem1 E s s2 := by
  refine ⟨h.wf.trans k.wf, Nat.le_trans k.mw h.mw, k.size.trans h.size, fun D hD hG hT hd => ?_⟩
  have l1 := h.wf.1
  have l2 := k.wf.1
  have h1 := h.wf.2 D hD hG hT
  have h2 := h.dwf D hD hG hT hd
  refine (k.dwf (Dp D s.next s1.next) (fun j hj => hj.elim (fun hj => Nat.lt_of_lt_of_le (hD j hj) l1) (fun hj => hj.2)) (fun g hg => .inl (hG g hg)) h1 h2).mono fun j hj => ?_
  rcases hj with (hj | hj) | hj
  · exact .inl hj
  · exact .inr ⟨hj.1, by omega⟩
  · exact .inr ⟨by omega, hj.2⟩
theorem Sem1.put {o : Oper} {s : St} {v : Value} {h : Heap} {n mw : Nat} (hw : SWf E s (putS s o.dst v h n mw)) : Sem1 E s (putS s o.dst v h n mw) :=
  ⟨hw, by simp; exact Nat.min_le_left _ _, by simp, fun _ _ _ _ hd => by rw [putS_df]; exact hd.mono Dp_mono⟩
theorem deferK_spec {ρ : Operand → Value} {c : Call} {K : FuncId × List Value → Prop} (hk : deferK ρ c K) : ∃ f g caps, c.callee = .value f ∧ c.args = #[] ∧ ρ f = .func (.func g) #[] ⟨caps⟩ ∧ K (g, caps) := by
  unfold deferK at hk
  split at hk
  · rename_i f hc ha
    split at hk
    · rename_i g caps hf
      exact ⟨f, g, caps, hc, Array.ext' ha, hf, hk⟩
    · exact hk.elim
  · exact hk.elim
theorem defer_step {o : Oper} {c : Call} (hop : o.op = .defer c) {s : St} {f : Operand} {g : FuncId} {caps : List Value} (hc : c.callee = .value f) (ha : c.args = #[]) (hf : evalO s.tmps f = .func (.func g) #[] ⟨caps⟩) (ho : operOk E.P.globals.size o = true)
    (hd : ∀ d, o.dst = some d → d < s.size) {μ κ : Nat → Nat} {a : Act} {w : World} (hr : StRel E base μ κ s a w) (hto : ∀ t, Operand.tmp t ∈ o.op.operands.toList → ToldE E s t) {N : Act → World → Prop} {Q : Exit → Act → World → Prop}
    (hN : ∀ a' w', StOut E base s (putS { s with df := (g, caps) :: s.df } o.dst undef s.heap s.next big) μ κ w a' w' → N a' w') : o.wp E.P a w N Q := by
  have hops : o.op.operands.toList = f :: c.args.toList := by simp [hop, Op.operands, Call.operands, hc]
  have hfo : opdOk E.P.globals.size f = true := List.all_eq_true.1 ho f (by rw [hops]; exact List.mem_cons_self ..)
  have e1 : a.eval f = .func (.func g) #[] (caps.map (renV μ κ)).toArray := by rw [hr.eval hfo fun t e => hto t (by rw [hops, e]; exact List.mem_cons_self ..), hf]; simp
  have hw : WF (· < s.next) (evalO s.tmps f) := hr.wf.eval (fun g hg => Nat.lt_of_lt_of_le hg hr.gl) hfo
  rw [hf] at hw
  have hcap := (WF.func.1 hw).2
  have e : (execOp a.eval o).run E.P w = .ok (.defer (defOf μ κ (g, caps))) w := by
    simp [execOp, hop, resolve, hc, e1, ha, Deferred.ofValue, defOf]
  unfold Oper.wp
  rw [e, Oper.upon_defer]
  refine hN _ _ ⟨μ, κ, by simpa using Step.refl _ _ _ _ _, by simpa using hr.rel, by rw [size_put, putS_size]; exact hr.sz, ?_, ?_, ?_, ?_, by rw [putS_next]; exact hr.gl⟩
  · exact put_tmp (s := { s with df := (g, caps) :: s.df }) (a := { a with defers := defOf μ κ (g, caps) :: a.defers }) hr.sz hd (by simp) fun t _ => hr.tmp t
  · rw [df_put, putS_df]
    show defOf μ κ (g, caps) :: a.defers = _
    rw [hr.df]; rfl
  · rw [putS_df, putS_next]
    intro d hm v hv
    rcases List.mem_cons.1 hm with rfl | hm
    · exact hcap v hv
    · exact hr.dw d hm v hv
  · rw [putS_next]
    exact TWF.put (s := { s with df := (g, caps) :: s.df }) hr.wf.2 WF.undef hr.wf.1
theorem Sem1.defer {o : Oper} {c : Call} (hop : o.op = .defer c) {s : St} {f : Operand} {g : FuncId} {caps : List Value} (hc : c.callee = .value f) (hf : evalO s.tmps f = .func (.func g) #[] ⟨caps⟩) (ho : operOk E.P.globals.size o = true) :
    Sem1 E s (putS { s with df := (g, caps) :: s.df } o.dst undef s.heap s.next big) := by
  refine ⟨⟨by simp, fun D hD hG hT => ?_⟩, by simp; exact Nat.min_le_left _ _, by simp, fun D hD hG hT hdf => ?_⟩
  · exact TWF.put (s := { s with df := (g, caps) :: s.df }) (fun t => (hT.2 t).mono Dp_mono) WF.undef (hT.1.mono Dp_mono)
  · rw [putS_df]
    have hops : o.op.operands.toList = f :: c.args.toList := by simp [hop, Op.operands, Call.operands, hc]
    have hw := hT.eval hG (List.all_eq_true.1 ho f (by rw [hops]; exact List.mem_cons_self ..))
    rw [hf] at hw
    intro d hm v hv
    rcases List.mem_cons.1 hm with rfl | hm
    · exact ((WF.func.1 hw).2 v hv).mono Dp_mono
    · exact (hdf d hm v hv).mono Dp_mono
theorem StOut.refl {s : St} {μ κ : Nat → Nat} {a : Act} {w : World} (h : StRel E base μ κ s a w) : StOut E base s s μ κ w a w := ⟨μ, κ, Step.refl _ _ _ _ _, h⟩
theorem opsK_sound (hE : EnvOk E base) {call : CallFn} (hcall : CallOk E base call) (ops : List Oper) {K : St → Prop} : ∀ (rest : List Oper) (s : St), rest.all (operOk E.P.globals.size) = true → (∀ t ∈ needs ops rest, ToldE E s t) → opsK E call ops rest s K →
    ∃ s', K s' ∧ Sem1 E s s' ∧ ∀ μ κ a w, StRel E base μ κ s a w → ∀ Q : Exit → Act → World → Prop, (∀ a' w', StOut E base s s' μ κ w a' w' → Q .normal a' w') → wpList E.P ops.toArray Q rest a w := by
  intro rest
  induction rest with
  | nil =>
    intro s _ _ hk
    exact ⟨s, hk, Sem1.refl s, fun μ κ a w hr Q hQ => wpList_nil (hQ a w (StOut.refl hr))⟩
  | cons o rest ih =>
    intro s hok hne hk
    simp only [List.all_cons, Bool.and_eq_true] at hok
    obtain ⟨ho, hrest⟩ := hok
    rw [opsK_cons] at hk
    rcases want_cases hk with ⟨hk, hw⟩ | ⟨hk, hw⟩
    · split at hk
      · rename_i c hop
        obtain ⟨f, g, caps, hc, ha, hf, hk⟩ := deferK_spec hk
        obtain ⟨h3, hd⟩ := putSt_sound hk
        obtain ⟨s', hK, hs, hwp⟩ := ih _ hrest (needs_next (s := { s with df := (g, caps) :: s.df }) hne) h3
        refine ⟨s', hK, Sem1.trans (Sem1.defer hop hc hf ho) hs, fun μ κ a w hr Q hQ => ?_⟩
        unfold wpList
        rw [if_pos (by rw [wanted_congr (fun j b hg => hr.guard (ops := ops) j (needs_guard hne hg))]; exact hw)]
        refine .inl (defer_step hop hc ha hf ho hd hr (needs_opd hne) fun a' w' ⟨μ', κ', q1, q2⟩ => hwp μ' κ' a' w' q2 Q fun a'' w'' q3 => hQ _ _ ?_)
        exact StOut.trans (s1 := putS { s with df := (g, caps) :: s.df } o.dst undef s.heap s.next big) q1 hs.mw q3
      · obtain ⟨v, h, n, mw, h1, h2⟩ := opK_sound hE hcall hk
        obtain ⟨h3, hd⟩ := putK_sound h1
        obtain ⟨s', hK, hs, hwp⟩ := ih _ hrest (needs_next hne) h3
        refine ⟨s', hK, Sem1.trans (Sem1.put (SWf.op ho h2.1)) hs, fun μ κ a w hr Q hQ => ?_⟩
        unfold wpList
        rw [if_pos (by rw [wanted_congr (fun j b hg => hr.guard (ops := ops) j (needs_guard hne hg))]; exact hw)]
        refine .inl (op_step ho hd h2 hr (needs_opd hne) fun a' w' ⟨μ', κ', q1, q2⟩ => hwp μ' κ' a' w' q2 Q fun a'' w'' q3 => hQ _ _ (StOut.trans q1 hs.mw q3))
    · obtain ⟨h3, hd⟩ := putSt_sound hk
      obtain ⟨s', hK, hs, hwp⟩ := ih _ hrest (needs_next hne) h3
      refine ⟨s', hK, Sem1.trans (Sem1.put SWf.skip) hs, fun μ κ a w hr Q hQ => ?_⟩
      unfold wpList
      rw [if_neg (by rw [wanted_congr (fun j b hg => hr.guard (ops := ops) j (needs_guard hne hg))]; simp [hw])]
      obtain ⟨μ', κ', q1, q2⟩ := skip_step (E := E) (base := base) hd hr
      exact hwp μ' κ' _ _ q2 Q fun a'' w'' q3 => hQ _ _ (StOut.trans q1 hs.mw q3)
end
end Go.Pe

namespace Go.Pe
open Go Go.RowKit
instance : Membership Nat Msk := ⟨fun a n => inL a n = true⟩
theorem inL_iff {l : Msk} {n : Nat} : inL l n = true ↔ n ∈ l := Iff.rfl
theorem inL_test (a : Msk) (n : Nat) : inL a n = a.m.testBit n := by
  have h : ∀ x : Nat, Nat.beq (Nat.land x 1) 1 = (1 &&& x != 0) := fun x => by
    have h1 : Nat.land x 1 = x % 2 := by
      show x &&& 1 = x % 2
      exact Nat.and_one_is_mod x
    have h2 : 1 &&& x = x % 2 := by rw [Nat.and_comm]; exact Nat.and_one_is_mod x
    rw [h1, h2]
    rcases Nat.mod_two_eq_zero_or_one x with h | h <;> rw [h] <;> rfl
  exact h _
theorem mem_or {a b : Msk} {j : Nat} : j ∈ orM a b ↔ j ∈ a ∨ j ∈ b := by
  rw [← inL_iff, ← inL_iff, ← inL_iff, inL_test, inL_test, inL_test]
  show ((a.m ||| b.m).testBit j = true) ↔ _
  rw [Nat.testBit_or, Bool.or_eq_true]
theorem mem_bit {k j : Nat} : j ∈ bitM k ↔ j = k := by
  rw [← inL_iff, inL_test]
  show ((1 <<< k).testBit j = true) ↔ _
  rw [Nat.one_shiftLeft, Nat.testBit_two_pow]
  simp [eq_comm]
theorem not_mem_none {j : Nat} : ¬ j ∈ (⟨0⟩ : Msk) := by
  rw [← inL_iff, inL_test]
  simp
theorem allI_spec {p : Nat → Oper → Bool} : ∀ (l : List Oper) (i : Nat), allI p i l = true → ∀ (m : Nat) o, l[m]? = some o → p (i + m) o = true := by
  intro l
  induction l with
  | nil => intro i _ m o h; simp at h
  | cons x l ih =>
    intro i h m o hm
    unfold allI at h
    split at h
    · rename_i hp
      cases m with
      | zero => simp at hm; subst hm; exact hp
      | succ m =>
        have := ih (i + 1) h m o (by simpa using hm)
        have e : i + (m + 1) = i + 1 + m := by omega
        rw [e]; exact this
    · cases h
theorem nthL_append (l : List Msk) (x : Msk) (k : Nat) : nthL (l ++ [x]) k = if k = l.length then x else nthL l k := by
  induction l generalizing k with
  | nil => cases k <;> simp [nthL]
  | cons y l ih => cases k with
    | zero => simp [nthL]
    | succ k => simp [nthL, ih]
theorem ancOf_congr {acc acc' : List Msk} {i : Nat} (h : ∀ k, k < i → nthL acc k = nthL acc' k) : ∀ es, ancOf acc i es = ancOf acc' i es := by
  intro es
  induction es with
  | nil => rfl
  | cons e es ih =>
    simp only [ancOf]
    split
    · split
      · rename_i hb; rw [ih, h e.on (by simpa [Nat.blt_eq] using hb)]
      · exact ih
    · exact ih
theorem ancL_spec : ∀ (l : List Oper) (acc : List Msk) (i : Nat), acc.length = i →
    (∀ k, k < i → nthL (ancL acc i l) k = nthL acc k) ∧ ∀ (m : Nat) o, l[m]? = some o → nthL (ancL acc i l) (i + m) = ancOf (ancL acc i l) (i + m) o.after.toList := by
  intro l
  induction l with
  | nil => intro acc i _; exact ⟨fun _ _ => rfl, fun m o h => by simp at h⟩
  | cons x l ih =>
    intro acc i hl
    have hl2 : (acc ++ [ancOf acc i x.after.toList]).length = i + 1 := by simp [hl]
    obtain ⟨h1, h2⟩ := ih _ _ hl2
    simp only [ancL]
    have h0 : ∀ k, k < i → nthL (ancL (acc ++ [ancOf acc i x.after.toList]) (i + 1) l) k = nthL acc k := fun k hk => by
      rw [h1 k (by omega), nthL_append, if_neg (by omega)]
    refine ⟨h0, fun m o hm => ?_⟩
    cases m with
    | zero =>
      simp at hm; subst hm
      show nthL _ i = ancOf _ i _
      rw [h1 i (by omega), nthL_append, if_pos hl.symm]
      exact ancOf_congr (fun k hk => (h0 k hk).symm) _
    | succ m =>
      have e : i + (m + 1) = i + 1 + m := by omega
      rw [e]; exact h2 m o (by simpa using hm)
theorem mem_ancOf {acc : List Msk} {i j : Nat} : ∀ es, j ∈ ancOf acc i es → ∃ e ∈ es, Region.binds .any e = true ∧ e.on < i ∧ (j = e.on ∨ j ∈ nthL acc e.on) := by
  intro es
  induction es with
  | nil => intro h; exact absurd h not_mem_none
  | cons e es ih =>
    intro h
    simp only [ancOf] at h
    split at h
    · rename_i hb
      split at h
      · rename_i hlt
        rcases (mem_or.1 h).imp mem_bit.1 mem_or.1 with h | h | h
        · exact ⟨e, List.mem_cons_self .., hb, by simpa [Nat.blt_eq] using hlt, .inl h⟩
        · exact ⟨e, List.mem_cons_self .., hb, by simpa [Nat.blt_eq] using hlt, .inr h⟩
        · obtain ⟨e', h1, h2⟩ := ih h; exact ⟨e', List.mem_cons_of_mem _ h1, h2⟩
      · obtain ⟨e', h1, h2⟩ := ih h; exact ⟨e', List.mem_cons_of_mem _ h1, h2⟩
    · obtain ⟨e', h1, h2⟩ := ih h; exact ⟨e', List.mem_cons_of_mem _ h1, h2⟩
theorem ancOf_sub {acc : List Msk} {i : Nat} {e : Edge} (hb : Region.binds .any e = true) (hlt : e.on < i) : ∀ es, e ∈ es → e.on ∈ ancOf acc i es ∧ ∀ j, j ∈ nthL acc e.on → j ∈ ancOf acc i es := by
  intro es
  induction es with
  | nil => intro h; cases h
  | cons x es ih =>
    intro h
    rcases List.mem_cons.1 h with rfl | h
    · simp only [ancOf, hb]
      have : Nat.blt e.on i = true := by simpa [Nat.blt_eq] using hlt
      simp only [this]
      exact ⟨mem_or.2 (.inl (mem_bit.2 rfl)), fun j hj => mem_or.2 (.inr (mem_or.2 (.inl hj)))⟩
    · obtain ⟨h1, h2⟩ := ih h
      simp only [ancOf]
      split
      · split
        · exact ⟨mem_or.2 (.inr (mem_or.2 (.inr h1))), fun j hj => mem_or.2 (.inr (mem_or.2 (.inr (h2 j hj))))⟩
        · exact ⟨h1, h2⟩
      · exact ⟨h1, h2⟩
section
variable {ops : List Oper}
def anc (ops : List Oper) (i : Nat) : Msk := nthL (ancL [] 0 ops) i
theorem anc_eq {i : Nat} {o : Oper} (h : ops[i]? = some o) : anc ops i = ancOf (ancL [] 0 ops) i o.after.toList := by
  have := (ancL_spec ops [] 0 rfl).2 i o h
  simpa [anc] using this
theorem anc_spec {i j : Nat} {o : Oper} (h : ops[i]? = some o) (hj : j ∈ anc ops i) : ∃ e ∈ o.after, Region.binds .any e = true ∧ e.on < i ∧ (j = e.on ∨ j ∈ anc ops e.on) := by
  rw [anc_eq h] at hj
  obtain ⟨e, h1, h2⟩ := mem_ancOf _ hj
  exact ⟨e, by simpa using h1, h2⟩
theorem anc_lt : ∀ (i j : Nat), i < ops.length → j ∈ anc ops i → j < i := by
  intro i
  induction i using Nat.strongRecOn with
  | _ i ih =>
    intro j hi hj
    obtain ⟨e, _, _, hlt, h⟩ := anc_spec (List.getElem?_eq_getElem hi) hj
    rcases h with rfl | h
    · exact hlt
    · have := ih e.on hlt j (by omega) h; omega
theorem anc_trans : ∀ (i j k : Nat), i < ops.length → j ∈ anc ops i → k ∈ anc ops j → k ∈ anc ops i := by
  intro i
  induction i using Nat.strongRecOn with
  | _ i ih =>
    intro j k hi hj hk
    have ho := List.getElem?_eq_getElem hi
    obtain ⟨e, he, hb, hlt, h⟩ := anc_spec ho hj
    have hs := (ancOf_sub (acc := ancL [] 0 ops) hb hlt ops[i].after.toList (by simpa using he)).2
    rw [anc_eq ho]
    rcases h with rfl | h
    · exact hs k hk
    · exact hs k (ih e.on hlt j k (by omega) h hk)
def Shut (ops : List Oper) (S : Nat → Prop) : Prop := ∀ i o, ops[i]? = some o → S i → ∀ e ∈ o.after, Region.binds .any e = true → S e.on
theorem anc_shut {S : Nat → Prop} (hS : Shut ops S) : ∀ (i : Nat) o, ops[i]? = some o → (∀ e ∈ o.after, Region.binds .any e = true → S e.on) → ∀ j, j ∈ anc ops i → S j := by
  intro i
  induction i using Nat.strongRecOn with
  | _ i ih =>
    intro o ho hr j hj
    obtain ⟨e, he, hb, hlt, h⟩ := anc_spec ho hj
    have h1 := hr e he hb
    rcases h with rfl | h
    · exact h1
    · have hi : i < ops.length := (List.getElem?_eq_some_iff.1 ho).1
      have ho' := List.getElem?_eq_getElem (l := ops) (i := e.on) (by omega)
      exact ih e.on hlt _ ho' (hS e.on _ ho' h1) j h
theorem anc_in {S : Nat → Prop} (hS : Shut ops S) {i j : Nat} {o : Oper} (ho : ops[i]? = some o) (hi : S i) (hj : j ∈ anc ops i) : S j := anc_shut hS i o ho (hS i o ho hi) j hj
structure Static (ops : List Oper) : Prop where
  fw : ∀ (i : Nat) (o : Oper), ops[i]? = some o → ∀ e ∈ o.after, Region.binds .any e = true → e.on < i
  opd : ∀ (i : Nat) (o : Oper) t (j : Nat) (p : Oper), ops[i]? = some o → Operand.tmp t ∈ o.op.operands.toList → ops[j]? = some p → p.dst = some t → j ∈ anc ops i ∨ i = j ∨ i ∈ anc ops j
  gd : ∀ (i : Nat) (o : Oper) g b, ops[i]? = some o → o.guard = some (g, b) → g ∈ anc ops i
  dst : ∀ (i : Nat) (o : Oper) (j : Nat) (p : Oper) d, ops[i]? = some o → ops[j]? = some p → o.dst = some d → p.dst = some d → i = j
theorem dstIs_of {o : Oper} {t : Nat} (h : o.dst = some t) : dstIs o t = true := by simp [dstIs, h]
theorem static_of (h : drawStatic ops (ancL [] 0 ops) = true) : Static ops := by
  have key : ∀ (i : Nat) o, ops[i]? = some o → _ := fun i o ho => allI_spec ops 0 h i o ho
  simp only [Nat.zero_add, Bool.and_eq_true] at key
  refine ⟨fun i o ho e he hb => ?_, fun i o t j p ho ht hj hd => ?_, fun i o g b ho hg => ?_, fun i o j p d ho hj h1 h2 => ?_⟩
  · have := (key i o ho).1.1.1
    have := List.all_eq_true.1 this e (by simpa using he)
    simp only [hb] at this
    simpa [Nat.blt_eq] using this
  · have := (key i o ho).1.1.2
    have := List.all_eq_true.1 this t (mem_tmpsOf ht)
    have := allI_spec ops 0 this j p hj
    simp only [Nat.zero_add, dstIs_of hd, Bool.or_eq_true, inL_iff] at this
    rcases this with (h | h) | h
    · exact .inl h
    · exact .inr (.inl (beq_true h))
    · exact .inr (.inr h)
  · have := (key i o ho).1.2
    rw [hg] at this
    exact inL_iff.1 this
  · have := (key i o ho).2
    rw [h1] at this
    have := allI_spec ops 0 this j p hj
    simp only [Nat.zero_add, dstIs_of h2] at this
    exact beq_true this
end
/-! ### The run in the text's order -/
theorem getBlk_keepH (p : Nat → Bool) (h : Heap) (k : Nat) : getBlk (keepH p h) k = if p k = true then getBlk h k else none := by
  induction h with
  | nil => simp [keepH, getBlk]
  | cons x h ih =>
    obtain ⟨j, b⟩ := x
    simp only [keepH]
    split
    · rename_i hp
      rw [getBlk_cons, getBlk_cons, ih]
      split
      · rename_i e; subst e; rw [if_pos hp]
      · rfl
    · rename_i hp
      rw [ih, getBlk_cons]
      split
      · rename_i h1
        rw [if_neg (fun e => by subst e; rw [h1] at hp; cases hp)]
      · rfl
theorem getBlk_append (a b : Heap) (k : Nat) : getBlk (a ++ b) k = (getBlk a k).or (getBlk b k) := by
  induction a with
  | nil => simp [getBlk]
  | cons x a ih =>
    obtain ⟨j, c⟩ := x
    rw [List.cons_append, getBlk_cons, getBlk_cons, ih]
    split <;> simp
theorem visible_spec {an : Msk} {rg : List (Nat × Nat × Nat)} {n0 k : Nat} (h : visible an rg n0 k = true) : k < n0 ∨ ∃ x ∈ rg, x.2.1 ≤ k ∧ k < x.2.2 ∧ x.1 ∈ an := by
  unfold visible at h
  split at h
  · rename_i hb; exact .inl (by simpa [Nat.blt_eq] using hb)
  · refine .inr ?_
    induction rg with
    | nil => simp [owned] at h
    | cons x rg ih =>
      obtain ⟨j, lo, hi⟩ := x
      simp only [owned] at h
      split at h
      · rename_i hb
        simp only [Bool.and_eq_true] at hb
        exact ⟨_, List.mem_cons_self .., ble_true hb.1, by simpa [Nat.blt_eq] using hb.2, inL_iff.1 h⟩
      · obtain ⟨x, hx, h'⟩ := ih h; exact ⟨x, List.mem_cons_of_mem _ hx, h'⟩
theorem hasB_iff {V : Heap} {k : Nat} : hasB V k = true ↔ ∃ b, getBlk V k = some b := by
  unfold hasB
  cases getBlk V k <;> simp
theorem inW_iff {V : Heap} {mw k : Nat} : inW V mw k = true ↔ mw ≤ k ∧ ∃ b, getBlk V k = some b := by
  unfold inW
  rcases hb : Nat.ble mw k with _ | _
  · have := ble_false hb
    simp only [Bool.false_eq_true, false_iff]
    intro h; omega
  · have := ble_true hb
    simp only [hasB_iff]
    exact ⟨fun h => ⟨this, h⟩, fun h => h.2⟩
theorem free_mono {W : Bool} {an : Msk} {k : Nat} : ∀ {rs : Recs}, freeOf W an k rs = true → freeOf false an k rs = true := by
  intro rs
  induction rs with
  | nil => intro _; rfl
  | cons x rs ih =>
    obtain ⟨j, V, mw⟩ := x
    intro h
    simp only [freeOf] at h ⊢
    split
    · rename_i hj; rw [hj] at h; exact ih h
    · rename_i hj
      rw [hj] at h
      simp only at h
      cases W with
      | false =>
        simp only at h ⊢
        split at h
        · cases h
        · exact ih h
      | true =>
        simp only at h
        split at h
        · cases h
        · rename_i hw
          have : inW V mw k = false := by
            cases hc : inW V mw k with
            | false => rfl
            | true => rw [hasB_iff.2 (inW_iff.1 hc).2] at hw; cases hw
          simp only [this]; exact ih h
theorem free_spec {an : Msk} {k : Nat} : ∀ {rs : Recs}, freeOf false an k rs = true → ∀ {j : Nat} {V : Heap} {mw : Nat}, (j, V, mw) ∈ rs → j ∉ an → inW V mw k = false := by
  intro rs
  induction rs with
  | nil => intro _ j V mw h; cases h
  | cons x rs ih =>
    obtain ⟨i, U, m⟩ := x
    intro h j V mw hm hj
    simp only [freeOf] at h
    split at h
    · rename_i hi
      rcases List.mem_cons.1 hm with e | hm
      · cases e; exact absurd (inL_iff.1 hi) hj
      · exact ih h hm hj
    · rename_i hi
      split at h
      · cases h
      · rename_i hw
        rcases List.mem_cons.1 hm with e | hm
        · cases e; exact hw
        · exact ih h hm hj
theorem noneIn_spec {V : Heap} {mw : Nat} : ∀ {U : Heap}, noneIn V mw U = true → ∀ {k : Nat} {b : Blk}, getBlk U k = some b → inW V mw k = false := by
  intro U
  induction U with
  | nil => intro _ k b h; simp [getBlk] at h
  | cons x U ih =>
    obtain ⟨m, c⟩ := x
    intro h k b hb
    simp only [noneIn] at h
    split at h
    · cases h
    · rename_i hw
      rw [getBlk_cons] at hb
      split at hb
      · rename_i e; subst e; exact hw
      · exact ih h hb
theorem apart_spec {an : Msk} {V : Heap} {mw : Nat} : ∀ {rs : Recs}, apartR an V mw rs = true → ∀ {j : Nat} {U : Heap} {m : Nat}, (j, U, m) ∈ rs → j ∉ an → ∀ {k : Nat} {b : Blk}, getBlk U k = some b → inW V mw k = false := by
  intro rs
  induction rs with
  | nil => intro _ j V mw h; cases h
  | cons x rs ih =>
    obtain ⟨i, U', m'⟩ := x
    intro h j U m hm hj k b hb
    simp only [apartR] at h
    split at h
    · rename_i hi
      rcases List.mem_cons.1 hm with e | hm
      · cases e; exact absurd (inL_iff.1 hi) hj
      · exact ih h hm hj hb
    · rename_i hi
      split at h
      · rename_i hw
        rcases List.mem_cons.1 hm with e | hm
        · cases e; exact noneIn_spec hw hb
        · exact ih h hm hj hb
      · cases h
theorem okV_spec {p : Nat → Bool} : ∀ (d : Nat) (v : Value), okV p d v = true → WF (fun k => p k = true) v := by
  intro d
  induction d with
  | zero => intro v h; simp [okV] at h
  | succ d ih =>
    intro v h
    have hl : ∀ (cs : Array Value), cs.toList.all (okV p d) = true → ∀ x ∈ cs.toList, WF (fun k => p k = true) x := fun cs hc x hx => ih x (List.all_eq_true.1 hc x hx)
    cases v with
    | iface t v => simp only [okV] at h; exact WF.iface.2 (ih v h)
    | agg cs => simp only [okV] at h; exact WF.agg.2 (hl cs h)
    | tuple cs => simp only [okV] at h; exact WF.tuple.2 (hl cs h)
    | pointer a => cases a with
      | none => exact WF.ptrNone
      | some a => simp only [okV] at h; exact WF.ptr.2 h
    | slice a n c => cases a with
      | none => exact WF.sliceNone _ _
      | some a => simp only [okV] at h; exact WF.slc.2 h
    | map r => intro μ κ μ' κ' _; rfl
    | bool b => exact WF.bool _
    | int k n => exact WF.int _ _
    | string s => exact WF.string _
    | nilIface => exact WF.nilI
    | nilFunc => intro μ κ μ' κ' _; rfl
    | func f a b =>
      simp only [okV, Bool.and_eq_true] at h
      exact WF.func.2 ⟨hl a h.1, hl b h.2⟩
    | float k b => intro μ κ μ' κ' _; rfl
    | complex k a b => intro μ κ μ' κ' _; rfl
    | chan r => simp [okV] at h
theorem okC_spec {p : Nat → Bool} : ∀ {l : List (Option Value)}, okC p l = true → ∀ v, some v ∈ l → WF (fun k => p k = true) v := by
  intro l
  induction l with
  | nil => intro _ v h; cases h
  | cons x l ih =>
    intro h v hv
    cases x with
    | none =>
      simp only [okC] at h
      rcases List.mem_cons.1 hv with e | hv
      · cases e
      · exact ih h v hv
    | some u =>
      simp only [okC] at h
      split at h
      · rename_i hu
        rcases List.mem_cons.1 hv with e | hv
        · cases e; exact okV_spec 8 v hu
        · exact ih h v hv
      · cases h
theorem okH_spec {p : Nat → Bool} : ∀ {h : Heap}, okH p h = true → ∀ k b, getBlk h k = some b → ∀ v, some v ∈ b.cells → WF (fun k => p k = true) v := by
  intro h
  induction h with
  | nil => intro _ k b hb; simp [getBlk] at hb
  | cons x h ih =>
    obtain ⟨m, c⟩ := x
    intro hh k b hb
    simp only [okH] at hh
    split at hh
    · rename_i hc
      rw [getBlk_cons] at hb
      split at hb
      · cases hb; exact okC_spec hc
      · exact ih hh k b hb
    · cases hh
def inD (g : Nat) (V : Heap) (k : Nat) : Prop := k < g ∨ ∃ b, getBlk V k = some b
theorem inB_iff {g : Nat} {V : Heap} {k : Nat} (h : inB g V k = true) : inD g V k := by
  unfold inB at h
  split at h
  · rename_i hb; exact .inl (by simpa [Nat.blt_eq] using hb)
  · exact .inr (hasB_iff.1 h)
theorem newIn_iff {lo hi k : Nat} : newIn lo hi k = true ↔ lo ≤ k ∧ k < hi := by
  unfold newIn
  rcases hb : Nat.ble lo k with _ | _
  · have := ble_false hb
    simp only [Bool.false_eq_true, false_iff]
    omega
  · have := ble_true hb
    simp only [Nat.blt_eq]
    exact ⟨fun h => ⟨this, h⟩, fun h => h.2⟩
def Wr (V : Heap) (mw k : Nat) : Prop := mw ≤ k ∧ ∃ b, getBlk V k = some b
def Merged (V : Heap) (mw lo hi : Nat) (h old H : Heap) : Prop :=
  (∀ k, Wr V mw k → getBlk H k = getBlk h k) ∧ (∀ k, ¬ Wr V mw k → lo ≤ k → k < hi → getBlk H k = (getBlk h k).or (getBlk old k)) ∧ (∀ k, ¬ Wr V mw k → ¬ (lo ≤ k ∧ k < hi) → getBlk H k = getBlk old k)
theorem merge_spec (V : Heap) (mw lo hi : Nat) (h old : Heap) : Merged V mw lo hi h old (mergeH V mw lo hi h old) := by
  have key : ∀ k, inW V mw k = true ↔ Wr V mw k := fun k => inW_iff
  refine ⟨fun k hk => ?_, fun k hk h1 h2 => ?_, fun k hk hn => ?_⟩
  · have hk := (key k).2 hk
    unfold mergeH
    rw [getBlk_append, getBlk_keepH, getBlk_keepH]
    simp [hk]
  · have hk : inW V mw k = false := by
      cases hc : inW V mw k with
      | false => rfl
      | true => exact absurd ((key k).1 hc) hk
    have hn := newIn_iff.2 ⟨h1, h2⟩
    unfold mergeH
    rw [getBlk_append, getBlk_keepH, getBlk_keepH]
    simp [hk, hn]
  · have hk : inW V mw k = false := by
      cases hc : inW V mw k with
      | false => rfl
      | true => exact absurd ((key k).1 hc) hk
    have hn : newIn lo hi k = false := by
      cases hc : newIn lo hi k with
      | false => rfl
      | true => exact absurd (newIn_iff.1 hc) hn
    unfold mergeH
    rw [getBlk_append, getBlk_keepH, getBlk_keepH]
    simp [hk, hn]
theorem merge_new {V : Heap} {mw lo hi : Nat} {h old : Heap} (hno : ∀ k, ¬ Wr V mw k) : Merged V mw lo hi h old (keepH (newIn lo hi) h ++ old) := by
  refine ⟨fun k hk => absurd hk (hno k), fun k _ h1 h2 => ?_, fun k _ hn => ?_⟩
  · rw [getBlk_append, getBlk_keepH, if_pos (newIn_iff.2 ⟨h1, h2⟩)]
  · rw [getBlk_append, getBlk_keepH, if_neg fun h => hn (newIn_iff.1 h), Option.none_or]
theorem merge_same {V : Heap} {mw lo : Nat} {h old : Heap} (hno : ∀ k, ¬ Wr V mw k) : Merged V mw lo lo h old old :=
  ⟨fun k hk => absurd hk (hno k), fun k _ h1 h2 => by omega, fun k _ _ => rfl⟩
section
variable {E : Env} {base : World}
inductive Kind (E : Env) (base : World) (ops : List Oper) (o : Oper) (s s1 : St) (V : Heap) (mw : Nat) : Prop where
  | skip (h1 : Region.wanted o (guardV ops s.tmps) = false) (h2 : V = []) (h3 : s1 = putS s o.dst undef s.heap s.next big)
  | op (v : Value) (h : Heap) (n : Nat) (H : Heap) (m : Nat) (h1 : Region.wanted o (guardV ops s.tmps) = true) (h2 : OpSem E base o (evalO s.tmps) V s.next v h n mw)
      (h3 : s.next ≤ n) (h4 : s1 = putS s o.dst v H n m) (h5 : (∀ k b, getBlk V k = some b → k < s.next) → Merged V mw s.next n h s.heap H)
      (h6 : s.next ≤ mw ∨ (m ≤ mw ∧ ∃ B, E.P.globals.size ≤ B ∧ B ≤ mw ∧ B ≤ s.next ∧ (∀ k b, getBlk V k = some b → ∀ u, some u ∈ b.cells → WF (inD B V) u) ∧ ∀ x ∈ o.op.operands.toList, WF (inD B V) (evalO s.tmps x)))
  | st (t : TypeId) (a x : Operand) (ad : Addr) (sz : Nat) (h' : Heap) (b : Blk) (h1 : Region.wanted o (guardV ops s.tmps) = true) (h2 : o.op = .store t a x) (h3 : evalO s.tmps a = .pointer (some ad))
      (h4 : sizeT E t = some sz) (h5 : (evalO s.tmps x).cells.size = sz) (h6 : storeO s.heap ad (evalO s.tmps x).cells.toList = some h') (h7 : getBlk s.heap ad.block = some b)
      (h8 : V = [(ad.block, b)]) (h9 : mw = ad.block) (h10 : s1 = putS s o.dst undef h' s.next ad.block)
structure DStep (E : Env) (base : World) (ops : List Oper) (n0 : Nat) (o : Oper) (i : Nat) (rg rg' : List (Nat × Nat × Nat)) (rs rs' : Recs) (s s1 : St) (V : Heap) (mw : Nat) : Prop where
  dst : ∀ d, o.dst = some d → d < s.size
  hrg : rg' = rg ∨ rg' = (i, s.next, s1.next) :: rg
  hrs : (V = [] ∧ rs' = rs) ∨ rs' = (i, V, mw) :: rs
  vis : ∀ k b, getBlk V k = some b → getBlk s.heap k = some b ∧ visible (anc ops i) rg n0 k = true ∧ freeOf false (anc ops i) k rs = true
  apart : s.next ≤ mw ∨ apartR (anc ops i) V mw rs = true
  kind : Kind E base ops o s s1 V mw
theorem not_wr {V : Heap} {mw n : Nat} (hV : ∀ k b, getBlk V k = some b → k < n) (h : n ≤ mw) : ∀ k, ¬ Wr V mw k := by
  rintro k ⟨h1, b, hb⟩
  have := hV k b hb
  omega
theorem oneK_sound (hE : EnvOk E base) {call : CallFn} (hcall : CallOk E base call) {ops : List Oper} {n0 : Nat} {o : Oper} {i : Nat} {rg : List (Nat × Nat × Nat)} {rs : Recs} {V : Heap} {s : St} {K : List (Nat × Nat × Nat) → Recs → St → Prop}
    (hV : ∀ k b, getBlk V k = some b → getBlk s.heap k = some b ∧ visible (anc ops i) rg n0 k = true ∧ freeOf false (anc ops i) k rs = true)
    (hw : Region.wanted o (guardV ops s.tmps) = true) (hk : oneK E call o (anc ops i) i rg rs V s K) : ∃ rg' rs' s1 mw, DStep E base ops n0 o i rg rg' rs rs' s s1 V mw ∧ K rg' rs' s1 := by
  rw [oneK_eq] at hk
  obtain ⟨v, h, n, mw, h1, h2⟩ := opK_sound hE hcall hk
  split at h1
  · rename_i hm
    have hm := ble_true hm
    obtain ⟨c, h1⟩ := chk_true h1
    have hn := ble_true c
    obtain ⟨h3, hd⟩ := putK_sound h1
    refine ⟨_, _, _, mw, ⟨hd, ?_, .inr rfl, hV, .inl hm, .op v h n _ big hw h2 hn rfl (fun hlow => merge_new (not_wr hlow hm)) (.inl hm)⟩, h3⟩
    split
    · exact .inl rfl
    · exact .inr (by rw [putS_next])
  · rename_i hm
    obtain ⟨c, h1⟩ := chk_true h1
    simp only [Bool.and_eq_true, shutV] at c
    obtain ⟨c1, c0, c2, c6, ⟨c3, c4⟩, c5⟩ := c
    have hn := ble_true c1
    obtain ⟨h3, hd⟩ := putK_sound h1
    refine ⟨_, _, _, mw, ⟨hd, ?_, .inr rfl, hV, .inr c5, .op v h n _ mw hw h2 hn rfl (fun _ => merge_spec _ _ _ _ _ _) (.inr ⟨Nat.le_refl _, E.low, ble_true c0, ble_true c2, ble_true c6, fun k b hb u hu => ?_, fun x hx => ?_⟩)⟩, h3⟩
    · split
      · exact .inl rfl
      · exact .inr (by rw [putS_next])
    · exact (okH_spec c3 k b hb u hu).mono fun k hk => inB_iff hk
    · exact (okV_spec 8 _ (List.all_eq_true.1 c4 _ (List.mem_map_of_mem hx))).mono fun k hk => inB_iff hk
theorem keepB_spec {p q : Nat → Bool} {h : Heap} {k : Nat} {b : Blk} (hb : getBlk (keepH (fun k => match q k with | true => p k | false => false) h) k = some b) : getBlk h k = some b ∧ p k = true := by
  rw [getBlk_keepH] at hb
  cases hq : q k with
  | true =>
    simp only [hq] at hb
    split at hb
    · rename_i hp; exact ⟨hb, hp⟩
    · cases hb
  | false => simp [hq] at hb
theorem footV_spec {lo : Nat} {p : Nat → Bool} {h : Heap} {vs : List Value} {k : Nat} {b : Blk} (hb : getBlk (footV lo p h vs) k = some b) : getBlk h k = some b ∧ p k = true := by
  unfold footV at hb
  simp only at hb
  split at hb
  · exact keepB_spec (q := fun k => opBlks k vs) hb
  · exact keepB_spec (q := fun k => inL ⟨reachN h 12 (namesL vs)⟩ k) hb
theorem drawK_run (hE : EnvOk E base) {call : CallFn} (hcall : CallOk E base call) {W : Bool} {ops : List Oper} {n0 : Nat} {K : St → Prop} : ∀ (rest : List Oper) (i : Nat) (rg : List (Nat × Nat × Nat)) (rs : Recs) (s : St),
    drawK E call W ops n0 (ancL [] 0 ops) rest i rg rs s K → ∃ (σ : Nat → St) (rf : Nat → List (Nat × Nat × Nat)) (lf : Nat → Recs) (Vf : Nat → Heap) (mf : Nat → Nat), σ i = s ∧ rf i = rg ∧ lf i = rs ∧ K (σ (i + rest.length)) ∧
      ∀ (m : Nat) o, rest[m]? = some o → DStep E base ops n0 o (i + m) (rf (i + m)) (rf (i + m + 1)) (lf (i + m)) (lf (i + m + 1)) (σ (i + m)) (σ (i + m + 1)) (Vf (i + m)) (mf (i + m)) := by
  intro rest
  induction rest with
  | nil => intro i rg rs s hk; exact ⟨fun _ => s, fun _ => rg, fun _ => rs, fun _ => [], fun _ => 0, rfl, rfl, rfl, hk, fun m o h => by simp at h⟩
  | cons o rest ih =>
    intro i rg rs s hk
    have key : ∀ (rg' : List (Nat × Nat × Nat)) (rs' : Recs) (s1 : St) (V : Heap) (mw : Nat), DStep E base ops n0 o i rg rg' rs rs' s s1 V mw → drawK E call W ops n0 (ancL [] 0 ops) rest (i + 1) rg' rs' s1 K →
        ∃ (σ : Nat → St) (rf : Nat → List (Nat × Nat × Nat)) (lf : Nat → Recs) (Vf : Nat → Heap) (mf : Nat → Nat), σ i = s ∧ rf i = rg ∧ lf i = rs ∧ K (σ (i + (o :: rest).length)) ∧
      ∀ (m : Nat) p, (o :: rest)[m]? = some p → DStep E base ops n0 p (i + m) (rf (i + m)) (rf (i + m + 1)) (lf (i + m)) (lf (i + m + 1)) (σ (i + m)) (σ (i + m + 1)) (Vf (i + m)) (mf (i + m)) := by
      intro rg' rs' s1 V mw hd hk
      obtain ⟨σ, rf, lf, Vf, mf, h1, h2, h3, h4, h5⟩ := ih (i + 1) rg' rs' s1 hk
      refine ⟨fun k => if k ≤ i then s else σ k, fun k => if k ≤ i then rg else rf k, fun k => if k ≤ i then rs else lf k, fun k => if k ≤ i then V else Vf k, fun k => if k ≤ i then mw else mf k, by simp, by simp, by simp, ?_, fun m p hm => ?_⟩
      · have : i + (o :: rest).length = i + 1 + rest.length := by simp; omega
        rw [this]
        have : ¬ (i + 1 + rest.length ≤ i) := by omega
        simpa [this] using h4
      · cases m with
        | zero =>
          simp at hm; subst hm
          have e2 : ¬ (i + 1 ≤ i) := by omega
          simpa [h1, h2, h3, e2] using hd
        | succ m =>
          have := h5 m p (by simpa using hm)
          have e : i + (m + 1) = i + 1 + m := by omega
          rw [e]
          have e1 : ¬ (i + 1 + m ≤ i) := by omega
          have e2 : ¬ (i + 1 + m + 1 ≤ i) := by omega
          simpa only [e1, e2, if_false] using this
    rw [drawK_cons] at hk
    rcases want_cases hk with ⟨hk, hw⟩ | ⟨hk, hw⟩
    · split at hk
      · rename_i hc
        obtain ⟨v, h, n, mw, h1, h2⟩ := opK_sound hE hcall hk
        obtain ⟨c, h1⟩ := chk_true h1
        simp only [Bool.and_eq_true] at c
        obtain ⟨h3, hd⟩ := putK_sound h1
        have hn := beq_true c.1.2
        have hm := ble_true c.2
        rw [hn] at hm h2
        refine key _ _ _ [] mw ⟨hd, .inl rfl, .inl ⟨rfl, rfl⟩, fun k b hb => by simp [getBlk] at hb, .inl hm, .op v h s.next s.heap big hw h2 (Nat.le_refl _) rfl (fun _ => merge_same fun k hk => ?_) (.inl hm)⟩ h3
        obtain ⟨_, b, hb⟩ := hk
        simp [getBlk] at hb
      · split at hk
        · rename_i t a hop
          split at hk
          · rename_i ad ha
            split at hk
            · rename_i b hb
              obtain ⟨hv, hk⟩ := chk_true hk
              simp only [Bool.and_eq_true] at hv
              obtain ⟨v, h, n, mw, h1, h2⟩ := opK_sound hE hcall hk
              obtain ⟨c, h1⟩ := chk_true h1
              simp only [Bool.and_eq_true] at c
              obtain ⟨h3, hd⟩ := putK_sound h1
              have hn := beq_true c.1
              have hm := ble_true c.2
              rw [hn] at hm h2
              refine key _ _ _ [(ad.block, b)] mw ⟨hd, .inl rfl, .inr rfl, fun k d hk => ?_, .inl hm, .op v h s.next s.heap big hw h2 (Nat.le_refl _) rfl (fun hlow => merge_same (not_wr hlow hm)) (.inl hm)⟩ h3
              rw [getBlk_cons] at hk
              split at hk
              · rename_i e; subst e
                cases hk
                exact ⟨hb, hv.1, hv.2⟩
              · simp [getBlk] at hk
            · exact hk.elim
          · exact hk.elim
        · exact hk.elim
      · split at hk
        · rename_i t a x hop
          split at hk
          · rename_i ad ha
            split at hk
            · rename_i b hb
              obtain ⟨hv, hk⟩ := chk_true hk
              simp only [Bool.and_eq_true] at hv
              rw [opK_eq] at hk
              unfold opK0 at hk
              rw [hop] at hk
              simp only [ha] at hk
              split at hk
              · rename_i sz hsz
                split at hk
                · rename_i hcs
                  obtain ⟨h', hst, hk⟩ := storeK_of hk
                  obtain ⟨c, h1⟩ := chk_true hk
                  obtain ⟨h3, hd⟩ := putK_sound h1
                  refine key _ _ _ [(ad.block, b)] ad.block ⟨hd, .inl rfl, .inr rfl, fun k d hk => ?_, .inr hv.2.2, .st t a x ad sz h' b hw hop ha hsz (beq_true hcs) hst hb rfl rfl rfl⟩ h3
                  rw [getBlk_cons] at hk
                  split at hk
                  · rename_i e; subst e
                    cases hk
                    exact ⟨hb, hv.1, hv.2.1⟩
                  · simp [getBlk] at hk
                · exact hk.elim
              · exact hk.elim
            · exact hk.elim
          · exact hk.elim
        · exact hk.elim
      · obtain ⟨rg', rs', s1, mw, hd, hk⟩ := oneK_sound hE hcall (fun k b hb => by simp [getBlk] at hb) hw hk
        exact key _ _ _ _ _ hd hk
      · obtain ⟨rg', rs', s1, mw, hd, hk⟩ := oneK_sound hE hcall (fun k b hb => by
          obtain ⟨hb, hp⟩ := footV_spec hb
          simp only [Bool.and_eq_true] at hp
          exact ⟨hb, hp.1, hp.2⟩) hw hk
        exact key _ _ _ _ _ hd hk
      · obtain ⟨rg', rs', s1, mw, hd, hk⟩ := oneK_sound hE hcall (fun k b hb => by
          rw [getBlk_keepH] at hb
          split at hb
          · rename_i hp
            simp only [Bool.and_eq_true] at hp
            exact ⟨hb, hp.1, free_mono hp.2⟩
          · cases hb) hw hk
        exact key _ _ _ _ _ hd hk
    · obtain ⟨h3, hd⟩ := putSt_sound hk
      exact key _ _ _ [] s.next ⟨hd, .inl rfl, .inl ⟨rfl, rfl⟩, fun k b hb => by simp [getBlk] at hb, .inl (Nat.le_refl _), .skip hw rfl rfl⟩ h3
end
end Go.Pe

namespace Go.Pe
open Go Go.RowKit
theorem storeO_get {h h' : Heap} {ad : Addr} {vs : List Value} (hs : storeO h ad vs = some h') :
    ∃ b c, getBlk h ad.block = some b ∧ h' = setBlk h ad.block c ∧ ∀ g, getBlk g ad.block = some b → storeO g ad vs = some (setBlk g ad.block c) := by
  unfold storeO at hs
  split at hs
  · cases hs
  · rename_i hsp
    split at hs
    · cases hs
    · rename_i b hb
      split at hs
      · rename_i ho hi
        split at hs
        · rename_i cs h1 h2
          cases hs
          refine ⟨b, _, hb, rfl, fun g hg => ?_⟩
          unfold storeO
          simp only [hsp, hg, ho, hi, h1, h2]
        · cases hs
      · cases hs
theorem last_of (P : Nat → Prop) : ∀ i, (∃ m, m < i ∧ P m ∧ ∀ l, m < l → l < i → ¬ P l) ∨ ∀ m, m < i → ¬ P m := by
  intro i
  induction i with
  | zero => exact .inr fun m h => by omega
  | succ i ih =>
    by_cases hp : P i
    · exact .inl ⟨i, by omega, hp, fun l h1 h2 => by omega⟩
    · rcases ih with ⟨m, h1, h2, h3⟩ | h
      · refine .inl ⟨m, by omega, h2, fun l l1 l2 => ?_⟩
        by_cases e : l = i
        · subst e; exact hp
        · exact h3 l l1 (by omega)
      · refine .inr fun m hm => ?_
        by_cases e : m = i
        · subst e; exact hp
        · exact h m (by omega)
section
variable {E : Env} {base : World} {ops : List Oper} {σ : Nat → St} {rf : Nat → List (Nat × Nat × Nat)} {lf : Nat → Recs} {Vf : Nat → Heap} {mf : Nat → Nat}
structure Run (E : Env) (base : World) (ops : List Oper) (σ : Nat → St) (rf : Nat → List (Nat × Nat × Nat)) (lf : Nat → Recs) (Vf : Nat → Heap) (mf : Nat → Nat) : Prop where
  static : Static ops
  opers : ∀ (i : Nat) o, ops[i]? = some o → operOk E.P.globals.size o = true
  r0 : rf 0 = []
  step : ∀ (i : Nat) o, ops[i]? = some o → DStep E base ops (σ 0).next o i (rf i) (rf (i + 1)) (lf i) (lf (i + 1)) (σ i) (σ (i + 1)) (Vf i) (mf i)
def own (σ : Nat → St) (m k : Nat) : Prop := (σ m).next ≤ k ∧ k < (σ (m + 1)).next
def touch (σ : Nat → St) (Vf : Nat → Heap) (mf : Nat → Nat) (m k : Nat) : Prop := own σ m k ∨ Wr (Vf m) (mf m) k
theorem getO {i : Nat} (h : i < ops.length) : ∃ o, ops[i]? = some o := ⟨_, List.getElem?_eq_getElem h⟩
theorem ltO {i : Nat} {o : Oper} (h : ops[i]? = some o) : i < ops.length := (List.getElem?_eq_some_iff.1 h).1
theorem Run.next1 (R : Run E base ops σ rf lf Vf mf) {i : Nat} {o : Oper} (ho : ops[i]? = some o) : (σ i).next ≤ (σ (i + 1)).next ∧ (σ (i + 1)).size = (σ i).size ∧ (σ (i + 1)).mw ≤ (σ i).mw := by
  cases (R.step i o ho).kind with
  | skip h1 h2 h3 => rw [h3]; simp; exact Nat.min_le_left _ _
  | op v h n H m h1 h2 h3 h4 h5 h6 => rw [h4]; simp; exact ⟨h3, Nat.min_le_left _ _⟩
  | st t a x ad sz h' b h1 h2 h3 h4 h5 h6 h7 h8 h9 h10 => rw [h10]; simp; exact Nat.min_le_left _ _
theorem Run.next_le (R : Run E base ops σ rf lf Vf mf) {i : Nat} : ∀ j, i ≤ j → j ≤ ops.length → (σ i).next ≤ (σ j).next := by
  intro j
  induction j with
  | zero => intro h _; have : i = 0 := by omega
            subst this; exact Nat.le_refl _
  | succ j ih =>
    intro h1 h2
    by_cases e : i = j + 1
    · subst e; exact Nat.le_refl _
    · obtain ⟨o, ho⟩ := getO (ops := ops) (i := j) (by omega)
      exact Nat.le_trans (ih (by omega) (by omega)) (R.next1 ho).1
theorem Run.mw_le (R : Run E base ops σ rf lf Vf mf) {i : Nat} : ∀ j, i ≤ j → j ≤ ops.length → (σ j).mw ≤ (σ i).mw ∧ (σ j).size = (σ i).size := by
  intro j
  induction j with
  | zero => intro h _; have : i = 0 := by omega
            subst this; exact ⟨Nat.le_refl _, rfl⟩
  | succ j ih =>
    intro h1 h2
    by_cases e : i = j + 1
    · subst e; exact ⟨Nat.le_refl _, rfl⟩
    · obtain ⟨o, ho⟩ := getO (ops := ops) (i := j) (by omega)
      have a := ih (by omega) (by omega)
      have b := R.next1 ho
      exact ⟨Nat.le_trans b.2.2 a.1, b.2.1.trans a.2⟩
theorem Run.own_inj (R : Run E base ops σ rf lf Vf mf) {m m' k : Nat} (hm : m < ops.length) (hm' : m' < ops.length) (h : own σ m k) (h' : own σ m' k) : m = m' := by
  refine Classical.byContradiction fun hne => ?_
  have := h.1; have := h.2; have := h'.1; have := h'.2
  rcases Nat.lt_or_gt_of_ne hne with hlt | hlt
  · have := R.next_le (i := m + 1) m' hlt (by omega); omega
  · have := R.next_le (i := m' + 1) m hlt (by omega); omega
theorem Run.own_ex (_R : Run E base ops σ rf lf Vf mf) {k : Nat} : ∀ j, j ≤ ops.length → k < (σ j).next → k < (σ 0).next ∨ ∃ m, m < j ∧ own σ m k := by
  intro j
  induction j with
  | zero => intro _ h; exact .inl h
  | succ j ih =>
    intro hj h
    by_cases hk : k < (σ j).next
    · rcases ih (by omega) hk with h | ⟨m, hm, h⟩
      · exact .inl h
      · exact .inr ⟨m, by omega, h⟩
    · exact .inr ⟨j, by omega, by omega, h⟩
theorem Run.own_ge (R : Run E base ops σ rf lf Vf mf) {m k : Nat} (hm : m < ops.length) (h : own σ m k) : (σ 0).next ≤ k := Nat.le_trans (R.next_le m (Nat.zero_le _) (by omega)) h.1
theorem Run.rg (R : Run E base ops σ rf lf Vf mf) : ∀ i, i ≤ ops.length → ∀ x ∈ rf i, x.1 < i ∧ x.2.1 = (σ x.1).next ∧ x.2.2 = (σ (x.1 + 1)).next := by
  intro i
  induction i with
  | zero => intro _ x hx; rw [R.r0] at hx; cases hx
  | succ i ih =>
    intro hi x hx
    obtain ⟨o, ho⟩ := getO (ops := ops) (i := i) (by omega)
    have h := (R.step i o ho).hrg
    have old : x ∈ rf i → x.1 < i + 1 ∧ x.2.1 = (σ x.1).next ∧ x.2.2 = (σ (x.1 + 1)).next := fun hx => by
      obtain ⟨a, b⟩ := ih (by omega) x hx
      exact ⟨by omega, b⟩
    rcases h with h | h
    · rw [h] at hx; exact old hx
    · rw [h] at hx
      rcases List.mem_cons.1 hx with rfl | hx
      · exact ⟨by omega, rfl, rfl⟩
      · exact old hx
def PA (ops : List Oper) (σ : Nat → St) (i k : Nat) : Prop := k < (σ 0).next ∨ ∃ m ∈ anc ops i, own σ m k
def PV (ops : List Oper) (σ : Nat → St) (i k : Nat) : Prop := PA ops σ i k ∨ own σ i k
theorem Run.visA (R : Run E base ops σ rf lf Vf mf) {i k : Nat} (hi : i ≤ ops.length) (h : visible (anc ops i) (rf i) (σ 0).next k = true) : PA ops σ i k := by
  rcases visible_spec h with h | ⟨x, hx, h1, h2, h3⟩
  · exact .inl h
  · obtain ⟨_, a, b⟩ := R.rg i hi x hx
    exact .inr ⟨x.1, h3, by rw [← a]; exact h1, by rw [← b]; exact h2⟩
theorem Run.PA_lt (R : Run E base ops σ rf lf Vf mf) {i k : Nat} (hi : i < ops.length) (h : PA ops σ i k) : k < (σ i).next := by
  rcases h with h | ⟨m, hm, h⟩
  · exact Nat.lt_of_lt_of_le h (R.next_le i (Nat.zero_le _) (by omega))
  · have := anc_lt i m hi hm
    exact Nat.lt_of_lt_of_le h.2 (R.next_le i this (by omega))
theorem PV_sub {i m k : Nat} (hi : i < ops.length) (hm : m ∈ anc ops i) (h : PV ops σ m k) : PA ops σ i k := by
  rcases h with (h | ⟨j, hj, h⟩) | h
  · exact .inl h
  · exact .inr ⟨j, anc_trans i m j hi hm hj, h⟩
  · exact .inr ⟨m, hm, h⟩
theorem HWF.sub {D : Nat → Prop} {h g : Heap} (hh : HWF D h) (hs : ∀ k b, getBlk g k = some b → getBlk h k = some b) : HWF D g := fun k b hb => hh k b (hs k b hb)
theorem Run.foot (R : Run E base ops σ rf lf Vf mf) {i k : Nat} {b : Blk} (hi : i < ops.length) (hb : getBlk (Vf i) k = some b) : getBlk (σ i).heap k = some b ∧ PA ops σ i k ∧ k < (σ i).next := by
  obtain ⟨o, ho⟩ := getO hi
  obtain ⟨h1, h2, _⟩ := (R.step i o ho).vis k b hb
  have := R.visA (by omega) h2
  exact ⟨h1, this, R.PA_lt hi this⟩
theorem Run.recs (R : Run E base ops σ rf lf Vf mf) : ∀ i, i ≤ ops.length → ∀ j, j < i → Vf j = [] ∨ (j, Vf j, mf j) ∈ lf i := by
  intro i
  induction i with
  | zero => intro _ j h; omega
  | succ i ih =>
    intro hi j hj
    obtain ⟨o, ho⟩ := getO (ops := ops) (i := i) (by omega)
    have h := (R.step i o ho).hrs
    by_cases e : j = i
    · subst e
      rcases h with ⟨h, _⟩ | h
      · exact .inl h
      · exact .inr (by rw [h]; exact List.mem_cons_self ..)
    · rcases ih (by omega) j (by omega) with h2 | h2
      · exact .inl h2
      · rcases h with ⟨_, h⟩ | h
        · exact .inr (by rw [h]; exact h2)
        · exact .inr (by rw [h]; exact List.mem_cons_of_mem _ h2)
theorem Run.order (R : Run E base ops σ rf lf Vf mf) {i j k : Nat} {b : Blk} (hi : i < ops.length) (hj : j < ops.length) (hne : i ≠ j) (hw : Wr (Vf j) (mf j) k) (hb : getBlk (Vf i) k = some b) : (j < i ∧ j ∈ anc ops i) ∨ (i < j ∧ i ∈ anc ops j) := by
  rcases Nat.lt_or_gt_of_ne hne with hlt | hlt
  · refine .inr ⟨hlt, Classical.byContradiction fun hn => ?_⟩
    obtain ⟨o, ho⟩ := getO hj
    obtain ⟨w1, c, hc⟩ := hw
    rcases R.recs j (by omega) i hlt with h | h
    · rw [h] at hb; simp [getBlk] at hb
    · rcases (R.step j o ho).apart with ha | ha
      · have := (R.foot hj hc).2.2; omega
      · have := apart_spec ha h hn hb
        rw [inW_iff.2 ⟨w1, c, hc⟩] at this; cases this
  · refine .inl ⟨hlt, Classical.byContradiction fun hn => ?_⟩
    obtain ⟨o, ho⟩ := getO hi
    rcases R.recs i (by omega) j hlt with h | h
    · obtain ⟨_, c, hc⟩ := hw
      rw [h] at hc; simp [getBlk] at hc
    · have := free_spec ((R.step i o ho).vis k b hb).2.2 h hn
      rw [inW_iff.2 hw] at this; cases this
theorem Run.ordV (R : Run E base ops σ rf lf Vf mf) {i m k : Nat} {b : Blk} (hi : i < ops.length) (hm : m < ops.length) (hne : i ≠ m) (ht : touch σ Vf mf m k) (hb : getBlk (Vf i) k = some b) : (m < i ∧ m ∈ anc ops i) ∨ (i < m ∧ i ∈ anc ops m) := by
  rcases ht with ht | ht
  · obtain ⟨_, h2, h3⟩ := R.foot hi hb
    rcases h2 with h2 | ⟨l, hl, h2⟩
    · have := R.own_ge hm ht; omega
    · have hll := anc_lt i l hi hl
      have := R.own_inj (by omega) hm h2 ht
      subst this
      exact .inl ⟨hll, hl⟩
  · exact R.order hi hm hne ht hb
theorem Run.ord (R : Run E base ops σ rf lf Vf mf) {i m k : Nat} (hi : i < ops.length) (hm : m < ops.length) (hne : i ≠ m) (ht : touch σ Vf mf m k) (h : touch σ Vf mf i k) : (m < i ∧ m ∈ anc ops i) ∨ (i < m ∧ i ∈ anc ops m) := by
  rcases h with h | ⟨_, b, hb⟩
  · rcases ht with ht | ⟨_, b, hb⟩
    · exact absurd (R.own_inj hi hm h ht) hne
    · exact (R.ordV hm hi hne.symm (.inl h) hb).symm
  · exact R.ordV hi hm hne ht hb
theorem Run.merged (R : Run E base ops σ rf lf Vf mf) {i : Nat} (hi : i < ops.length) {n : Nat} {h H : Heap} (h5 : (∀ k b, getBlk (Vf i) k = some b → k < (σ i).next) → Merged (Vf i) (mf i) (σ i).next n h (σ i).heap H) : Merged (Vf i) (mf i) (σ i).next n h (σ i).heap H :=
  h5 fun _ _ hb => (R.foot hi hb).2.2
theorem Run.swf1 (R : Run E base ops σ rf lf Vf mf) {i : Nat} {o : Oper} (ho : ops[i]? = some o) : SWf E (σ i) (σ (i + 1)) := by
  have hi := ltO ho
  have hok := R.opers i o ho
  cases (R.step i o ho).kind with
  | skip h1 h2 h3 => rw [h3]; exact SWf.skip
  | op v h n H m h1 h2 h3 h4 h5 h6 =>
    obtain ⟨m1, m2, m3⟩ := R.merged hi h5
    rw [h4]
    refine ⟨by simpa using h3, fun D hD hG hT => ?_⟩
    rw [putS_next]
    obtain ⟨a, b⟩ := h2.1.2 D hD hG (fun x hx => by
      obtain ⟨y, hy, rfl⟩ := List.mem_map.1 hx
      exact hT.eval hG (List.all_eq_true.1 hok y hy)) (hT.1.sub fun k b hb => (R.foot hi hb).1)
    refine TWF.put (fun t => (hT.2 t).mono Dp_mono) a ?_
    intro k c hc
    by_cases hw : Wr (Vf i) (mf i) k
    · rw [m1 k hw] at hc; exact b k c hc
    · by_cases hn : (σ i).next ≤ k ∧ k < n
      · rw [m2 k hw hn.1 hn.2, Option.or_eq_some_iff] at hc
        rcases hc with hc | ⟨_, hc⟩
        · exact b k c hc
        · exact (hT.1.mono Dp_mono) k c hc
      · rw [m3 k hw hn] at hc; exact (hT.1.mono Dp_mono) k c hc
  | st t a x ad sz h' b h1 h2 h3 h4 h5 h6 h7 h8 h9 h10 =>
    rw [h10]
    refine ⟨by simp, fun D hD hG hT => ?_⟩
    rw [putS_next]
    have hx := hT.eval hG (List.all_eq_true.1 hok x (by simp [h2, Op.operands]))
    exact TWF.put (fun t => (hT.2 t).mono Dp_mono) WF.undef ((storeO_wf h6 hT.1 hx.cells).mono Dp_mono)
theorem Run.swf (R : Run E base ops σ rf lf Vf mf) {i : Nat} : ∀ j, i ≤ j → j ≤ ops.length → SWf E (σ i) (σ j) := by
  intro j
  induction j with
  | zero => intro h _; have : i = 0 := by omega
            subst this; exact SWf.refl _ _
  | succ j ih =>
    intro h1 h2
    by_cases e : i = j + 1
    · subst e; exact SWf.refl _ _
    · obtain ⟨o, ho⟩ := getO (ops := ops) (i := j) (by omega)
      exact (ih (by omega) (by omega)).trans (R.swf1 ho)
theorem TWF.step {s s' : St} (h : SWf E s s') (hg : E.P.globals.size ≤ s.next) (ht : TWF (· < s.next) s) : TWF (· < s'.next) s' := by
  have hx := h.2 (· < s.next) (fun _ h => h) (fun g hgg => Nat.lt_of_lt_of_le hgg hg) ht
  have hm : ∀ k, Dp (· < s.next) s.next s'.next k → k < s'.next := fun k hk => by
    have := h.1
    rcases hk with hk | hk
    · exact Nat.lt_of_lt_of_le hk this
    · exact hk.2
  exact ⟨hx.1.mono hm, fun t => (hx.2 t).mono hm⟩
theorem Run.twf (R : Run E base ops σ rf lf Vf mf) (hg : E.P.globals.size ≤ (σ 0).next) (ht : TWF (· < (σ 0).next) (σ 0)) {i : Nat} (hi : i ≤ ops.length) : TWF (· < (σ i).next) (σ i) :=
  TWF.step (R.swf i (Nat.zero_le _) hi) hg ht
theorem Run.heap1 (R : Run E base ops σ rf lf Vf mf) (hg : E.P.globals.size ≤ (σ 0).next) (ht : TWF (· < (σ 0).next) (σ 0)) {i : Nat} {o : Oper} (ho : ops[i]? = some o) {k : Nat} (hh : ¬ touch σ Vf mf i k) : getBlk (σ (i + 1)).heap k = getBlk (σ i).heap k := by
  have hi := ltO ho
  by_cases hk : k < (σ i).next
  · cases (R.step i o ho).kind with
    | skip h1 h2 h3 => rw [h3]; simp
    | op v h n H m h1 h2 h3 h4 h5 h6 =>
      obtain ⟨m1, m2, m3⟩ := R.merged hi h5
      rw [h4, putS_heap]
      exact m3 k (fun hw => hh (.inr hw)) (by omega)
    | st t a x ad sz h' b h1 h2 h3 h4 h5 h6 h7 h8 h9 h10 =>
      rw [h10, putS_heap]
      obtain ⟨b', c, e1, e2, _⟩ := storeO_get h6
      rw [e2, getBlk_set]
      rw [if_neg fun e : k = ad.block => hh (.inr ⟨by rw [h9, e]; exact Nat.le_refl _, b, by rw [h8, getBlk_cons, if_pos e.symm]⟩)]
  · have hk2 : ¬ k < (σ (i + 1)).next := fun h => hh (.inl ⟨by omega, h⟩)
    have none : ∀ j, j ≤ ops.length → ¬ k < (σ j).next → getBlk (σ j).heap k = none := fun j hj hn => by
      cases hgb : getBlk (σ j).heap k with
      | none => rfl
      | some b => exact absurd ((R.twf hg ht hj).1 k b hgb).1 hn
    rw [none i (by omega) hk, none (i + 1) (by omega) hk2]
theorem Run.heapN (R : Run E base ops σ rf lf Vf mf) (hg : E.P.globals.size ≤ (σ 0).next) (ht : TWF (· < (σ 0).next) (σ 0)) {i k : Nat} : ∀ j, i ≤ j → j ≤ ops.length → (∀ m, i ≤ m → m < j → ¬ touch σ Vf mf m k) → getBlk (σ j).heap k = getBlk (σ i).heap k := by
  intro j
  induction j with
  | zero => intro h _ _; have : i = 0 := by omega
            subst this; rfl
  | succ j ih =>
    intro h1 h2 hh
    by_cases e : i = j + 1
    · subst e; rfl
    · obtain ⟨o, ho⟩ := getO (ops := ops) (i := j) (by omega)
      rw [R.heap1 hg ht ho (hh j (by omega) (by omega)), ih (by omega) (by omega) fun m a b => hh m a (by omega)]
theorem Run.wr_mw (R : Run E base ops σ rf lf Vf mf) {i k : Nat} (hi : i < ops.length) (hw : Wr (Vf i) (mf i) k) : (σ ops.length).mw ≤ k := by
  obtain ⟨o, ho⟩ := getO hi
  have h1 := (R.mw_le (i := i + 1) ops.length (by omega) (Nat.le_refl _)).1
  obtain ⟨w1, b, hb⟩ := hw
  have hlow := (R.foot hi hb).2.2
  cases (R.step i o ho).kind with
  | skip _ h2 _ => rw [h2] at hb; simp [getBlk] at hb
  | op v h n H m _ h2 h3 h4 h5 h6 =>
    rcases h6 with h6 | h6
    · omega
    · have : (σ (i + 1)).mw ≤ m := by rw [h4, putS_mw]; exact Nat.min_le_right _ _
      omega
  | st t a x ad sz h' b h1 h2 h3 h4 h5 h6 h7 h8 h9 h10 =>
    have : (σ (i + 1)).mw ≤ ad.block := by rw [h10, putS_mw]; exact Nat.min_le_right _ _
    omega
theorem Run.df1 (R : Run E base ops σ rf lf Vf mf) {i : Nat} {o : Oper} (ho : ops[i]? = some o) : (σ (i + 1)).df = (σ i).df := by
  cases (R.step i o ho).kind with
  | skip h1 h2 h3 => rw [h3, putS_df]
  | op v h n H m h1 h2 h3 h4 h5 h6 => rw [h4, putS_df]
  | st t a x ad sz h' b h1 h2 h3 h4 h5 h6 h7 h8 h9 h10 => rw [h10, putS_df]
theorem Run.df (R : Run E base ops σ rf lf Vf mf) : ∀ j, j ≤ ops.length → (σ j).df = (σ 0).df := by
  intro j
  induction j with
  | zero => intro _; rfl
  | succ j ih =>
    intro h
    obtain ⟨o, ho⟩ := getO (ops := ops) (i := j) (by omega)
    rw [R.df1 ho, ih (by omega)]
/-! Slots -/
theorem Run.slot1 (R : Run E base ops σ rf lf Vf mf) {i : Nat} {o : Oper} (ho : ops[i]? = some o) {t : Nat} (hd : o.dst ≠ some t) : getTmp (σ (i + 1)).tmps t = getTmp (σ i).tmps t := by
  cases (R.step i o ho).kind with
  | skip h1 h2 h3 => rw [h3, getTmp_put, if_neg hd]
  | op v h n H m h1 h2 h3 h4 h5 h6 => rw [h4, getTmp_put, if_neg hd]
  | st t' a x ad sz h' b h1 h2 h3 h4 h5 h6 h7 h8 h9 h10 => rw [h10, getTmp_put, if_neg hd]
theorem Run.slotA (R : Run E base ops σ rf lf Vf mf) {i t : Nat} : ∀ j, i ≤ j → j ≤ ops.length → (∀ m o, i ≤ m → m < j → ops[m]? = some o → o.dst ≠ some t) → getTmp (σ j).tmps t = getTmp (σ i).tmps t := by
  intro j
  induction j with
  | zero => intro h _ _; have : i = 0 := by omega
            subst this; rfl
  | succ j ih =>
    intro h1 h2 hh
    by_cases e : i = j + 1
    · subst e; rfl
    · obtain ⟨o, ho⟩ := getO (ops := ops) (i := j) (by omega)
      rw [R.slot1 ho (hh j o (by omega) (by omega) ho), ih (by omega) (by omega) fun m o a b => hh m o a (by omega)]
theorem Run.told1 (R : Run E base ops σ rf lf Vf mf) {i : Nat} {o : Oper} (ho : ops[i]? = some o) {t : Nat} (hd : o.dst ≠ some t) (h : ToldE E (σ (i + 1)) t) : ToldE E (σ i) t := by
  cases (R.step i o ho).kind with
  | skip h1 h2 h3 => rw [h3] at h; exact h.of_put hd
  | op v h' n H m h1 h2 h3 h4 h5 h6 => rw [h4] at h; exact h.of_put hd
  | st t' a x ad sz h' b h1 h2 h3 h4 h5 h6 h7 h8 h9 h10 => rw [h10] at h; exact h.of_put hd
theorem Run.toldA (R : Run E base ops σ rf lf Vf mf) {t : Nat} : ∀ j, j ≤ ops.length → (∀ m o, m < j → ops[m]? = some o → o.dst ≠ some t) → ToldE E (σ j) t → ToldE E (σ 0) t := by
  intro j
  induction j with
  | zero => intro _ _ h; exact h
  | succ j ih =>
    intro h2 hh h
    obtain ⟨o, ho⟩ := getO (ops := ops) (i := j) (by omega)
    exact ih (by omega) (fun m o a => hh m o (by omega)) (R.told1 ho (hh j o (by omega) ho) h)
theorem Run.slotB (R : Run E base ops σ rf lf Vf mf) {m t : Nat} {p : Oper} (hp : ops[m]? = some p) (hd : p.dst = some t) {j : Nat} (h1 : m < j) (h2 : j ≤ ops.length) : getTmp (σ j).tmps t = getTmp (σ (m + 1)).tmps t :=
  R.slotA j h1 h2 fun l o h3 _ ho e => by
    have := R.static.dst l o m p t ho hp e hd
    omega
/-! What hangs on which names, to the name -/
theorem Run.heapT (R : Run E base ops σ rf lf Vf mf) (hg : E.P.globals.size ≤ (σ 0).next) (ht : TWF (· < (σ 0).next) (σ 0)) {i k n : Nat} {h H : Heap} (hi : i < ops.length) (hn : (σ (i + 1)).next = n) (hH : (σ (i + 1)).heap = H)
    (hm : Merged (Vf i) (mf i) (σ i).next n h (σ i).heap H) (hk : touch σ Vf mf i k) : getBlk (σ (i + 1)).heap k = getBlk h k := by
  obtain ⟨m1, m2, m3⟩ := hm
  rw [hH]
  by_cases hw : Wr (Vf i) (mf i) k
  · exact m1 k hw
  · rcases hk with hk | hk
    · have hold : getBlk (σ i).heap k = none := by
        cases hgb : getBlk (σ i).heap k with
        | none => rfl
        | some b => have := ((R.twf hg ht (i := i) (by omega)).1 k b hgb).1; have := hk.1; omega
      rw [m2 k hw hk.1 (by rw [← hn]; exact hk.2), hold, Option.or_none]
    · exact absurd hk hw
theorem Run.wfV (R : Run E base ops σ rf lf Vf mf) (hg : E.P.globals.size ≤ (σ 0).next) (ht : TWF (· < (σ 0).next) (σ 0)) : ∀ (i : Nat) o, ops[i]? = some o →
    (∀ t, o.dst = some t → WF (PV ops σ i) (getTmp (σ (i + 1)).tmps t)) ∧ (∀ k b, touch σ Vf mf i k → getBlk (σ (i + 1)).heap k = some b → ∀ v, some v ∈ b.cells → WF (PV ops σ i) v) ∧
    (∀ x ∈ o.op.operands.toList, WF (PA ops σ i) (evalO (σ i).tmps x)) := by
  intro i
  induction i using Nat.strongRecOn with
  | _ i ih =>
    intro o ho
    have hi := ltO ho
    have hok := R.opers i o ho
    have hopd : ∀ x ∈ o.op.operands.toList, WF (PA ops σ i) (evalO (σ i).tmps x) := by
      intro x hx
      have hxo := List.all_eq_true.1 hok x hx
      cases x with
      | const v => exact WF.pure hxo
      | func f => exact WF.func0 _
      | global g => exact WF.ptr.2 (.inl (Nat.lt_of_lt_of_le (by simpa [opdOk, Nat.blt_eq] using hxo) hg))
      | tmp t =>
        show WF _ (getTmp (σ i).tmps t)
        by_cases hex : ∃ j p, j < i ∧ ops[j]? = some p ∧ p.dst = some t
        · obtain ⟨j, p, hj, hp, hd⟩ := hex
          rcases R.static.opd i o t j p ho hx hp hd with h | h | h
          · rw [R.slotB hp hd hj (by omega)]
            exact ((ih j hj p hp).1 t hd).mono fun k hk => PV_sub hi h hk
          · omega
          · have := anc_lt j i (ltO hp) h; omega
        · rw [R.slotA (i := 0) i (Nat.zero_le _) (by omega) fun m p _ hm hp e => hex ⟨m, p, hm, hp, e⟩]
          exact (ht.2 t).mono fun k hk => .inl hk
    have hV : HWF (PA ops σ i) (Vf i) := by
      intro k b hb
      obtain ⟨f1, f2, f3⟩ := R.foot hi hb
      refine ⟨f2, fun u hu => ?_⟩
      rcases last_of (fun m => touch σ Vf mf m k) i with ⟨m, h1, h2, h3⟩ | h
      · obtain ⟨p, hp⟩ := getO (ops := ops) (i := m) (by omega)
        rw [R.heapN hg ht (i := m + 1) i (by omega) (by omega) fun l l1 l2 => h3 l (by omega) l2] at f1
        have hanc : m ∈ anc ops i := by
          rcases R.ordV hi (by omega) (by omega) h2 hb with h | h
          · exact h.2
          · omega
        exact ((ih m h1 p hp).2.1 k b h2 f1 u hu).mono fun k hk => PV_sub hi hanc hk
      · rw [R.heapN hg ht (i := 0) i (Nat.zero_le _) (by omega) fun l _ l2 => h l l2] at f1
        exact ((ht.1 k b f1).2 u hu).mono fun k hk => .inl hk
    cases (R.step i o ho).kind with
    | skip h1 h2 h3 =>
      refine ⟨fun t hd => ?_, fun k b hk => ?_, hopd⟩
      · rw [h3, getTmp_put, if_pos hd]; exact WF.undef
      · rcases hk with hk | ⟨_, c, hc⟩
        · have := hk.1; have := hk.2; rw [h3, putS_next] at this; omega
        · rw [h2] at hc; simp [getBlk] at hc
    | op v h n H m h1 h2 h3 h4 h5 h6 =>
      have hM := R.merged hi h5
      obtain ⟨w1, w2⟩ := h2.1.2 (PA ops σ i) (fun k hk => R.PA_lt hi hk) (fun g hgg => .inl (Nat.lt_of_lt_of_le hgg hg)) (fun y hy => by
        obtain ⟨x, hx, rfl⟩ := List.mem_map.1 hy
        exact hopd x hx) hV
      have hn : (σ (i + 1)).next = n := by rw [h4, putS_next]
      have hm : ∀ k, Dp (PA ops σ i) (σ i).next n k → PV ops σ i k := fun k hk => by
        rcases hk with hk | hk
        · exact .inl hk
        · exact .inr ⟨hk.1, by rw [hn]; exact hk.2⟩
      refine ⟨fun t hd => ?_, fun k b hk hb u hu => ?_, hopd⟩
      · rw [h4, getTmp_put, if_pos hd]; exact w1.mono hm
      · rw [R.heapT hg ht hi hn (by rw [h4, putS_heap]) hM hk] at hb
        exact ((w2 k b hb).2 u hu).mono hm
    | st t' a x ad sz h' b h1 h2 h3 h4 h5 h6 h7 h8 h9 h10 =>
      refine ⟨fun t hd => ?_, fun k d hk hd u hu => ?_, hopd⟩
      · rw [h10, getTmp_put, if_pos hd]; exact WF.undef
      · rcases hk with hk | ⟨_, c, hc⟩
        · have := hk.1; have := hk.2; rw [h10, putS_next] at this; omega
        · obtain ⟨b', c', e1, e2, e3⟩ := storeO_get h6
          rw [h7] at e1
          cases e1
          have hVb : getBlk (Vf i) ad.block = some b := by rw [h8, getBlk_cons, if_pos rfl]
          have hs := storeO_wf (e3 (Vf i) hVb) hV ((hopd x (by simp [h2, Op.operands])).cells)
          have hke : k = ad.block := by
            rw [h8, getBlk_cons] at hc
            split at hc
            · rename_i e; exact e.symm
            · simp [getBlk] at hc
          subst hke
          rw [h10, putS_heap, e2, getBlk_set, if_pos rfl, h7] at hd
          refine ((hs ad.block d ?_).2 u hu).mono fun k hk => .inl hk
          rw [getBlk_set, if_pos rfl, hVb]
          exact hd
end
end Go.Pe
