/-
  The evaluator's soundness, seventh part: calls; every operation.
-/
import Derived.Test.YtamkkkkonigglaaGreatDoorPeH
import Derived.Laws.IdiomCopy
namespace Go.Pe
open Go Go.RowKit

abbrev CallFn := FuncId → List Value → Heap → Nat → (Value → Heap → Nat → Nat → Prop) → Prop

def CallOk (E : Env) (base : World) (call : CallFn) : Prop :=
  ∀ f args h n K, call f args h n K → ∃ v h' n' mw, K v h' n' mw ∧ FuncSem E base f args h n v h' n' mw

section
variable {E : Env} {base : World} {o : Oper} {ρ : Operand → Value} {h : Heap} {n : Nat}

theorem Rel.grow {P : Program} {base w w' : World} {μ κ : Nat → Nat} (hr : Rel P base μ κ h w) (hb : Below w.heap.size w w') : Rel P base μ κ h w' :=
  ⟨hr.below.trans (hb.mono hr.below.size), fun k b hk => (hr.blk k b hk).same rfl rfl (fun _ _ => rfl) (hb.block _ (hr.blk k b hk).lt), hr.inj, hr.glob, hr.gsz⟩

theorem callK_sound (hE : EnvOk E base) {call : CallFn} (hcall : CallOk E base call) {g : FuncId} {args : List Value} {K : Value → Heap → Nat → Nat → Prop} (hk : callK E call g args h n K) :
    ∃ v h' n' mw, K v h' n' mw ∧ FuncSem E base g args h n v h' n' mw := by
  unfold callK at hk
  split at hk
  · rename_i T hT
    exact hE.oracle g args h n T K hT hk
  · exact hcall g args h n K hk

theorem addCaps_eq (l caps : List Value) : addCaps l caps = l ++ caps := by cases caps <;> simp [addCaps]

theorem sound_call {c : Call} {f : Operand} {g : FuncId} {caps : List Value} {v : Value} {h' : Heap} {n' mw : Nat} (ho : o.op = .call c) (hc : c.callee = .value f) (hf : ρ f = .func (.func g) #[] ⟨caps⟩) (hs : FuncSem E base g (c.args.toList.map ρ ++ caps) h n v h' n' mw) :
    OpSem E base o ρ h n v h' n' mw := by
  obtain ⟨⟨s0, s1⟩, s2⟩ := hs
  have hops : o.op.operands.toList = f :: c.args.toList := by simp [ho, Op.operands, Call.operands, hc]
  have all : ∀ D : Nat → Prop, (∀ x ∈ o.op.operands.toList, WF D (ρ x)) → ∀ x ∈ c.args.toList.map ρ ++ caps, WF D x := fun D hx x hxx => by
    rcases List.mem_append.1 hxx with hxx | hxx
    · obtain ⟨y, hy, rfl⟩ := List.mem_map.1 hxx
      exact hx y (by rw [hops]; exact List.mem_cons_of_mem _ hy)
    · have := hx f (by rw [hops]; exact List.mem_cons_self ..)
      rw [hf] at this
      exact (WF.func.1 this).2 x hxx
  refine ⟨⟨s0, fun D hD hG hx hh => s1 D hD hG (all D fun x hxx => hx _ (List.mem_map_of_mem hxx)) hh⟩, fun μ κ w ρr hr hρ hh hx hg => ?_⟩
  have := s2 μ κ w hr hh (all _ hx) hg
  have e1 : ρr f = .func (.func g) #[] (caps.map (renV μ κ)).toArray := by rw [hρ f (by rw [hops]; exact List.mem_cons_self ..), hf]; simp
  have e2 : c.args.map ρr = ((c.args.toList.map ρ).map (renV μ κ)).toArray := by
    apply Array.ext'
    rw [Array.toList_map, List.map_map]
    exact List.map_congr_left fun x hxx => hρ x (by rw [hops]; exact List.mem_cons_of_mem _ hxx)
  have e3 : (execOp ρr o).run E.P w = (callFunc g ((c.args.toList.map ρ ++ caps).map (renV μ κ)).toArray).run E.P w := by
    simp only [execOp, ho, resolve, hc, e1, e2, Deferred.ofValue, Sem.run_bind, Sem.run_pure, Result.andThen_ok, invoke, List.append_toArray, List.map_append, List.nil_append]
  rw [e3]
  exact this

theorem sound_makeFunc {g : FuncId} {first captured : Array Operand} (ho : o.op = .makeFunc (.func g) first captured) (hf : first.toList = []) : OpSem E base o ρ h n (.func (.func g) ⟨[]⟩ ⟨captured.toList.map ρ⟩) h n big := by
  have hfa : first = #[] := Array.ext' hf
  subst hfa
  refine OpSem.pure _ fun μ κ w ρr _ hρ => ?_
  have e : captured.map ρr = ((captured.toList.map ρ).map (renV μ κ)).toArray := by
    apply Array.ext'
    rw [Array.toList_map, List.map_map]
    exact List.map_congr_left fun x hx => hρ x (by simp [ho, Op.operands, hx])
  simp [execOp, ho, Instr.makeFunc, e]

theorem sound_invoke {c : Call} {r : Operand} {name : String} {t : TypeId} {x : Value} {g : FuncId} {v : Value} {h' : Heap} {n' mw : Nat} (ho : o.op = .call c) (hc : c.callee = .invoke r name) (hr0 : ρ r = .iface t x) (hm : methodOf E t name = some g)
    (hs : FuncSem E base g (x :: c.args.toList.map ρ) h n v h' n' mw) : OpSem E base o ρ h n v h' n' mw := by
  obtain ⟨⟨s0, s1⟩, s2⟩ := hs
  have hops : o.op.operands.toList = r :: c.args.toList := by simp [ho, Op.operands, Call.operands, hc]
  refine ⟨⟨s0, fun D hD hG hx hh => s1 D hD hG (fun y hy => ?_) hh⟩, fun μ κ w ρr hr hρ hh hx hg => ?_⟩
  · rcases List.mem_cons.1 hy with rfl | hy
    · have := hx (ρ r) (by rw [hops]; exact List.mem_cons_self ..)
      rw [hr0] at this
      exact WF.iface.1 this
    · exact hx y (by rw [hops]; exact List.mem_cons_of_mem _ hy)
  · have hs := s2 μ κ w hr hh (fun y hy => by
      rcases List.mem_cons.1 hy with rfl | hy
      · have := hx r (by rw [hops]; exact List.mem_cons_self ..)
        rw [hr0] at this
        exact WF.iface.1 this
      · obtain ⟨z, hz, rfl⟩ := List.mem_map.1 hy
        exact hx z (by rw [hops]; exact List.mem_cons_of_mem _ hz)) hg
    have e1 : ρr r = .iface t (renV μ κ x) := by rw [hρ r (by rw [hops]; exact List.mem_cons_self ..), hr0]; rfl
    have e2 : c.args.map ρr = ((c.args.toList.map ρ).map (renV μ κ)).toArray := by
      apply Array.ext'
      rw [Array.toList_map, List.map_map]
      exact List.map_congr_left fun x hxx => hρ x (by rw [hops]; exact List.mem_cons_of_mem _ hxx)
    unfold methodOf at hm
    split at hm
    · cases hm
    · rename_i i hi
      split at hm
      · cases hm
      · rename_i m hfind
        split at hm
        · rename_i f hpath hfunc
          have hd : E.P.types.size + Made.depth = (E.P.types.size + (Made.depth - 1)) + 1 := by
            show E.P.types.size + 100 = _
            show _ = (E.P.types.size + (100 - 1)) + 1
            omega
          have e3 : (execOp ρr o).run E.P w = (callFunc g (#[renV μ κ x] ++ ((c.args.toList.map ρ).map (renV μ κ)).toArray)).run E.P w := by
            unfold und at hm
            cases hu : E.P.underlying t with
            | none => simp [hu] at hm
            | some d =>
              rw [hu] at hm
              have hmeth : (method (E.P.types.size + Made.depth) t (renV μ κ x) name).run E.P w = .ok (g, renV μ κ x) w := by
                rw [hd]
                cases d <;> simp at hm <;> subst hm <;> simp [method, typeInfo, hi, hfind, hpath, follow, hfunc, receiverAt, run_underlying hu, Place.get]
              simp only [execOp, ho, resolve, hc, e1, e2, Sem.run_bind, Sem.run_pure, Result.andThen_ok, invoke]
              have hget : (#[Value.iface t (renV μ κ x)] ++ ((c.args.toList.map ρ).map (renV μ κ)).toArray)[0]? = some (Value.iface t (renV μ κ x)) := by simp
              have hext : (#[Value.iface t (renV μ κ x)] ++ ((c.args.toList.map ρ).map (renV μ κ)).toArray).extract 1 (#[Value.iface t (renV μ κ x)] ++ ((c.args.toList.map ρ).map (renV μ κ)).toArray).size = ((c.args.toList.map ρ).map (renV μ κ)).toArray := by
                apply Array.ext'
                simp
                exact List.take_of_length_le (by simp)
              rw [hget]
              simp only [hext, callMethod, Sem.run_bind]
              have hp : (program : Sem Program).run E.P w = .ok E.P w := rfl
              rw [hp]
              simp only [Result.andThen_ok, hmeth]
          rw [e3]
          have : (#[renV μ κ x] ++ ((c.args.toList.map ρ).map (renV μ κ)).toArray) = ((x :: c.args.toList.map ρ).map (renV μ κ)).toArray := by simp
          rw [this]
          exact hs
        · cases hm

theorem pure_builtin {c : Call} {b : Builtin} {ts : List TypeId} {v : Value} (ho : o.op = .call c) (hc : c.callee = .builtin b) (hts : c.argTypes.toList = ts)
    (H : ∀ μ κ w cs, (builtin b ts.toArray o.type cs ((c.args.toList.map ρ).map (renV μ κ)).toArray).run E.P w = .ok (.value (renV μ κ v)) w) : OpSem E base o ρ h n v h n big := by
  refine OpSem.pure _ fun μ κ w ρr _ hρ => ?_
  obtain ⟨cs, h1⟩ := builtin_run (E := E) ho hc hts hρ w
  rw [h1]
  exact H μ κ w cs

theorem sound_builtin {c : Call} {b : Builtin} {K : Value → Heap → Nat → Nat → Prop} (ho : o.op = .call c) (hc : c.callee = .builtin b) (hk : builtinK E h n b c.argTypes.toList (c.args.toList.map ρ) K) :
    ∃ v h' n' mw, K v h' n' mw ∧ OpSem E base o ρ h n v h' n' mw := by
  unfold builtinK at hk
  split at hk
  · split at hk
    · rename_i t x hts hargs
      split at hk
      · rename_i s hu
        unfold und at hu
        refine ⟨_, _, _, _, hk, pure_builtin ho hc hts fun μ κ w cs => ?_⟩
        simp [hargs, builtin, Builtin.len_, run_underlying hu, goInt, strLen_eq]
      · rename_i e a m cp hu
        unfold und at hu
        refine ⟨_, _, _, _, hk, pure_builtin ho hc hts fun μ κ w cs => ?_⟩
        cases a <;> simp [hargs, builtin, Builtin.len_, run_underlying hu, goInt]
      · rename_i m e hu
        unfold und at hu
        refine ⟨_, _, _, _, hk, pure_builtin ho hc hts fun μ κ w cs => ?_⟩
        simp [hargs, builtin, Builtin.len_, run_underlying hu, goInt]
      · exact hk.elim
    · exact hk.elim
  · split at hk
    · rename_i t a l m hts hargs
      split at hk
      · rename_i e hu
        unfold und at hu
        obtain ⟨h0, hk⟩ := chk_true hk
        have h0 : m < big := ble_true h0
        refine ⟨_, _, _, _, hk, pure_builtin ho hc hts fun μ κ w cs => ?_⟩
        cases a <;> simp [hargs, builtin, Builtin.cap_, run_underlying hu, goInt, renCap_small h0]
      · exact hk.elim
    · exact hk.elim
  · split at hk
    · rename_i k a l hargs
      split at hk
      · rename_i v hv
        refine ⟨_, _, _, _, hk, pure_builtin ho hc rfl fun μ κ w cs => ?_⟩
        obtain ⟨h1, h2⟩ := minL_spec (E := E) k l a v hv
        simp only [hargs, builtin, Builtin.min_, Sem.run_bind, List.map_cons, renV_int, h2, Result.andThen_ok, Sem.run_pure, h1]
      · exact hk.elim
    · exact hk.elim
  · split at hk
    · rename_i k a l hargs
      split at hk
      · rename_i v hv
        refine ⟨_, _, _, _, hk, pure_builtin ho hc rfl fun μ κ w cs => ?_⟩
        obtain ⟨h1, h2⟩ := maxL_spec (E := E) k l a v hv
        simp only [hargs, builtin, Builtin.max_, Sem.run_bind, List.map_cons, renV_int, h2, Result.andThen_ok, Sem.run_pure, h1]
      · exact hk.elim
    · exact hk.elim
  · split at hk
    · rename_i t u s x hts hargs
      exact sound_append ho hc hts hargs hk
    · exact hk.elim
  · split at hk
    · rename_i t u d dl dc a sl sc hts hargs
      split at hk
      · rename_i e hu
        unfold und at hu
        split at hk
        · rename_i i hi
          obtain ⟨h0, hk⟩ := chk_true hk
          simp only [Bool.and_eq_true, Bool.or_eq_true] at h0
          refine ⟨_, _, _, _, hk, pure_builtin ho hc hts fun μ κ w cs => ?_⟩
          have hz : Nat.min sl dl = 0 := by
            rcases h0.2 with h | h
            · rw [beq_true h]; exact Nat.zero_min _
            · rw [beq_true h]; exact Nat.min_zero _
          have hs : (E.P.info? e).map (·.size) = some 1 := by rw [hi]; simp [beq_true h0.1]
          have key := fun (d a : Option Addr) (dc sc : Nat) => run_copy_none (P := E.P) w t u o.type e d a dl dc sl sc hu hs hz
          cases d <;> cases a <;> simp [hargs, builtin, key, goInt]
        · exact hk.elim
      · exact hk.elim
    · exact hk.elim
  · exact hk.elim

theorem byteAt_spec {l : List UInt8} {i : Nat} (h : i < l.length) : nth l i = some (byteAt l i) := by
  unfold byteAt
  rw [nth_eq, List.getElem?_eq_getElem h]

theorem takeN_one {l : List (Option Value)} {i : Nat} {v : Value} (h : l[i]? = some (some v)) : takeN (l.drop i) 1 = some [v] := by
  have hlt := (List.getElem?_eq_some_iff.1 h).1
  rw [List.drop_eq_getElem_cons hlt]
  have : l[i] = some v := (List.getElem?_eq_some_iff.1 h).2
  rw [this]
  simp [takeN]

theorem manyO_cells {h : Heap} {ad : Addr} {cs : List (Option Value)} (hm : manyO h ad = some cs) {v : Value} (hv : cs[ad.off]? = some (some v)) : cellsAt h ad 1 = some [v] := by
  cases hs : ad.spot with
  | some x => simp [manyO, hs] at hm
  | none =>
    cases hb : getBlk h ad.block with
    | none => simp [manyO, hs, hb] at hm
    | some b =>
      cases hi : b.iter with
      | some x => simp [manyO, hs, hb, hi] at hm
      | none =>
        have hc : b.cells = cs := by
          simp only [manyO, hs, hb, hi] at hm
          split at hm
          · cases hm
          · split at hm
            · cases hm
            · rename_i hc
              cases hm
              exact hc
        simp only [cellsAt, hs, hb, hi, hc]
        exact takeN_one hv

theorem addO_eq (a : Addr) (n : Nat) : addO a n = a.add n := by
  obtain ⟨b, o, s⟩ := a
  cases s with
  | none =>
    unfold addO Addr.add
    simp only
    split
    · rename_i h; subst h; rfl
    · rfl
  | some s => rfl

theorem allStr_at : ∀ (l : List (Option Value)) (i : Nat), allStr l = true → i < l.length → l[i]? = some (some (.string (strAt l i))) := by
  intro l
  induction l with
  | nil => intro i _ h; simp at h
  | cons c l ih =>
    intro i h hi
    simp only [allStr] at h
    split at h
    · rename_i v
      split at h
      · cases i with
        | zero => rfl
        | succ i => simpa [strAt, nth] using ih i h (by simpa using hi)
      · cases h
    · cases h

theorem allInt_at (k : IntKind) : ∀ (l : List (Option Value)) (i : Nat), allInt k l = true → i < l.length → l[i]? = some (some (.int k (intAt l i))) := by
  intro l
  induction l with
  | nil => intro i _ h; simp at h
  | cons c l ih =>
    intro i h hi
    simp only [allInt] at h
    split at h
    · rename_i v
      split at h
      · rename_i k' m
        split at h
        · rename_i hk
          have hk := of_decide_eq_true hk
          subst hk
          cases i with
          | zero => rfl
          | succ i => simpa [intAt, nth] using ih i h (by simpa using hi)
        · cases h
      · cases h
    · cases h

theorem loadK0_sound (hstr : E.strF = strAt) {h : Heap} {t : TypeId} {ad : Addr} {K : Value → Prop} (hk : loadK0 E h t ad K) : ∃ v, loadO E h t ad = some v ∧ K v := by
  have one : (match loadO E h t ad with | some v => K v | none => False) → ∃ v, loadO E h t ad = some v ∧ K v := fun hk => by
    split at hk
    · rename_i v hv; exact ⟨v, hv, hk⟩
    · exact hk.elim
  unfold loadK0 at hk
  rw [hstr] at hk
  split at hk
  · rename_i cells hm
    split at hk
    · rename_i hu
      split at hk
      · rename_i ha
        obtain ⟨hlt, hk⟩ := chk_true hk
        have hlt : ad.off < cells.length := by simpa [Nat.blt_eq] using hlt
        refine ⟨_, ?_, hk⟩
        have := manyO_cells hm (allStr_at cells _ ha hlt)
        simp only [loadO, isAggT, hu, this]
      · exact one hk
    · rename_i k hu
      split at hk
      · rename_i ha
        simp only [Bool.and_eq_true] at ha
        have ha := ha.2
        obtain ⟨hlt, hk⟩ := chk_true hk
        have hlt : ad.off < cells.length := by simpa [Nat.blt_eq] using hlt
        refine ⟨_, ?_, hk⟩
        have := manyO_cells hm (allInt_at k cells _ ha hlt)
        simp only [loadO, isAggT, hu, this]
      · exact one hk
    · exact one hk
  · exact one hk

theorem exN_of : ∀ (n : Nat) (K : List Value → Prop), exN n K → ∃ l, l.length = n ∧ K l := by
  intro n
  induction n with
  | zero => intro K h; exact ⟨[], rfl, h⟩
  | succ n ih =>
    intro K h
    obtain ⟨v, h⟩ := h
    obtain ⟨l, hl, hk⟩ := ih _ h
    exact ⟨v :: l, by simp [hl], hk⟩

theorem loadS_sound {h : Heap} {b : Blk} {t : TypeId} {ad : Addr} {K : Value → Prop} (hb : getBlk h ad.block = some b) (hk : loadS E b t ad K) : ∃ v, loadO E h t ad = some v ∧ K v := by
  unfold loadS at hk
  split at hk
  · rename_i hs hi
    have one : ∀ v, cellIs b.cells ad.off v → cellsAt h ad 1 = some [v] := fun v hv => by
      simp only [cellsAt, hs, hb, hi]
      exact takeN_one hv
    split at hk
    · rename_i hu
      obtain ⟨s, h1, hk⟩ := hk
      exact ⟨_, by simp only [loadO, isAggT, hu, one _ h1], hk⟩
    · rename_i k hu
      obtain ⟨s, h1, hk⟩ := hk
      exact ⟨_, by simp only [loadO, isAggT, hu, one _ h1], hk⟩
    · rename_i hu
      obtain ⟨s, h1, hk⟩ := hk
      exact ⟨_, by simp only [loadO, isAggT, hu, one _ h1], hk⟩
    · rename_i fs hu
      split at hk
      · rename_i s hz
        obtain ⟨l, hl, h1, hk⟩ := exN_of _ _ hk
        refine ⟨_, ?_, hk⟩
        unfold cellsAre at h1
        rw [hl] at h1
        have : cellsAt h ad s = some l := by simp only [cellsAt, hs, hb, hi, h1]
        simp only [loadO, isAggT, hu, hz, this]
      · exact hk.elim
    · exact hk.elim
    · rename_i d h1 h2 h3 h4 h5 hu
      obtain ⟨s, h6, hk⟩ := hk
      refine ⟨_, ?_, hk⟩
      have : isAggT E t = some false := by
        unfold isAggT
        rw [hu]
        cases d <;> first | rfl | (exfalso; simp_all)
      simp only [loadO, this, one _ h6]
    · exact hk.elim
  · exact hk.elim

theorem loadK_sound (hstr : E.strF = strAt) {h : Heap} {t : TypeId} {ad : Addr} {K : Value → Prop} (hk : loadK E h t ad K) : ∃ v, loadO E h t ad = some v ∧ K v := by
  unfold loadK at hk
  split at hk
  · rename_i b hs
    exact loadS_sound (symB_some hs) hk
  · exact loadK0_sound hstr hk

theorem opK_sound (hE : EnvOk E base) {call : CallFn} (hcall : CallOk E base call) {K : Value → Heap → Nat → Nat → Prop} (hk : opK E call o ρ h n K) :
    ∃ v h' n' mw, K v h' n' mw ∧ OpSem E base o ρ h n v h' n' mw := by
  cases ho : o.op with
  | slice t x lo hi mx =>
    obtain ⟨v, h1, h2⟩ := sound_slice (base := base) ho hk
    exact ⟨_, _, _, _, h1, h2⟩
  | move x => rw [opK_eq] at hk; unfold opK0 at hk; rw [ho] at hk; exact ⟨_, _, _, _, hk, sound_move (.inl ho)⟩
  | assign x => rw [opK_eq] at hk; unfold opK0 at hk; rw [ho] at hk; exact ⟨_, _, _, _, hk, sound_move (.inr ho)⟩
  | pick c a b =>
    rw [opK_eq] at hk; unfold opK0 at hk; rw [ho] at hk
    simp only at hk
    split at hk
    · rename_i t hc
      have := sound_pick (E := E) (base := base) (h := h) (n := n) ho hc
      cases t <;> exact ⟨_, _, _, _, hk, this⟩
    · exact hk.elim
  | alloc e =>
    rw [opK_eq] at hk; unfold opK0 at hk; rw [ho] at hk
    simp only at hk
    split at hk
    · rename_i z hz; exact ⟨_, _, _, _, hk, sound_alloc hE ho hz⟩
    · exact hk.elim
  | box e x => rw [opK_eq] at hk; unfold opK0 at hk; rw [ho] at hk; exact ⟨_, _, _, _, hk, sound_box ho⟩
  | build t parts =>
    rw [opK_eq] at hk; unfold opK0 at hk; rw [ho] at hk
    obtain ⟨hlt, hk⟩ := chk_true hk
    split at hk
    · rename_i cs hcs; exact ⟨_, _, _, _, hk, sound_build hE ho (by simpa [Nat.blt_eq] using hlt) hcs⟩
    · exact hk.elim
  | buildSlice t len parts =>
    rw [opK_eq] at hk; unfold opK0 at hk; rw [ho] at hk
    simp only at hk
    split at hk
    · rename_i hl hp
      split at hk
      · rename_i e hu
        split at hk
        · rename_i sz hsz
          exact ⟨_, _, _, _, hk, sound_buildSlice0 ho hu hsz (beq_true hl) hp⟩
        · exact hk.elim
      · exact hk.elim
    · split at hk
      · rename_i e hu
        split at hk
        · rename_i sz z hsz hz
          obtain ⟨hc, hk⟩ := chk_true hk
          simp only [Bool.and_eq_true] at hc
          split at hk
          · rename_i cs hcs
            exact ⟨_, _, _, _, hk, sound_buildSlice hE ho hu hsz hz (ble_true hc.1.1) (beq_true hc.1.2) (ble_true hc.2) hcs⟩
          · exact hk.elim
        · exact hk.elim
      · exact hk.elim
  | load t a =>
    rw [opK_eq] at hk; unfold opK0 at hk; rw [ho] at hk
    simp only at hk
    split at hk
    · rename_i ad ha
      obtain ⟨v, hv, hk⟩ := loadK_sound hE.str hk
      exact ⟨_, _, _, _, hk, sound_load ho ha hv⟩
    · exact hk.elim
  | store t a x =>
    rw [opK_eq] at hk; unfold opK0 at hk; rw [ho] at hk
    simp only at hk
    split at hk
    · rename_i ad ha
      split at hk
      · rename_i s hs
        split at hk
        · rename_i hn
          obtain ⟨h', hst, hk⟩ := storeK_of hk
          exact ⟨_, _, _, _, hk, sound_store ho ha hs (beq_true hn) hst⟩
        · exact hk.elim
      · exact hk.elim
    · exact hk.elim
  | nilCheck x =>
    rw [opK_eq] at hk; unfold opK0 at hk; rw [ho] at hk
    simp only at hk
    split at hk
    · rename_i a ha; have := sound_nilCheck (E := E) (base := base) (h := h) (n := n) ho (.inl ⟨a, ha⟩); rw [ha] at this; exact ⟨_, _, _, _, hk, this⟩
    · rename_i t v ha; have := sound_nilCheck (E := E) (base := base) (h := h) (n := n) ho (.inr ⟨t, v, ha⟩); rw [ha] at this; exact ⟨_, _, _, _, hk, this⟩
    · exact hk.elim
  | binOp op t x y yt =>
    rw [opK_eq] at hk; unfold opK0 at hk; rw [ho] at hk
    obtain ⟨v, h1, h2⟩ := sound_bin (base := base) (h := h) (n := n) hE ho hk
    exact ⟨_, _, _, _, h1, h2⟩
  | unOp op t x =>
    rw [opK_eq] at hk; unfold opK0 at hk; rw [ho] at hk
    obtain ⟨v, h1, h2⟩ := sound_un (base := base) (h := h) (n := n) (E := E) ho hk
    exact ⟨_, _, _, _, h1, h2⟩
  | convert src dst x =>
    rw [opK_eq] at hk; unfold opK0 at hk; rw [ho] at hk
    obtain ⟨v, h1, h2⟩ := sound_conv (base := base) ho hk
    exact ⟨_, _, _, _, h1, h2⟩
  | makeInterface t x =>
    rw [opK_eq] at hk; unfold opK0 at hk; rw [ho] at hk
    simp only at hk
    split at hk
    · exact hk.elim
    · rename_i d hne hd; exact ⟨_, _, _, _, hk, sound_makeInterface ho hd hne⟩
    · exact hk.elim
  | makeSlice t l c =>
    rw [opK_eq] at hk; unfold opK0 at hk; rw [ho] at hk
    simp only at hk
    split at hk
    · rename_i e a b hu hl hc
      split at hk
      · rename_i i hi
        split at hk
        · rename_i z hz
          obtain ⟨hck, hk⟩ := chk_true hk
          simp only [Bool.and_eq_true, decide_eq_true_eq] at hck
          obtain ⟨⟨⟨⟨⟨c1, c2⟩, c3⟩, c4⟩, c5⟩, c6⟩ := hck
          exact ⟨_, _, _, _, hk, sound_makeSlice hE ho hu hl hc hi hz c1 c2 c3 (ble_true c4) (beq_true c5) (by simpa [Nat.blt_eq] using c6)⟩
        · exact hk.elim
      · exact hk.elim
    · exact hk.elim
  | fieldAddr s x f =>
    rw [opK_eq] at hk; unfold opK0 at hk; rw [ho] at hk
    simp only at hk
    split at hk
    · rename_i a fl hx hf
      split at hk
      · rename_i z hz; exact ⟨_, _, _, _, hk, sound_fieldAddr ho hx hf hz⟩
      · exact hk.elim
    · exact hk.elim
  | field t x f =>
    rw [opK_eq] at hk; unfold opK0 at hk; rw [ho] at hk
    simp only at hk
    split at hk
    · rename_i cs fl hx hf
      split at hk
      · rename_i v hv; exact ⟨_, _, _, _, hk, sound_field ho hx hf hv⟩
      · exact hk.elim
    · exact hk.elim
  | indexAddr t x ix =>
    rw [opK_eq] at hk; unfold opK0 at hk; rw [ho] at hk
    simp only at hk
    split at hk
    · rename_i len e a k i hu hx hi
      split at hk
      · rename_i z hz
        obtain ⟨hc, hk⟩ := chk_true hk
        simp only [Bool.and_eq_true, decide_eq_true_eq] at hc
        rw [addO_eq] at hk
        exact ⟨_, _, _, _, hk, sound_indexAddr ho hi hz hc.1 hc.2 (.inl ⟨hu, hx⟩)⟩
      · exact hk.elim
    · rename_i e a len c k i hu hx hi
      split at hk
      · rename_i z hz
        obtain ⟨hc, hk⟩ := chk_true hk
        simp only [Bool.and_eq_true, decide_eq_true_eq] at hc
        rw [addO_eq] at hk
        exact ⟨_, _, _, _, hk, sound_indexAddr ho hi hz hc.1 hc.2 (.inr ⟨hu, c, hx⟩)⟩
      · exact hk.elim
    · exact hk.elim
  | index t x ix =>
    rw [opK_eq] at hk; unfold opK0 at hk; rw [ho] at hk
    simp only at hk
    split at hk
    · rename_i len e cs k i hu hx hi
      split at hk
      · rename_i z hz
        obtain ⟨hc, hk⟩ := chk_true hk
        simp only [Bool.and_eq_true, decide_eq_true_eq] at hc
        split at hk
        · rename_i v hv; exact ⟨_, _, _, _, hk, sound_indexArr ho hi hz hc.1 hc.2 hu hx hv⟩
        · exact hk.elim
      · exact hk.elim
    · rename_i s k i hu hx hi
      obtain ⟨hc, hk⟩ := chk_true hk
      simp only [Bool.and_eq_true, decide_eq_true_eq] at hc
      refine ⟨_, _, _, _, hk, sound_indexStr ho hi hc.1 hu hx (byteAt_spec ?_)⟩
      have := hc.2
      simp only [strLen] at this
      omega
    · exact hk.elim
  | range t x =>
    rw [opK_eq] at hk; unfold opK0 at hk; rw [ho] at hk
    simp only at hk
    split at hk
    · rename_i s hu hx; exact ⟨_, _, _, _, hk, sound_range ho hu hx⟩
    · exact hk.elim
  | next it isS =>
    rw [opK_eq] at hk; unfold opK0 at hk; rw [ho] at hk
    simp only at hk
    split at hk
    · rename_i r hi
      split at hk
      · rename_i b hb
        split at hk
        · rename_i s pos hs
          split at hk
          · rename_i hp; exact ⟨_, _, _, _, hk, sound_next ho hi hb hs (ble_true hp)⟩
          · rename_i hp
            have hp : strLen s < pos + 1 := ble_false hp
            exact ⟨_, _, _, _, hk, sound_next_over ho hi hb hs (by omega)⟩
        · exact hk.elim
      · exact hk.elim
    · exact hk.elim
  | typeAssert x xt t ok =>
    rw [opK_eq] at hk; unfold opK0 at hk; rw [ho] at hk
    simp only at hk
    split at hk
    · exact hk.elim
    · rename_i d hne hd hx
      split at hk
      · rename_i z hz; exact ⟨_, _, _, _, hk, sound_typeAssert_nil hE ho hd hne (.inl hx) hz⟩
      · exact hk.elim
    · rename_i d u v hne hd hx
      split at hk
      · rename_i hut
        have hut := beq_true hut
        subst hut
        have := sound_typeAssert (E := E) (base := base) (h := h) (n := n) ho hd hne hx
        split at hk <;> exact ⟨_, _, _, _, hk, this⟩
      · rename_i hut
        split at hk
        · rename_i z hz; exact ⟨_, _, _, _, hk, sound_typeAssert_nil hE ho hd hne (.inr ⟨u, v, hx, beq_false hut⟩) hz⟩
        · exact hk.elim
    · exact hk.elim
  | extract x ix =>
    rw [opK_eq] at hk; unfold opK0 at hk; rw [ho] at hk
    simp only at hk
    split at hk
    · rename_i vs hx
      split at hk
      · rename_i v hv; exact ⟨_, _, _, _, hk, sound_extract ho hx hv⟩
      · exact hk.elim
    · exact hk.elim
  | call c =>
    rw [opK_eq] at hk; unfold opK0 at hk; rw [ho] at hk
    simp only at hk
    split at hk
    · rename_i f hc
      split at hk
      · rename_i g caps hf
        rw [addCaps_eq] at hk
        obtain ⟨v, h', n', mw, h1, h2⟩ := callK_sound hE hcall hk
        exact ⟨_, _, _, _, h1, sound_call ho hc hf h2⟩
      · exact hk.elim
    · rename_i r name hc
      split at hk
      · rename_i t x hr
        split at hk
        · rename_i g hm
          obtain ⟨v, h', n', mw, h1, h2⟩ := callK_sound hE hcall hk
          exact ⟨_, _, _, _, h1, sound_invoke ho hc hr hm h2⟩
        · exact hk.elim
      · exact hk.elim
    · rename_i b hc
      exact sound_builtin ho hc hk
  | makeFunc fn first captured =>
    rw [opK_eq] at hk; unfold opK0 at hk; rw [ho] at hk
    simp only at hk
    split at hk
    · rename_i g hf
      exact ⟨_, _, _, _, hk, sound_makeFunc ho hf⟩
    · exact hk.elim
  | _ => rw [opK_eq] at hk; unfold opK0 at hk; rw [ho] at hk; exact hk.elim

end
end Go.Pe
