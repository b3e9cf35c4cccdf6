/-
  The evaluator's soundness, third part: numbers, strings, comparisons; aggregates and slices that are made; bounds; conversions.
  The evaluator's soundness, fourth part: what is built, made, sliced, converted, appended.
  The evaluator's soundness, fifth part: conversions, built-in functions, append.
  The evaluator's soundness, sixth part: append; calls; every operation.
-/
import Derived.Test.YthmogphlnjpakaaGreatDoorPeA1
import Derived.Lib.Strings
import Derived.Lib.IfaceEq
import Derived.Lib.IfaceNeq
import Derived.Lib.IndexBytes
import Derived.Laws.BytesString
import Derived.Laws.MakeOwn

namespace Go.Pe
open Go Go.RowKit
section
variable {E : Env} {base : World} {o : Oper} {ρ : Operand → Value} {h : Heap} {n : Nat}
theorem chk_true {b : Bool} {p : Prop} (h : chk b p) : b = true ∧ p := by
  unfold chk at h
  cases b
  · exact h.elim
  · exact ⟨rfl, h⟩
/-! ### Strings -/
theorem listEq_spec : ∀ (a b : List UInt8), listEq a b = (a == b)
  | [], [] => rfl
  | [], _ :: _ => rfl
  | _ :: _, [] => rfl
  | a :: x, b :: y => by
    have ih := listEq_spec x y
    simp only [listEq]
    split
    · rename_i hb
      have : a = b := UInt8.toNat_inj.1 (beq_true hb)
      subst this
      rw [ih]; simp
    · rename_i hb
      have : a ≠ b := fun e => beq_false hb (by rw [e])
      simp [this]
theorem strEq_spec (a b : ByteArray) : (a.toList == b.toList) = strEq a b := by
  rw [ByteArray.toList_eq, ByteArray.toList_eq, strEq, listEq_spec]
theorem listLess_spec : ∀ (a b : List UInt8), listLess a b = Op.bytesLess a b
  | [], [] => rfl
  | [], _ :: _ => rfl
  | _ :: _, [] => rfl
  | a :: x, b :: y => by
    have ih := listLess_spec x y
    simp only [listLess, Op.bytesLess]
    split
    · rename_i hb
      have : a < b := by
        have : a.toNat < b.toNat := ble_true hb
        exact UInt8.lt_iff_toNat_lt.2 this
      simp [this]
    · rename_i hb
      have h1 : ¬ a < b := by
        have : b.toNat < a.toNat + 1 := ble_false hb
        rw [UInt8.lt_iff_toNat_lt]; omega
      split
      · rename_i hc
        have : a = b := UInt8.toNat_inj.1 (beq_true hc)
        subst this
        rw [ih]; simp [h1]
      · rename_i hc
        have : a ≠ b := fun e => beq_false hc (by rw [e])
        simp [h1, this]
theorem strLess_spec (a b : ByteArray) : Op.bytesLess a.toList b.toList = strLess a b := by
  rw [ByteArray.toList_eq, ByteArray.toList_eq, strLess, listLess_spec]
theorem bytes_ext {a b : ByteArray} (h : a.data.toList = b.data.toList) : a = b := by
  obtain ⟨⟨a⟩⟩ := a; obtain ⟨⟨b⟩⟩ := b
  simp at h; subst h; rfl
theorem strCat_spec (a b : ByteArray) : a ++ b = strCat a b := by
  apply bytes_ext
  simp [strCat, ByteArray.data_append]
theorem strCut_spec (a : ByteArray) (l m : Nat) : a.extract l m = strCut a l m := by
  apply bytes_ext
  rw [Lib.extract_data]
  simp [strCut]
theorem intsK_spec {op : BinOp} {k : IntKind} {a b : Int} {K : Value → Prop} (hk : intsK op k a b K) : ∃ v, K v ∧ (∀ μ κ, renV μ κ v = v) ∧
    ∀ (t : TypeId) (x y : Operand) (w : World), (do eqGuard op t x y (.int k a) (.int k b); binOp op t (.int k a) (.int k b)).run E.P w = .ok v w := by
  cases op <;> simp only [intsK, intsF] at hk <;> first
    | exact hk.elim
    | (refine ⟨_, hk, fun _ _ => rfl, fun t x y w => ?_⟩
       simp [eqGuard, binOp, Op.intArith, Op.intBits, Op.intCmp])
    | (obtain ⟨h0, hk⟩ := chk_true hk
       have hb : ¬ b = 0 := by simpa using h0
       refine ⟨_, hk, fun _ _ => rfl, fun t x y w => ?_⟩
       simp [eqGuard, binOp, Op.intDiv, hb])
theorem strsK_spec {op : BinOp} {a b : ByteArray} {K : Value → Prop} (hk : strsK op a b K) : ∃ v, K v ∧ (∀ μ κ, renV μ κ v = v) ∧
    ∀ (t : TypeId) (x y : Operand) (w : World), (do eqGuard op t x y (.string a) (.string b); binOp op t (.string a) (.string b)).run E.P w = .ok v w := by
  cases op <;> simp only [strsK] at hk <;> first
    | exact hk.elim
    | (refine ⟨_, hk, fun _ _ => rfl, fun t x y w => ?_⟩
       simp [eqGuard, binOp, Op.stringOp, strEq_spec, strLess_spec]; done)
    | (obtain ⟨h0, hk⟩ := chk_true hk
       have hb := ble_true h0
       rw [strLen_eq, strLen_eq] at hb
       refine ⟨_, hk, fun _ _ => rfl, fun t x y w => ?_⟩
       have hm : ¬ ((a.size + b.size : Nat) : Int) > IntKind.i64.max := by
         have : IntKind.i64.max = 9223372036854775807 := by decide
         rw [this]; omega
       simp only [eqGuard, binOp, Op.stringOp, hm, strCat_spec]
       simp)
theorem binSem {op : BinOp} {t yt : TypeId} {x y : Operand} {v : Value} (ho : o.op = .binOp op t x y yt)
    (H : ∀ μ κ w, Below base.heap.size base w → (do eqGuard op t x y (renV μ κ (ρ x)) (renV μ κ (ρ y)); binOp op t (renV μ κ (ρ x)) (renV μ κ (ρ y))).run E.P w = .ok (renV μ κ v) w) : OpSem E base o ρ h n v h n big := by
  refine OpSem.pure _ fun μ κ w ρr hb hρ => ?_
  have e1 : ρr x = renV μ κ (ρ x) := hρ x (by simp [ho, Op.operands])
  have e2 : ρr y = renV μ κ (ρ y) := hρ y (by simp [ho, Op.operands])
  have := H μ κ w hb
  simp only [Sem.run_bind] at this
  simp only [execOp, ho, e1, e2, Sem.run_bind, this, Result.andThen_ok, Sem.run_pure]
theorem equalO_spec {t : TypeId} {x y : Value} {r : Bool} (hq : equalO E t x y = some r) (μ κ : Nat → Nat) (w : World) :
    (∀ op xo yo, (eqGuard op t xo yo (renV μ κ x) (renV μ κ y)).run E.P w = .ok () w) ∧ (binOp .eql t (renV μ κ x) (renV μ κ y)).run E.P w = .ok (.bool r) w ∧ (binOp .neq t (renV μ κ x) (renV μ κ y)).run E.P w = .ok (.bool !r) w := by
  unfold equalO und at hq
  have fin : (∀ d, (Op.equalIn (d + 1) t (renV μ κ x) (renV μ κ y)).run E.P w = .ok r w) → (Op.equal t (renV μ κ x) (renV μ κ y)).run E.P w = .ok r w := fun hh => hh 9999
  split at hq <;> first
    | (cases hq; done)
    | skip
  all_goals first
    | (rename_i hu; cases hq; have fin2 := fin (fun d => by simp [Op.equalIn, run_underlying hu]); simp only [renV_bool, renV_nilIface, renV_iface, renV_pointer, renV_nilFunc, renV_func, renV_slice_none, renV_slice_some, Option.map_none, Option.map_some] at fin2 ⊢
       refine ⟨fun op _ _ => by cases op <;> simp [eqGuard], by simp [binOp, fin2], by simp [binOp, fin2]⟩; done)
    | (rename_i b hu; cases hq; have fin2 := fin (fun d => by cases b <;> simp [Op.equalIn, run_underlying hu]); cases b <;> simp only [renV_bool, renV_nilIface, renV_iface, renV_pointer, renV_nilFunc, renV_func, renV_slice_none, renV_slice_some, Option.map_none, Option.map_some] at fin2 ⊢
       all_goals refine ⟨fun op _ _ => by cases op <;> simp [eqGuard], by simp [binOp, fin2], by simp [binOp, fin2]⟩; done)
    | skip
  · rename_i e a b hu
    split at hq
    · rename_i s hae hs
      cases hq
      have hab : a = b := by
        obtain ⟨a1, a2, a3⟩ := a; obtain ⟨b1, b2, b3⟩ := b
        simp only [addrEq, Bool.and_eq_true] at hae
        obtain ⟨⟨⟨h1, h2⟩, h3⟩, h4⟩ := hae
        have h1 := beq_true h1
        have h2 := beq_true h2
        simp at h1 h2 h3 h4
        simp [h1, h2, h3, h4]
      subst hab
      have fin2 := fin (fun d => by simp [Op.equalIn, run_underlying hu, run_sizeT hs, sameAddr])
      simp only [renV_pointer, Option.map_some] at fin2 ⊢
      exact ⟨fun op _ _ => by cases op <;> simp [eqGuard], by simp [binOp, fin2], by simp [binOp, fin2]⟩
    · cases hq
  · rename_i ms u k a u' k' b hu
    split at hq
    · rename_i h1 h2
      obtain rfl := beq_true h1
      obtain rfl := of_decide_eq_true h2
      split at hq
      · rename_i i q hi hx
        split at hq
        · rename_i hc
          cases hq
          have hcc : (E.P.info? u).map (·.comparable) = some true := by rw [hi]; exact congrArg some hc
          simp only [renV_iface, renV_int]
          exact ⟨fun op _ _ => by cases op <;> simp [eqGuard], Lib.run_eql_iface_int w a b hu hcc hx, Lib.run_neq_iface_int w a b hu hcc hx⟩
        · cases hq
      · cases hq
    · cases hq
theorem sound_bin (hE : EnvOk E base) {op : BinOp} {t yt : TypeId} {x y : Operand} {K : Value → Prop} (ho : o.op = .binOp op t x y yt) (hk : binK E op t x y (ρ x) (ρ y) K) :
    ∃ v, K v ∧ OpSem E base o ρ h n v h n big := by
  unfold binK at hk
  split at hk
  · split at hk
    · rename_i k a yk b hx hy
      obtain ⟨h0, hk⟩ := chk_true hk
      have hb : ¬ b < 0 := by simpa using h0
      refine ⟨_, hk, binSem ho fun μ κ w _ => ?_⟩
      simp [hx, hy, eqGuard, binOp, Op.shift, hb]
    · exact hk.elim
  · split at hk
    · rename_i k a yk b hx hy
      obtain ⟨h0, hk⟩ := chk_true hk
      have hb : ¬ b < 0 := by simpa using h0
      refine ⟨_, hk, binSem ho fun μ κ w _ => ?_⟩
      simp [hx, hy, eqGuard, binOp, Op.shift, hb]
    · exact hk.elim
  · rename_i op' n1 n2
    split at hk
    · rename_i k a k' b hx hy
      obtain ⟨h0, hk⟩ := chk_true hk
      have hkk : k' = k := by simpa using (by simpa using h0 : k = k').symm
      rw [hkk] at hy
      obtain ⟨v, hv, hren, hrun⟩ := intsK_spec (E := E) hk
      refine ⟨v, hv, binSem ho fun μ κ w _ => ?_⟩
      rw [hx, hy, hren]
      exact hrun t x y w
    · rename_i a b hx hy
      obtain ⟨v, hv, hren, hrun⟩ := strsK_spec (E := E) hk
      refine ⟨v, hv, binSem ho fun μ κ w _ => ?_⟩
      rw [hx, hy, hren]
      exact hrun t x y w
    · rename_i a b hx hy
      have hag : ∀ r, E.eqAgg t a.toList b.toList = some r → ∀ μ κ w, (∀ op, (eqGuard op t x y (renV μ κ (.agg a)) (renV μ κ (.agg b))).run E.P w = .ok () w) ∧ (Op.equal t (renV μ κ (.agg a)) (renV μ κ (.agg b))).run E.P w = .ok r w := fun r hr μ κ w => by
        have := hE.eqAgg t _ _ r hr μ κ w
        rw [← Array.toList_map, ← Array.toList_map, Array.toArray_toList, Array.toArray_toList] at this
        rw [renV_agg, renV_agg]
        exact ⟨fun op => this.1 op x y, this.2⟩
      split at hk
      · rename_i r hr
        refine ⟨_, hk, binSem ho fun μ κ w _ => ?_⟩
        obtain ⟨h1, h2⟩ := hag r hr μ κ w
        rw [hx, hy]
        simp only [Sem.run_bind, h1, Result.andThen_ok]
        simp only [renV_agg] at h2 ⊢
        simp [binOp, h2]
      · rename_i r hr
        refine ⟨_, hk, binSem ho fun μ κ w _ => ?_⟩
        obtain ⟨h1, h2⟩ := hag r hr μ κ w
        rw [hx, hy]
        simp only [Sem.run_bind, h1, Result.andThen_ok]
        simp only [renV_agg] at h2 ⊢
        simp [binOp, h2]
      · exact hk.elim
    · rename_i hx hy
      split at hk
      · rename_i ms hu
        unfold und at hu
        split at hk
        · obtain ⟨h0, hk⟩ := chk_true hk
          refine ⟨_, hk, binSem ho fun μ κ w _ => ?_⟩
          have e : ∀ d, (Op.equalIn (d + 1) t Value.nilIface .nilIface).run E.P w = .ok true w := fun d => by simp [Op.equalIn, run_underlying hu]
          have e' : (Op.equal t Value.nilIface .nilIface).run E.P w = .ok true w := e 9999
          cases x <;> cases y <;> simp [isConst] at h0 <;> simp [hx, hy, eqGuard, binOp, e']
        · obtain ⟨h0, hk⟩ := chk_true hk
          refine ⟨_, hk, binSem ho fun μ κ w _ => ?_⟩
          have e : ∀ d, (Op.equalIn (d + 1) t Value.nilIface .nilIface).run E.P w = .ok true w := fun d => by simp [Op.equalIn, run_underlying hu]
          have e' : (Op.equal t Value.nilIface .nilIface).run E.P w = .ok true w := e 9999
          cases x <;> cases y <;> simp [isConst] at h0 <;> simp [hx, hy, eqGuard, binOp, e']
        · exact hk.elim
      · exact hk.elim
    · split at hk
      · rename_i r hr
        refine ⟨_, hk, binSem ho fun μ κ w _ => ?_⟩
        obtain ⟨h1, h2, h3⟩ := equalO_spec hr μ κ w
        simp only [Sem.run_bind, h1, Result.andThen_ok, h2, renV_bool]
      · rename_i r hr
        refine ⟨_, hk, binSem ho fun μ κ w _ => ?_⟩
        obtain ⟨h1, h2, h3⟩ := equalO_spec hr μ κ w
        simp only [Sem.run_bind, h1, Result.andThen_ok, h3, renV_bool]
      · exact hk.elim
end
end Go.Pe

namespace Go.Pe
open Go Go.RowKit
section
variable {E : Env} {base : World} {o : Oper} {ρ : Operand → Value} {h : Heap} {n : Nat}
theorem sound_un {op : UnOp} {t : TypeId} {x : Operand} {K : Value → Prop} (ho : o.op = .unOp op t x) (hk : unK op (ρ x) K) : ∃ v, K v ∧ OpSem E base o ρ h n v h n big := by
  unfold unK at hk
  split at hk
  · rename_i k a hx
    refine ⟨_, hk, OpSem.pure _ fun μ κ w ρr _ hρ => ?_⟩
    have e1 : ρr x = renV μ κ (ρ x) := hρ x (by simp [ho, Op.operands])
    simp [execOp, ho, e1, hx, Op.unary, Op.intArith]
  · rename_i b hx
    refine ⟨_, hk, OpSem.pure _ fun μ κ w ρr _ hρ => ?_⟩
    have e1 : ρr x = renV μ κ (ρ x) := hρ x (by simp [ho, Op.operands])
    simp [execOp, ho, e1, hx, Op.unary]
  · exact hk.elim
/-! ### fill -/
theorem foldl_ren (f : Value → Value) (off : Nat) : ∀ (l : List (Value × Nat)) (cs : Array Value),
    (l.map fun p => (f p.1, p.2)).foldl (fun cs (p : Value × Nat) => cs.setIfInBounds (off + p.2) p.1) (cs.map f) = (l.foldl (fun cs (p : Value × Nat) => cs.setIfInBounds (off + p.2) p.1) cs).map f
  | [], cs => rfl
  | p :: l, cs => by
    simp only [List.map_cons, List.foldl_cons]
    rw [← foldl_ren f off l]
    congr 1
    rw [Array.map_setIfInBounds]
theorem fill_ren (μ κ : Nat → Nat) (place : Nat → Option (Nat × Nat)) : ∀ (parts : List (Nat × Value)) (cells : Array Value),
    Instr.fill place (cells.map (renV μ κ)) (parts.map fun p => (p.1, renV μ κ p.2)) = (Instr.fill place cells parts).map (·.map (renV μ κ))
  | [], cells => by simp [Instr.fill]
  | (i, v) :: rest, cells => by
    simp only [List.map_cons, Instr.fill]
    cases hp : place i with
    | none => simp
    | some q =>
      obtain ⟨off, size⟩ := q
      simp only [cells_ren, Array.size_map]
      split
      · simp
      · rw [← fill_ren μ κ place rest]
        congr 1
        have := foldl_ren (renV μ κ) off v.cells.zipIdx.toList cells
        rw [← Array.foldl_toList, ← Array.foldl_toList, ← this]
        congr 1
        rw [Array.toList_zipIdx, Array.toList_zipIdx, Array.toList_map, List.zipIdx_map]
        exact List.map_congr_left fun p _ => rfl
theorem built_ren (hE : EnvOk E base) {t : TypeId} (hlt : t < E.P.types.size) (parts : List (Nat × Value)) (μ κ : Nat → Nat) : E.P.built t (parts.map fun p => (p.1, renV μ κ p.2)) = (E.P.built t parts).map (·.map (renV μ κ)) := by
  unfold Program.built
  have hz : ∀ (it : TypeInfo) z, E.P.info? t = some it → it.zero = some z → z.cells = z.cells.map (renV μ κ) := fun it z h1 h2 => by
    rw [← cells_ren, ren_pure μ κ 6 z (hE.zero t it z hlt h1 h2)]
  cases hit : E.P.info? t with
  | none => simp
  | some it =>
    cases hu : E.P.underlying t with
    | none => simp
    | some d =>
      cases d <;> simp only [Option.map_none]
      · rename_i len e
        cases hzz : it.zero with
        | none => simp
        | some z =>
          cases hie : E.P.info? e with
          | none => simp
          | some ie =>
            simp only
            conv => lhs; rw [hz it z hit hzz]
            exact fill_ren μ κ _ parts _
      · rename_i fields
        cases hzz : it.zero with
        | none => simp
        | some z =>
          cases hpl : (fields.toList.mapM fun f => (E.P.info? f.type).map fun i => (f.offset, i.size)) with
          | none => simp
          | some places =>
            simp only
            conv => lhs; rw [hz it z hit hzz]
            exact fill_ren μ κ _ parts _
theorem parts_eq {μ κ : Nat → Nat} {ρr : Operand → Value} (parts : Array (Nat × Operand)) (hp : ∀ p ∈ parts.toList, ρr p.2 = renV μ κ (ρ p.2)) :
    (parts.map fun x => (x.1, ρr x.2)).toList = (parts.toList.map fun p => (p.1, ρ p.2)).map fun p => (p.1, renV μ κ p.2) := by
  rw [Array.toList_map, List.map_map]
  exact List.map_congr_left fun p hpp => by simp [hp p hpp]
theorem sound_build (hE : EnvOk E base) {t : TypeId} {parts : Array (Nat × Operand)} {cs : Array Value} (ho : o.op = .build t parts) (hlt : t < E.P.types.size) (hb : E.P.built t (parts.toList.map fun p => (p.1, ρ p.2)) = some cs) :
    OpSem E base o ρ h n (.agg cs) h n big := by
  refine OpSem.pure _ fun μ κ w ρr _ hρ => ?_
  have hp : ∀ p ∈ parts.toList, ρr p.2 = renV μ κ (ρ p.2) := fun p hp => hρ p.2 (by simp only [ho, Op.operands, List.mem_map]; exact ⟨p, hp, rfl⟩)
  have := built_ren hE hlt (parts.toList.map fun p => (p.1, ρ p.2)) μ κ
  rw [hb] at this
  have hrun := run_build (P := E.P) w t (parts.map fun x => (x.1, ρr x.2)) (cs.map (renV μ κ)) (by rw [parts_eq parts hp]; exact this)
  simp [execOp, ho, hrun]
theorem fill_wf {D : Nat → Prop} (place : Nat → Option (Nat × Nat)) {parts : List (Nat × Value)} {cells r : Array Value} (hf : Instr.fill place cells parts = some r) (hc : ∀ v ∈ cells.toList, WF D v) (hp : ∀ p ∈ parts, WF D p.2) : ∀ v ∈ r.toList, WF D v := by
  have : WF D (.agg r) := fun μ κ μ' κ' hh => by
    have h1 := fill_ren μ κ place parts cells
    have h2 := fill_ren μ' κ' place parts cells
    rw [hf] at h1 h2
    have e1 : cells.map (renV μ' κ') = cells.map (renV μ κ) := by
      apply Array.ext'; rw [Array.toList_map, Array.toList_map]; exact List.map_congr_left fun v hv => hc v hv _ _ _ _ hh
    have e2 : (parts.map fun p => (p.1, renV μ' κ' p.2)) = parts.map fun p => (p.1, renV μ κ p.2) := List.map_congr_left fun p hpp => by rw [hp p hpp _ _ _ _ hh]
    rw [e1, e2, h1] at h2
    simp at h2
    simp only [renV_agg, Value.agg.injEq]
    apply Array.map_congr_left
    exact fun a ha => (h2 a ha).symm
  exact WF.agg.1 this
theorem repeatL_length (z : List Value) (k : Nat) : (repeatL z k).length = k * z.length := by
  induction k with
  | zero => simp [repeatL]
  | succ k ih => simp [repeatL, ih, Nat.succ_mul]; omega
theorem repeatL_get (z : List Value) (_hz : 0 < z.length) (k j : Nat) (hj : j < k * z.length) : (repeatL z k)[j]? = z[j % z.length]? := by
  induction k generalizing j with
  | zero => simp at hj
  | succ k ih =>
    simp only [repeatL]
    by_cases h1 : j < z.length
    · rw [List.getElem?_append_left h1, Nat.mod_eq_of_lt h1]
    · rw [List.getElem?_append_right (by omega), ih (j - z.length) (by rw [Nat.succ_mul] at hj; omega)]
      congr 1
      rw [Nat.mod_eq_sub_mod (by omega : j ≥ z.length)]
theorem repeatL_mem {z : List Value} {k : Nat} {v : Value} (hv : v ∈ repeatL z k) : v ∈ z := by
  induction k with
  | zero => simp [repeatL] at hv
  | succ k ih => simp only [repeatL, List.mem_append] at hv; exact hv.elim id ih
theorem made_eq (z : Array Value) (k s : Nat) (hs : z.size = s) : madeCells z (k * s) = (repeatL z.toList k).toArray := by
  subst hs
  apply Array.ext'
  apply List.ext_getElem?
  intro j
  unfold madeCells
  by_cases hj : j < k * z.size
  · have hz : 0 < z.size := by
      rcases Nat.eq_zero_or_pos z.size with h0 | h0
      · rw [h0] at hj; simp at hj
      · exact h0
    have hlt : j % z.size < z.size := Nat.mod_lt _ hz
    have h2 := repeatL_get z.toList (by simpa using hz) k j (by simpa using hj)
    simp only [Array.length_toList] at h2
    rw [List.toList_toArray, h2]
    simp [hj, hlt, getElem!_pos]
  · have h1 : (repeatL z.toList k).length ≤ j := by rw [repeatL_length]; simpa using hj
    simp [List.getElem?_eq_none h1]
    omega
theorem sound_buildSlice (hE : EnvOk E base) {t e : TypeId} {len sz : Nat} {parts : Array (Nat × Operand)} {z : Value} {cs : Array Value} (ho : o.op = .buildSlice t len parts) (hu : und E t = some (.slice e))
    (hsz : sizeT E e = some (sz + 1)) (hz : zeroT E e = some z) (h1 : len * (sz + 1) ≤ 16777216) (h2 : z.cells.size = sz + 1) (h3 : 0 < len)
    (hf : Instr.fill (fun i => some (i * (sz + 1), (sz + 1))) (repeatL z.cells.toList len).toArray (parts.toList.map fun p => (p.1, ρ p.2)) = some cs) :
    OpSem E base o ρ h n (.slice (some ⟨n, 0, none⟩) len len) ((n, mkBlk cs.toList e) :: h) (n + 1) big := by
  refine OpSem.new _ (fun D hD => fill_wf _ hf (fun v hv => (zero_wf hE hz D).cells v (repeatL_mem (by simpa using hv))) fun p hp => ?_) (fun D hD => WF.slc.2 hD) fun μ κ w ρr hρ x y => .inl ?_
  · obtain ⟨q, hq, rfl⟩ := List.mem_map.1 hp
    exact hD q.2 (by simp only [ho, Op.operands, List.mem_map]; exact ⟨q, hq, rfl⟩)
  · have hp : ∀ p ∈ parts.toList, ρr p.2 = renV μ κ (ρ p.2) := fun p hp => hρ p.2 (by simp only [ho, Op.operands, List.mem_map]; exact ⟨p, hp, rfl⟩)
    have hzs := zeroT_spec hz
    obtain ⟨hlt, ie', hie', hz⟩ := hzs
    unfold sizeT at hsz
    split at hsz
    · rename_i ie hie
      cases hsz' : ie.size with
      | zero => rw [hsz'] at hsz; simp at hsz
      | succ s =>
        rw [hsz'] at hsz
        simp at hsz
        subst hsz
        have hee : ie = ie' := Option.some.inj (hie.symm.trans hie')
        rw [← hee] at hz
        have hren : (repeatL z.cells.toList len).toArray.map (renV μ κ) = (repeatL z.cells.toList len).toArray := by
          apply Array.ext'
          rw [Array.toList_map]
          have : ∀ v ∈ repeatL z.cells.toList len, renV μ κ v = id v := fun v hv => by
            have hv' := repeatL_mem hv
            have hzr : z.cells.map (renV μ κ) = z.cells := by rw [← cells_ren, ren_pure μ κ 6 z (hE.zero e ie z hlt hie hz)]
            obtain ⟨j, hj⟩ := List.getElem?_of_mem hv'
            have : (z.cells.map (renV μ κ)).toList[j]? = some (renV μ κ v) := by rw [Array.toList_map, List.getElem?_map, hj]; rfl
            rw [hzr, hj] at this
            simpa using this.symm
          simpa using List.map_congr_left this
        have hfr := fill_ren μ κ (fun i => some (i * (s + 1), (s + 1))) (parts.toList.map fun p => (p.1, ρ p.2)) (repeatL z.cells.toList len).toArray
        rw [hren, hf] at hfr
        have hrun := run_buildSlice (P := E.P) w t e len (parts.map fun x => (x.1, ρr x.2)) (cs.map (renV μ κ)) ie z (by unfold und at hu; exact hu) hie hz (by rw [hsz']; omega) (by
            rw [hsz']
            have : 0 < len * (s + 1) := Nat.mul_pos h3 (by omega)
            omega) (by
            rw [parts_eq parts hp, hsz']
            have := made_eq z.cells len (s + 1) h2
            unfold madeCells at this
            rw [this]
            exact hfr)
        rw [← Array.toList_map, Array.toArray_toList]
        simp [execOp, ho, hrun, renAd, upd_same, renCap]
        have : Nat.ble big len = false := by
          rcases hb : Nat.ble big len with _ | _
          · rfl
          · have := ble_true hb
            unfold big at this
            have : len ≤ len * (s + 1) := Nat.le_mul_of_pos_right _ (by omega)
            omega
        rw [this]
    · cases hsz
theorem sound_buildSlice0 {t e : TypeId} {len sz : Nat} {parts : Array (Nat × Operand)} (ho : o.op = .buildSlice t len parts) (hu : und E t = some (.slice e)) (hsz : sizeT E e = some sz) (hl : len = 0) (hp : parts.toList = []) :
    OpSem E base o ρ h n (.slice (some ⟨n, 0, none⟩) 0 0) ((n, mkBlk [] e) :: h) (n + 1) big := by
  subst hl
  obtain rfl : parts = #[] := by
    apply Array.ext'
    exact hp
  refine OpSem.new _ (fun D hD v hv => by cases hv) (fun D hD => WF.slc.2 hD) fun μ κ w ρr hρ x y => .inl ?_
  unfold sizeT at hsz
  split at hsz
  · rename_i ie hie
    have hrun : (Instr.buildSlice t 0 #[]).run E.P w = .ok (.slice (some ⟨w.heap.size, 0, none⟩) 0 0) (w.alloc (.cells #[] e)) := by
      simp [Instr.buildSlice, run_underlying (show E.P.underlying t = some (.slice e) from hu), sizeOf, typeInfo, hie, Instr.fill, newRow]
      have h0 : Array.map (fun _ => (default : Value)) (Array.range 0) = #[] := by
        apply Array.ext'
        simp
      rw [h0]
    have hb : Nat.ble big 0 = false := rfl
    simp [execOp, ho, hrun, renAd, upd_same, renCap, hb]
  · cases hsz
theorem cap_small {c : Nat} (hc : c < big) : Nat.ble big c = false := by
  rcases hb : Nat.ble big c with _ | _
  · rfl
  · have := ble_true hb; omega
theorem renCap_small {κ : Nat → Nat} {k c : Nat} (hc : c < big) : renCap κ k c = c := by
  unfold renCap; rw [cap_small hc]
theorem sound_makeSlice (hE : EnvOk E base) {t e : TypeId} {l c : Operand} {a b : Int} {i : TypeInfo} {z : Value} (ho : o.op = .makeSlice t l c) (hu : und E t = some (.slice e)) (hl : ρ l = .int .i64 a) (hc : ρ c = .int .i64 b)
    (hi : E.P.info? e = some i) (hz : i.zero = some z) (h0 : 0 ≤ a) (h1 : a ≤ b) (h2 : b ≤ 1048576) (h3 : i.bytes ≤ 1048576) (h4 : z.cells.size = i.size) (h5 : e < E.P.types.size) :
    OpSem E base o ρ h n (.slice (some ⟨n, 0, none⟩) a.toNat b.toNat) ((n, mkBlk (repeatL z.cells.toList b.toNat) e) :: h) (n + 1) big := by
  have hzt : zeroT E e = some z := by
    have : Nat.blt e E.P.types.size = true := by simpa [Nat.blt_eq] using h5
    simp [zeroT, hi, hz, this]
  refine OpSem.new _ (fun D hD v hv => (zero_wf hE hzt D).cells v (repeatL_mem hv)) (fun D hD => WF.slc.2 hD) fun μ κ w ρr hρ x y => .inl ?_
  have e1 : ρr l = renV μ κ (ρ l) := hρ l (by simp [ho, Op.operands])
  have e2 : ρr c = renV μ κ (ρ c) := hρ c (by simp [ho, Op.operands])
  have hb : (i.bytes : Int) * b ≤ 281474976710656 := by
    have : (i.bytes : Int) * b ≤ 1048576 * 1048576 := by
      apply Int.mul_le_mul (by omega) h2 (by omega) (by omega)
    omega
  have hrun := run_make (P := E.P) w t e i z (by unfold und at hu; exact hu) hi hz .i64 .i64 a b h0 h1 hb (by omega)
  have hren : (repeatL z.cells.toList b.toNat).map (renV μ κ) = repeatL z.cells.toList b.toNat := by
    have : ∀ v ∈ repeatL z.cells.toList b.toNat, renV μ κ v = id v := fun v hv => by
      have hv' := repeatL_mem hv
      have := zero_cells hE hzt μ κ
      obtain ⟨j, hj⟩ := List.getElem?_of_mem hv'
      have h5 : (z.cells.toList.map (renV μ κ))[j]? = some (renV μ κ v) := by rw [List.getElem?_map, hj]; rfl
      rw [this, hj] at h5
      simpa using h5.symm
    simpa using List.map_congr_left this
  rw [hren, ← made_eq z.cells b.toNat i.size h4]
  simp [execOp, ho, e1, e2, hl, hc, hrun, renAd, upd_same]
  exact (renCap_small (by unfold big; omega)).symm
/-! ### Bounds, slices -/
theorem boundK_spec {x : Option Operand} {dflt top : Nat} {K : Nat → Prop} (hk : boundK (x.map ρ) dflt top K) : ∃ m, K m ∧ (x = none → m = dflt) ∧ (x ≠ none → m ≤ top) ∧
    ∀ (μ κ : Nat → Nat) (ρr : Operand → Value), (∀ y, x = some y → ρr y = renV μ κ (ρ y)) → ∀ y, x = some y → ∃ k, ρr y = .int k (m : Int) := by
  unfold boundK at hk
  cases x with
  | none => exact ⟨dflt, hk, fun _ => rfl, fun hh => absurd rfl hh, fun _ _ _ _ y hy => by cases hy⟩
  | some x =>
    simp only [Option.map_some] at hk
    split at hk
    · rename_i i hi
      obtain ⟨h0, hk⟩ := chk_true hk
      simp at h0
      refine ⟨i.toNat, hk, (fun hh => by cases hh), fun _ => by omega, fun μ κ ρr hρ y hy => ?_⟩
      cases hy
      have : ∃ k, ρ x = .int k i := by
        cases hx : ρ x <;> simp [hx, natOf] at hi
        subst hi
        exact ⟨_, rfl⟩
      obtain ⟨k, hx⟩ := this
      refine ⟨k, ?_⟩
      rw [hρ x rfl, hx]
      simp
      omega
    · exact hk.elim
theorem run_bound {k : IntKind} {m top : Nat} (hm : m ≤ top) (code : BoundsCode) (w : World) : (Instr.sliceBound (.int k (m : Int)) top code).run E.P w = .ok m w := by
  have : 0 ≤ (m : Int) ∧ (m : Int) ≤ top := by omega
  simp [Instr.sliceBound, asIntOf, this]
theorem run_bounds {isS : Bool} {len cap hi lo : Nat} {hx lx : Option Value} (hh : (hx = none ∧ hi = len) ∨ ∃ k, hx = some (.int k (hi : Int)) ∧ hi ≤ cap) (hl : (lx = none ∧ lo = 0) ∨ ∃ k, lx = some (.int k (lo : Int)) ∧ lo ≤ hi) (w : World) :
    (Instr.sliceBounds isS len cap lx hx none).run E.P w = .ok (lo, hi, cap) w := by
  rcases hh with ⟨rfl, rfl⟩ | ⟨k, rfl, hh⟩ <;> rcases hl with ⟨rfl, rfl⟩ | ⟨k', rfl, hl⟩ <;> simp [Instr.sliceBounds, run_bound, *]
theorem add_zero (a : Addr) : a.add 0 = a := by simp [Addr.add]
theorem bounds_met {lo hi : Option Operand} {len top : Nat} {K : Nat → Nat → Prop} (hk : boundK (hi.map ρ) len top fun m => boundK (lo.map ρ) 0 m fun l => K l m) :
    ∃ l m, K l m ∧ l ≤ m ∧ (m = len ∨ m ≤ top) ∧ ∀ (μ κ : Nat → Nat) (ρr : Operand → Value), (∀ y, hi = some y ∨ lo = some y → ρr y = renV μ κ (ρ y)) → ∀ (isS : Bool) (cap : Nat) (w : World), top ≤ cap →
      (Instr.sliceBounds isS len cap (lo.map ρr) (hi.map ρr) none).run E.P w = .ok (l, m, cap) w := by
  obtain ⟨m, hk1, m1, m2, m3⟩ := boundK_spec hk
  obtain ⟨l, hk2, l1, l2, l3⟩ := boundK_spec hk1
  have hm : m = len ∨ m ≤ top := by
    cases hi with
    | none => exact .inl (m1 rfl)
    | some y => exact .inr (m2 (by simp))
  have hl : l ≤ m := by
    cases lo with
    | none => rw [l1 rfl]; omega
    | some y => exact l2 (by simp)
  refine ⟨l, m, hk2, hl, hm, fun μ κ ρr hρ isS cap w hcap => ?_⟩
  refine run_bounds ?_ ?_ w
  · cases hi with
    | none => exact .inl ⟨rfl, m1 rfl⟩
    | some y => obtain ⟨k, hk⟩ := m3 μ κ ρr (fun y hy => hρ y (.inl hy)) y rfl; exact .inr ⟨k, by simp [hk], by have := m2 (by simp); omega⟩
  · cases lo with
    | none => exact .inl ⟨rfl, l1 rfl⟩
    | some y => obtain ⟨k, hk⟩ := l3 μ κ ρr (fun y hy => hρ y (.inr hy)) y rfl; exact .inr ⟨k, by simp [hk], hl⟩
theorem renCap_big (κ : Nat → Nat) (k : Nat) : renCap κ k big = κ k := by
  unfold renCap
  have : Nat.ble big big = true := Nat.ble_eq_true_of_le (Nat.le_refl _)
  rw [this]; simp
theorem renCap_off (κ : Nat → Nat) (k l : Nat) : renCap κ k (big + l) = κ k - l := by
  unfold renCap
  have : Nat.ble big (big + l) = true := Nat.ble_eq_true_of_le (by omega)
  rw [this]; simp
theorem cutA_none (cap l z : Nat) : cutA cap l z none = none := by unfold cutA; split <;> rfl
theorem cutA_some (cap l z : Nat) (a : Addr) : cutA cap l z (some a) = some (if cap = l then a else a.add (l * z)) := by
  unfold cutA
  split
  · rename_i hb; rw [if_pos (beq_true hb)]
  · rename_i hb; rw [if_neg (beq_false hb)]; rfl
theorem sound_slice {t : TypeId} {x : Operand} {lo hi mx : Option Operand} {K : Value → Heap → Nat → Nat → Prop} {call : FuncId → List Value → Heap → Nat → (Value → Heap → Nat → Nat → Prop) → Prop}
    (ho : o.op = .slice t x lo hi mx) (hk : opK E call o ρ h n K) : ∃ v, K v h n big ∧ OpSem E base o ρ h n v h n big := by
  rw [opK_eq] at hk
  unfold opK0 at hk
  rw [ho] at hk
  simp only at hk
  cases mx with
  | some _ => exact hk.elim
  | none =>
  simp only [cutK_eq] at hk
  have hops : ∀ {μ κ : Nat → Nat} {ρr : Operand → Value}, (∀ x ∈ o.op.operands.toList, ρr x = renV μ κ (ρ x)) → ρr x = renV μ κ (ρ x) ∧ ∀ y, hi = some y ∨ lo = some y → ρr y = renV μ κ (ρ y) := fun hρ =>
    ⟨hρ x (by simp [ho, Op.operands]), fun y hy => hρ y (by rcases hy with rfl | rfl <;> simp [ho, Op.operands])⟩
  split at hk
  · rename_i s hu hx
    unfold und at hu
    obtain ⟨l, m, hk, hlm, hm, hrun⟩ := bounds_met (E := E) (ρ := ρ) (lo := lo) (hi := hi) hk
    refine ⟨_, hk, OpSem.pure _ fun μ κ w ρr _ hρ => ?_⟩
    obtain ⟨e1, e2⟩ := hops hρ
    have := hrun μ κ ρr e2 false (strLen s) w (Nat.le_refl _)
    rw [strLen_eq] at this
    simp [execOp, ho, e1, hx, Instr.sliceAt, Instr.slice, run_underlying hu, this, strCut_spec]
  · rename_i e a len cap hu hx
    unfold und at hu
    split at hk
    · rename_i z hz
      split at hk
      · rename_i hbig
        split at hk
        · rename_i ad
          split at hk
          · rename_i b hb hoff
            obtain ⟨hc, hk⟩ := chk_true hk
            simp only [Bool.and_eq_true] at hc
            obtain ⟨⟨⟨⟨c1, c2⟩, c3⟩, c4⟩, c5⟩ := hc
            have c1 := beq_true c1
            have c2 := beq_true c2
            have c3 : 0 < z := ble_true c3
            have c4 := ble_true c4
            have c5 : b.iter = none := by simpa using c5
            rw [c1] at hk hx
            obtain ⟨l, m, hk, hlm, hm, hrun⟩ := bounds_met (E := E) (ρ := ρ) (lo := lo) (hi := hi) (K := fun l m => match l with | 0 => K (.slice (some ad) m big) h n big | j + 1 => chk (Nat.blt (j + 1) len) (K (.slice (some (ad.add ((j + 1) * z))) (m - (j + 1)) (big + (j + 1))) h n big)) hk
            cases l with
            | succ l =>
              simp only at hk
              obtain ⟨hlen, hk⟩ := chk_true hk
              have hlen : l + 1 < len := ble_true hlen
              refine ⟨_, hk, ⟨⟨Nat.le_refl _, fun D _ _ hxx hh => ⟨WF.slc.2 (.inl ?_), hh.mono Dp_mono⟩⟩, fun μ κ w ρr hr hρ _ _ _ => ?_⟩⟩
              · rw [add_block]
                exact WF.slc.1 (hx ▸ hxx (ρ x) (List.mem_map_of_mem (by simp [ho, Op.operands])))
              · obtain ⟨e1, e2⟩ := hops hρ
                obtain ⟨c, e', fr, h1, h2, h3, h4, h5, h6⟩ := (hr.blk _ _ hb).cells_some c5
                have h5 := h5 (by omega)
                have hle : len ≤ κ ad.block := by
                  have : len * z ≤ κ ad.block * z := by rw [c2] at h5; omega
                  exact Nat.le_of_mul_le_mul_right this c3
                have := hrun μ κ ρr e2 true (κ ad.block) w hle
                have hne : ¬ κ ad.block = l + 1 := by omega
                have hr2 : (execOp ρr o).run E.P w = .ok (.value (renV μ κ (.slice (some (ad.add ((l + 1) * z))) (m - (l + 1)) (big + (l + 1))))) w := by
                  simp only [execOp, ho, e1, hx, Instr.sliceAt, Instr.slice, Sem.run_bind, run_underlying hu, Result.andThen_ok, renV_slice_some, renCap_big, Option.map_none, add_block, renCap_off]
                  rw [this]
                  simp [run_sizeT hz, hne, renAd_add]
                rw [hr2]
                exact Out.same hr
            | zero =>
            simp only at hk
            refine ⟨_, hk, ⟨⟨Nat.le_refl _, fun D _ _ hxx hh => ⟨WF.slc.2 (.inl ?_), hh.mono Dp_mono⟩⟩, fun μ κ w ρr hr hρ _ _ _ => ?_⟩⟩
            · exact WF.slc.1 (hx ▸ hxx (ρ x) (List.mem_map_of_mem (by simp [ho, Op.operands])))
            · obtain ⟨e1, e2⟩ := hops hρ
              obtain ⟨c, e', fr, h1, h2, h3, h4, h5, h6⟩ := (hr.blk _ _ hb).cells_some c5
              have h5 := h5 (by omega)
              have hle : len ≤ κ ad.block := by
                have : len * z ≤ κ ad.block * z := by rw [c2] at h5; omega
                exact Nat.le_of_mul_le_mul_right this c3
              have := hrun μ κ ρr e2 true (κ ad.block) w hle
              have hr2 : (execOp ρr o).run E.P w = .ok (.value (renV μ κ (.slice (some ad) m big))) w := by
                simp only [execOp, ho, e1, hx, Instr.sliceAt, Instr.slice, Sem.run_bind, run_underlying hu, Result.andThen_ok, renV_slice_some, renCap_big, Option.map_none]
                rw [this]
                simp [add_zero, run_sizeT hz]
              rw [hr2]
              exact Out.same hr
          · exact hk.elim
        · exact hk.elim
      · rename_i hbig
        have hsm := ble_false hbig
        obtain ⟨l, m, hk, hlm, hm, hrun⟩ := bounds_met (E := E) (ρ := ρ) (lo := lo) (hi := hi) (K := fun l m => K (.slice (cutA cap l z a) (m - l) (cap - l)) h n big) hk
        refine ⟨_, hk, OpSem.pure _ fun μ κ w ρr _ hρ => ?_⟩
        obtain ⟨e1, e2⟩ := hops hρ
        have := hrun μ κ ρr e2 true cap w (Nat.le_refl _)
        cases a with
        | none =>
          rw [cutA_none]
          simp only [execOp, ho, e1, hx, Instr.sliceAt, Instr.slice, Sem.run_bind, run_underlying hu, Result.andThen_ok, renV_slice_none, Option.map_none]
          rw [this]
          simp [run_sizeT hz]
        | some ad =>
          rw [cutA_some]
          simp only [execOp, ho, e1, hx, Instr.sliceAt, Instr.slice, Sem.run_bind, run_underlying hu, Result.andThen_ok, renV_slice_some, renCap_small hsm, Option.map_none]
          rw [renCap_small (by omega), this]
          simp only [Result.andThen_ok, run_sizeT hz, Sem.run_pure, Option.map_some]
          split <;> simp [renAd_add]
    · exact hk.elim
  · rename_i len e a hu hx
    unfold und at hu
    split at hk
    · rename_i z hz
      obtain ⟨hlb, hk⟩ := chk_true hk
      have hlb : len < big := ble_true hlb
      obtain ⟨l, m, hk, hlm, hm, hrun⟩ := bounds_met (E := E) (ρ := ρ) (lo := lo) (hi := hi) (K := fun l m => K (.slice (cutA len l z (some a)) (m - l) (len - l)) h n big) hk
      refine ⟨_, hk, OpSem.pure _ fun μ κ w ρr _ hρ => ?_⟩
      obtain ⟨e1, e2⟩ := hops hρ
      have := hrun μ κ ρr e2 false len w (Nat.le_refl _)
      simp only [execOp, ho, e1, hx, Instr.sliceAt, Instr.sureAddr, Sem.run_bind, run_underlying hu, Result.andThen_ok, renV_pointer, Option.map_some, Option.map_none, Sem.run_pure]
      rw [cutA_some, this]
      simp only [renV_slice_some, Result.andThen_ok, run_sizeT hz]
      rw [renCap_small (by omega)]
      split <;> simp [renAd_add]
    · exact hk.elim
  · exact hk.elim
/-! ### Iterators over strings -/
theorem sound_range {t : TypeId} {x : Operand} {s : ByteArray} (ho : o.op = .range t x) (hu : und E t = some .string) (hx : ρ x = .string s) :
    OpSem E base o ρ h n (.pointer (some ⟨n, 0, none⟩)) ((n, { cells := [], elem := 0, own := true, room := 0, iter := some (s, 0) }) :: h) (n + 1) big := by
  refine ⟨⟨by omega, fun D _ _ _ hh => ⟨WF.ptr.2 (.inr ⟨by simp, by simp⟩), (hh.mono Dp_mono).cons (.inr ⟨by omega, by omega⟩) (by simp)⟩⟩, fun μ κ w ρr hr hρ hh _ hg => ?_⟩
  have e1 : ρr x = renV μ κ (ρ x) := hρ x (by simp [ho, Op.operands])
  unfold und at hu
  have : (execOp ρr o).run E.P w = .ok (.value (.pointer (some ⟨w.heap.size, 0, none⟩))) (w.alloc (.stringIter s 0)) := by
    simp [execOp, ho, e1, hx, Instr.range, run_underlying hu]
  rw [this]
  refine ⟨_, _, Step.alloc big n μ κ w _ 0, by simp [renAd, upd_same], hr.alloc hh hg _ _ 0 ?_⟩
  unfold BlkOk
  exact ⟨by rw [upd_same]; show (w.heap.push _)[w.heap.size]? = _; rw [Array.getElem?_push_size], by rw [upd_same]; exact hr.below.size⟩
theorem sound_next_over {it : Operand} {r : Nat} {b : Blk} {s : ByteArray} {pos : Nat} (ho : o.op = .next it true) (hi : ρ it = .pointer (some ⟨r, 0, none⟩)) (hb : getBlk h r = some b) (hs : b.iter = some (s, pos)) (hp : strLen s ≤ pos) :
    OpSem E base o ρ h n (.tuple #[.bool false]) h n big := by
  refine ⟨⟨Nat.le_refl _, fun D _ _ _ hh => ⟨WF.tuple.2 (by simp), hh.mono Dp_mono⟩⟩, fun μ κ w ρr hr hρ _ _ _ => ?_⟩
  have e1 : ρr it = renV μ κ (ρ it) := hρ it (by simp [ho, Op.operands])
  have hbk := hr.blk _ _ hb
  unfold BlkOk at hbk
  simp only [hs] at hbk
  rw [strLen_eq] at hp
  have : (execOp ρr o).run E.P w = .ok (.value (.tuple #[.bool false])) w := by
    have hn : ¬ pos < s.size := by omega
    simp [execOp, ho, e1, hi, Instr.next, renAd, getObj, Sem.run, hbk.1, hn]
  rw [this]
  have := Out.same (v := .tuple #[.bool false]) (mw := big) hr (n := n)
  simp only [renV_tuple, List.map_toArray, List.map_cons, List.map_nil, renV_bool] at this
  exact this
theorem sound_next {it : Operand} {r : Nat} {b : Blk} {s : ByteArray} {pos : Nat} (ho : o.op = .next it true) (hi : ρ it = .pointer (some ⟨r, 0, none⟩)) (hb : getBlk h r = some b) (hs : b.iter = some (s, pos)) (hp : pos < strLen s) :
    OpSem E base o ρ h n (.tuple #[.bool true, .int .i64 pos, .int .i32 (Utf8.decode s pos).1]) (setBlk h r { b with iter := some (s, pos + (Utf8.decode s pos).2) }) n r := by
  refine ⟨⟨Nat.le_refl _, fun D _ _ _ hh => ⟨WF.tuple.2 (by simp), (hh.mono Dp_mono).set fun v hv => ((hh _ _ hb).2 v hv).mono Dp_mono⟩⟩, fun μ κ w ρr hr hρ hh hx hg => ?_⟩
  have e1 : ρr it = renV μ κ (ρ it) := hρ it (by simp [ho, Op.operands])
  have hbk := hr.blk _ _ hb
  unfold BlkOk at hbk
  simp only [hs] at hbk
  rw [strLen_eq] at hp
  have hlt : r < n := WF.ptr.1 (hi ▸ hx it (by simp [ho, Op.operands]))
  have hrl : μ r < w.heap.size := (Array.getElem?_eq_some_iff.1 hbk.1).1
  have hrun : (execOp ρr o).run E.P w = .ok (.value (.tuple #[.bool true, .int .i64 pos, .int .i32 (Utf8.decode s pos).1])) { w with heap := w.heap.setIfInBounds (μ r) (.stringIter s (pos + (Utf8.decode s pos).2)) } := by
    simp [execOp, ho, e1, hi, Instr.next, renAd, getObj, setObj, Sem.run, hbk.1, hp, goInt]
  rw [hrun]
  have hoth : ∀ i, i ≠ μ r → (w.heap.setIfInBounds (μ r) (.stringIter s (pos + (Utf8.decode s pos).2)))[i]? = w.heap[i]? := fun i hi => Array.getElem?_setIfInBounds_ne (fun e => hi e.symm)
  have hsame : (w.heap.setIfInBounds (μ r) (.stringIter s (pos + (Utf8.decode s pos).2)))[μ r]? = some (.stringIter s (pos + (Utf8.decode s pos).2)) := by simp [hrl]
  refine ⟨μ, κ, ⟨Nat.le_refl _, fun _ _ => ⟨rfl, rfl⟩, by simp, fun b _ hb => hoth b fun e => hb r (Nat.le_refl _) hlt e.symm, fun _ h1 h2 => by omega⟩, by simp, ?_⟩
  refine hr.write hb (hr.below.trans ⟨rfl, rfl, rfl, by simp, fun k hk => hoth k (by omega)⟩) hoth ?_
  unfold BlkOk
  exact ⟨hsame, hbk.2⟩
end
end Go.Pe

namespace Go.Pe
open Go Go.RowKit
section
variable {E : Env} {base : World} {o : Oper} {ρ : Operand → Value} {h : Heap} {n : Nat}
theorem bytesOf_spec : ∀ (cs : List Value) (l : List UInt8), bytesOf cs = some l → ∃ ns : List Int, cs = ns.map (Value.int .u8) ∧ l = ns.map (fun n => UInt8.ofNat n.toNat)
  | [], l, h => by simp [bytesOf] at h; exact ⟨[], rfl, h⟩
  | c :: cs, l, h => by
    unfold bytesOf at h
    split at h
    · rename_i heq; cases heq
    · rename_i a l' heq
      cases heq
      split at h
      · rename_i r hr
        cases h
        obtain ⟨ns, rfl, rfl⟩ := bytesOf_spec _ _ hr
        exact ⟨a :: ns, rfl, rfl⟩
      · cases h
    · cases h
theorem push_bytes (ns : List Int) : ∀ (s : ByteArray), (ns.foldl (fun r n => r.push (UInt8.ofNat n.toNat)) s) = ⟨(s.data.toList ++ ns.map fun n => UInt8.ofNat n.toNat).toArray⟩ := by
  induction ns with
  | nil => intro s; apply bytes_ext; simp
  | cons a ns ih =>
    intro s
    rw [List.foldl_cons, ih]
    apply bytes_ext
    simp [ByteArray.push]
theorem sound_conv0 {src dst : TypeId} {x : Operand} {K : Value → Heap → Nat → Nat → Prop} (ho : o.op = .convert src dst x) (hk : convK0 E h n src dst (ρ x) K) : ∃ v, K v h n big ∧ OpSem E base o ρ h n v h n big := by
  unfold convK0 at hk
  split at hk
  · rename_i s k hs hd
    unfold und at hs hd
    split at hk
    · rename_i k' a hx
      refine ⟨_, hk, OpSem.pure _ fun μ κ w ρr _ hρ => ?_⟩
      have e1 : ρr x = renV μ κ (ρ x) := hρ x (by simp [ho, Op.operands])
      simp [execOp, ho, e1, hx, convert, run_underlying hs, run_underlying hd, Conv.intToInt]
    · exact hk.elim
  · rename_i s hs hd
    unfold und at hs hd
    split at hk
    · rename_i k' a hx
      refine ⟨_, hk, OpSem.pure _ fun μ κ w ρr _ hρ => ?_⟩
      have e1 : ρr x = renV μ κ (ρ x) := hρ x (by simp [ho, Op.operands])
      simp [execOp, ho, e1, hx, convert, run_underlying hs, run_underlying hd, Conv.intToString]
    · rename_i s' hx
      refine ⟨_, hk, OpSem.pure _ fun μ κ w ρr _ hρ => ?_⟩
      have e1 : ρr x = renV μ κ (ρ x) := hρ x (by simp [ho, Op.operands])
      simp [execOp, ho, e1, hx, convert, run_underlying hs, run_underlying hd]
    · rename_i l c hx
      split at hk
      · rename_i e
        split at hk
        · rename_i he
          unfold und at he
          refine ⟨_, hk, OpSem.pure _ fun μ κ w ρr _ hρ => ?_⟩
          have e1 : ρr x = renV μ κ (ρ x) := hρ x (by simp [ho, Op.operands])
          have := run_convert_bytes_string (P := E.P) w src dst e none l c hs he hd
          simp only [execOp, ho, e1, hx, renV_slice_none, Sem.run_bind, this]
          simp [Conv.bytesToString]
          rfl
        · exact hk.elim
      · exact hk.elim
    · rename_i a len c hx
      split at hk
      · rename_i e
        split at hk
        · rename_i he
          unfold und at he
          split at hk
          · rename_i cs hcs
            split at hk
            · rename_i l hl
              obtain ⟨ns, rfl, rfl⟩ := bytesOf_spec _ _ hl
              refine ⟨_, hk, ⟨⟨Nat.le_refl _, fun D _ _ _ hh => ⟨WF.string _, hh.mono Dp_mono⟩⟩, fun μ κ w ρr hr hρ _ _ _ => ?_⟩⟩
              have e1 : ρr x = renV μ κ (ρ x) := hρ x (by simp [ho, Op.operands])
              have h1 := run_convert_bytes_string (P := E.P) w src dst e (some (renAd μ a)) len (renCap κ a.block c) hs he hd
              have h2 := hr.loadCells hcs
              rw [List.map_map] at h2
              have h3 := run_bytesToString (P := E.P) w (renAd μ a) len (renCap κ a.block c) ns h2
              rw [push_bytes] at h3
              have : (execOp ρr o).run E.P w = .ok (.value (.string ⟨(ns.map fun n => UInt8.ofNat n.toNat).toArray⟩)) w := by
                simp only [execOp, ho, e1, hx, renV_slice_some, Sem.run_bind, h1, h3, Result.andThen_ok, Sem.run_pure]
                rfl
              rw [this]
              exact Out.same (v := .string _) hr
            · exact hk.elim
          · exact hk.elim
        · exact hk.elim
      · exact hk.elim
    · exact hk.elim
  · exact hk.elim
theorem bytesOf_ofBytes (l : List UInt8) : bytesOf (ofBytes l) = some l := by
  induction l with
  | nil => rfl
  | cons b l ih =>
    simp only [ofBytes, List.map_cons] at ih ⊢
    simp [bytesOf, ih]
theorem sound_conv {src dst : TypeId} {x : Operand} {K : Value → Heap → Nat → Nat → Prop} (ho : o.op = .convert src dst x) (hk : convK E h n src dst (ρ x) K) : ∃ v, K v h n big ∧ OpSem E base o ρ h n v h n big := by
  unfold convK at hk
  split at hk
  · exact sound_conv0 ho hk
  · rename_i b hb
    refine sound_conv0 ho ?_
    split at hk
    · rename_i e a len c hs hd hx
      split at hk
      · rename_i he hsp hi
        obtain ⟨l, ⟨h1, h2⟩, hk⟩ := hk
        rw [hx] at hb ⊢
        have hg := symB_some (show symB h a.block = some b from hb)
        unfold bytesAre at h2
        rw [h1] at h2
        have hc : cellsAt h a len = some (ofBytes l) := by simp only [cellsAt, hsp, hg, hi, h2]
        simp only [convK0, hs, hd, he, hc, bytesOf_ofBytes]
        exact hk
      · exact hk.elim
    · exact hk.elim
/-! ### Built-in functions -/
theorem builtin_ops {c : Call} (ho : o.op = .call c) {b : Builtin} (hc : c.callee = .builtin b) {μ κ : Nat → Nat} {ρr : Operand → Value} (hρ : ∀ x ∈ o.op.operands.toList, ρr x = renV μ κ (ρ x)) :
    c.args.map ρr = ((c.args.toList.map ρ).map (renV μ κ)).toArray := by
  apply Array.ext'
  rw [Array.toList_map, List.map_map]
  refine List.map_congr_left fun x hx => hρ x ?_
  simp only [ho, Op.operands, Call.operands, hc]
  simpa using hx
theorem builtin_run {c : Call} (ho : o.op = .call c) {b : Builtin} (hc : c.callee = .builtin b) {ts : List TypeId} (hts : c.argTypes.toList = ts) {μ κ : Nat → Nat} {ρr : Operand → Value} (hρ : ∀ x ∈ o.op.operands.toList, ρr x = renV μ κ (ρ x)) (w : World) :
    ∃ cs, (execOp ρr o).run E.P w = (builtin b ts.toArray o.type cs ((c.args.toList.map ρ).map (renV μ κ)).toArray).run E.P w := by
  refine ⟨c.args.map fun | .const _ => true | _ => false, ?_⟩
  simp only [execOp, ho, resolve, hc, Sem.run_bind, Sem.run_pure, Result.andThen_ok, invoke, builtin_ops ho hc hρ]
  subst hts
  simp only [Array.toArray_toList]
  rfl
theorem minL_spec (k : IntKind) : ∀ (l : List Value) (a : Int) (v : Value), minL k a l = some v → (∀ μ κ, renV μ κ v = v) ∧ ∀ (μ κ : Nat → Nat) (w : World), ((l.map (renV μ κ)).foldlM Builtin.min2 (.int k a)).run E.P w = .ok v w
  | [], a, v, hv => by simp [minL] at hv; subst hv; exact ⟨fun _ _ => rfl, fun _ _ w => rfl⟩
  | x :: l, a, v, hv => by
    cases x <;> simp only [minL] at hv <;> first | (cases hv; done) | skip
    rename_i k' b
    obtain ⟨h1, h2⟩ := minL_spec k l _ v hv
    refine ⟨h1, fun μ κ w => ?_⟩
    have := h2 μ κ w
    simp only [List.map_cons, List.foldlM_cons, renV_int, Builtin.min2, Sem.run_bind, Sem.run_pure, Result.andThen_ok]
    rw [← this]
    congr 2
    by_cases hb : b < a <;> simp [hb]
theorem maxL_spec (k : IntKind) : ∀ (l : List Value) (a : Int) (v : Value), maxL k a l = some v → (∀ μ κ, renV μ κ v = v) ∧ ∀ (μ κ : Nat → Nat) (w : World), ((l.map (renV μ κ)).foldlM Builtin.max2 (.int k a)).run E.P w = .ok v w
  | [], a, v, hv => by simp [maxL] at hv; subst hv; exact ⟨fun _ _ => rfl, fun _ _ w => rfl⟩
  | x :: l, a, v, hv => by
    cases x <;> simp only [maxL] at hv <;> first | (cases hv; done) | skip
    rename_i k' b
    obtain ⟨h1, h2⟩ := maxL_spec k l _ v hv
    refine ⟨h1, fun μ κ w => ?_⟩
    have := h2 μ κ w
    simp only [List.map_cons, List.foldlM_cons, renV_int, Builtin.max2, Sem.run_bind, Sem.run_pure, Result.andThen_ok]
    rw [← this]
    congr 2
    by_cases hb : b > a <;> simp [hb]
theorem source_spec {base : World} {w : World} {μ κ : Nat → Nat} (hr : Rel E.P base μ κ h w) {size m : Nat} {x : Value} {new : List Value} (hs : sourceO h size x = some (m, new)) :
    (Builtin.lenOf (renV μ κ x)).run E.P w = .ok m w ∧ (Builtin.firstCells size m (renV μ κ x)).run E.P w = .ok (new.map (renV μ κ)).toArray w ∧ new.length = m * size := by
  unfold sourceO at hs
  split at hs
  · split at hs
    · cases hs
      exact ⟨by simp [Builtin.lenOf], by simp [Builtin.firstCells], by simp⟩
    · cases hs
  · split at hs
    · rename_i cs hcs
      cases hs
      exact ⟨by simp [Builtin.lenOf], by simp [Builtin.firstCells, hr.loadCells hcs], (cellsAt_spec hcs).2.1⟩
    · cases hs
  · rename_i s
    split at hs
    · cases hs
      refine ⟨by simp [Builtin.lenOf, strLen_eq], ?_, by simp [ofBytes, strLen]⟩
      have h1 : (ofBytes s.data.toList).map (renV μ κ) = ofBytes s.data.toList := by
        unfold ofBytes; rw [List.map_map]; exact List.map_congr_left fun _ _ => rfl
      have h2 : s.extract 0 (strLen s) = s := by
        apply bytes_ext
        rw [Lib.extract_data]
        simp only [List.drop_zero, strLen, Nat.sub_zero]
        exact List.take_of_length_le (Nat.le_refl _)
      rw [h1]
      simp only [renV_string, Builtin.firstCells, h2, Sem.run_pure]
      congr 1
      apply Array.ext'
      simp [ofBytes]
    · cases hs
  · cases hs
theorem source_wf {D : Nat → Prop} (hh : HWF D h) {size m : Nat} {x : Value} {new : List Value} (hs : sourceO h size x = some (m, new)) : ∀ v ∈ new, WF D v := by
  unfold sourceO at hs
  split at hs
  · split at hs
    · cases hs; simp
    · cases hs
  · split at hs
    · rename_i cs hcs; cases hs; exact cellsAt_wf hh hcs
    · cases hs
  · split at hs
    · cases hs
      intro v hv
      simp only [ofBytes, List.mem_map] at hv
      obtain ⟨b, _, rfl⟩ := hv
      exact WF.int _ _
    · cases hs
  · cases hs
theorem Rel.drew {P : Program} {base w : World} {μ κ : Nat → Nat} (hr : Rel P base μ κ h w) : Rel P base μ κ h w.drew := ⟨hr.below.drew, hr.blk, hr.inj, hr.glob, hr.gsz⟩
theorem Step.drew {mw n n' : Nat} {μ κ μ' κ' : Nat → Nat} {w w' : World} (hs : Step mw n n' μ κ w.drew μ' κ' w') : Step mw n n' μ κ w μ' κ' w' := ⟨hs.le, hs.ag, hs.sz, hs.fr, hs.nw⟩
theorem run_grow {t u ty e : TypeId} {d : TypeDesc} {i : TypeInfo} {z : Value} (ht : E.P.underlying t = some (.slice e)) (hu : E.P.underlying u = some d) (hd : d = .string ∨ ∃ e', d = .slice e') (hi : E.P.info? e = some i) (hz : i.zero = some z)
    (hsz : z.cells.size = i.size) {a : Option Addr} {sLen sCap m : Nat} {x : Value} {old new : Array Value} {w : World} (hl : (Builtin.lenOf x).run E.P w = .ok m w)
    (ho : (Builtin.firstCells i.size sLen (.slice a sLen sCap)).run E.P w.drew = .ok old w.drew) (hn : (Builtin.firstCells i.size m x).run E.P w.drew = .ok new w.drew) (hlo : old.size = sLen * i.size) (hln : new.size = m * i.size)
    (hneed : sCap < sLen + m) (hb : (sLen + m) * i.bytes ≤ 140737488355328) (hsm : sLen + m ≤ 9223372036854775807) :
    ∃ (c : Nat) (rest : Array Value), sLen + m ≤ c ∧ (old ++ new ++ rest).size = c * i.size ∧ (Builtin.append_ #[t, u] ty #[.slice a sLen sCap, x]).run E.P w = .ok (.slice (some ⟨w.heap.size, 0, none⟩) (sLen + m) c) (w.drew.alloc (.cells (old ++ new ++ rest) e)) := by
  have hgf := growslice_fits hneed hb
  have hge := grownCap_ge w (sLen + m) sCap e
  refine ⟨grownCap w (sLen + m) sCap e, Builtin.zeroCells z.cells (grownCap w (sLen + m) sCap e - (sLen + m)), hge, ?_, ?_⟩
  · rw [Array.size_append, Array.size_append, size_zeroCells, hsz, hlo, hln, ← Nat.add_mul, ← Nat.add_mul]
    congr 1
    omega
  · have n1 : ¬ sLen + m ≤ sCap := by omega
    have n2 : ¬ (9223372036854775807 < ((sLen : Int) + (m : Int))) := by omega
    have n3 : ¬ (281474976710656 < Builtin.nextslicecap (sLen + m) sCap * i.bytes) := by omega
    rcases hd with rfl | ⟨e', rfl⟩
    · simp [Builtin.append_, run_underlying ht, run_underlying hu, sizeOf, typeInfo, zeroValue, hi, hz, hl, n1, n2, n3, Question.forced, ho, hn, newRow, grownCap]
    · simp [Builtin.append_, run_underlying ht, run_underlying hu, sizeOf, typeInfo, zeroValue, hi, hz, hl, n1, n2, n3, Question.forced, ho, hn, newRow, grownCap]
theorem run_fits {t u ty e : TypeId} {d : TypeDesc} {i : TypeInfo} (ht : E.P.underlying t = some (.slice e)) (hu : E.P.underlying u = some d) (hd : d = .string ∨ ∃ e', d = .slice e') (hi : E.P.info? e = some i)
    {a : Option Addr} {sLen sCap m : Nat} {x : Value} {new : Array Value} {w w' : World} (hl : (Builtin.lenOf x).run E.P w = .ok m w)
    (hn : (Builtin.firstCells i.size m x).run E.P w = .ok new w) (hneed : sLen + m ≤ sCap)
    (hst : match a with | some a => (storeCells (a.add (sLen * i.size)) new.toList).run E.P w = .ok () w' | none => w' = w) :
    (Builtin.append_ #[t, u] ty #[.slice a sLen sCap, x]).run E.P w = .ok (.slice a (sLen + m) sCap) w' := by
  rcases hd with rfl | ⟨e', rfl⟩ <;> cases a <;> simp only at hst <;> simp [Builtin.append_, run_underlying ht, run_underlying hu, sizeOf, typeInfo, hi, hl, hneed, hn, hst]
end
end Go.Pe

namespace Go.Pe
open Go Go.RowKit
section
variable {E : Env} {base : World} {o : Oper} {ρ : Operand → Value} {h : Heap} {n : Nat}
theorem srcT_spec {d : Option TypeDesc} (hd : srcT d = true) : ∃ x, d = some x ∧ (x = .string ∨ ∃ e', x = .slice e') := by
  unfold srcT at hd
  split at hd
  · exact ⟨_, rfl, .inr ⟨_, rfl⟩⟩
  · exact ⟨_, rfl, .inl rfl⟩
  · cases hd
theorem append_run {c : Call} (ho : o.op = .call c) (hc : c.callee = .builtin .append) {t u : TypeId} (hts : c.argTypes.toList = [t, u]) {s x : Value} (hargs : c.args.toList.map ρ = [s, x]) {μ κ : Nat → Nat} {ρr : Operand → Value}
    (hρ : ∀ x ∈ o.op.operands.toList, ρr x = renV μ κ (ρ x)) {w w' : World} {v : Value} (hr : (Builtin.append_ #[t, u] o.type #[renV μ κ s, renV μ κ x]).run E.P w = .ok v w') : (execOp ρr o).run E.P w = .ok (.value v) w' := by
  obtain ⟨cs, h1⟩ := builtin_run (E := E) ho hc hts hρ w
  rw [h1, hargs]
  simp only [List.map_cons, List.map_nil, builtin, Sem.run_bind]
  rw [hr]
  rfl
theorem args_wf {c : Call} (ho : o.op = .call c) {b : Builtin} (hc : c.callee = .builtin b) {D : Nat → Prop} {l : List Value} (hargs : c.args.toList.map ρ = l) (hx : ∀ x ∈ o.op.operands.toList, WF D (ρ x)) : ∀ v ∈ l, WF D v := by
  subst hargs
  intro v hv
  obtain ⟨x, hxx, rfl⟩ := List.mem_map.1 hv
  refine hx x ?_
  simp only [ho, Op.operands, Call.operands, hc]
  simpa using hxx
theorem room_ok {μ κ : Nat → Nat} {w : World} {n kc : Nat} {cs : List Value} {e size : Nat} {c : Array Value} {x : Nat} (hcs : ∀ v ∈ cs, WF (· < n) v) (hb : base.heap.size ≤ x) (hw : w.heap[x]? = some (.cells c e (0, 0)))
    (hc : ∀ (j : Nat) v, cs[j]? = some v → c[j]? = some (renV μ κ v)) (hl : cs.length ≤ c.size) (hs : c.size = kc * size) (hz : size ≠ 0) :
    BlkOk base (upd μ n x) (upd κ n kc) n (roomBlk cs e size) w := by
  unfold BlkOk
  simp only [roomBlk]
  refine ⟨c, e, (0, 0), by rw [upd_same]; exact hw, fun _ => ⟨rfl, by rw [upd_same]; exact hb, rfl⟩, by simpa using hl, fun j v hj => ?_, fun _ => by rw [upd_same]; exact hs, fun hh => absurd hh hz⟩
  rw [List.getElem?_map] at hj
  cases hx : cs[j]? with
  | none => simp [hx] at hj
  | some u =>
    simp [hx] at hj
    subst hj
    rw [wf_upd (hcs u (List.mem_of_getElem? hx))]
    exact hc j u hx
theorem grow_get {μ κ : Nat → Nat} {old new : List Value} {rest : Array Value} (j : Nat) (v : Value) (hj : (old ++ new)[j]? = some v) : (((old.map (renV μ κ)).toArray ++ (new.map (renV μ κ)).toArray ++ rest))[j]? = some (renV μ κ v) := by
  rw [← Array.getElem?_toList]
  simp only [Array.toList_append, ← List.map_append]
  have hlt : j < (old ++ new).length := (List.getElem?_eq_some_iff.1 hj).1
  rw [List.getElem?_append_left (by simpa using hlt), List.getElem?_map, hj]
  rfl
theorem splice_get {μ κ : Nat → Nat} {cc : Array Value} {old new : List Value} {k : Nat} (hol : old.length = k) (hk : k ≤ cc.size) (hoc : ∀ (j : Nat) v, old[j]? = some v → cc[j]? = some (renV μ κ v)) (j : Nat) (v : Value)
    (hj : (old ++ new)[j]? = some v) : (cc.toList.take k ++ new.map (renV μ κ) ++ cc.toList.drop (k + (new.map (renV μ κ)).length))[j]? = some (renV μ κ v) := by
  by_cases hj1 : j < old.length
  · rw [List.getElem?_append_left hj1] at hj
    have := hoc j v hj
    rw [List.append_assoc, List.getElem?_append_left (by rw [List.length_take, Array.length_toList]; omega), List.getElem?_take_of_lt (by omega), Array.getElem?_toList]
    exact this
  · rw [List.getElem?_append_right (by omega)] at hj
    have hlt2 : j - old.length < new.length := (List.getElem?_eq_some_iff.1 hj).1
    have hcl : cc.toList.length = cc.size := Array.length_toList
    rw [List.append_assoc, List.getElem?_append_right (by rw [List.length_take, hcl]; omega), List.length_take, hcl, Nat.min_eq_left hk, List.getElem?_append_left (by rw [List.length_map]; omega), List.getElem?_map, ← hol, hj]
    rfl
theorem room_wf {D D' : Nat → Prop} {cs : List Value} {e size : Nat} (hcs : ∀ v ∈ cs, WF D v) (hd : ∀ k, D k → D' k) : ∀ v, some v ∈ (roomBlk cs e size).cells → WF D' v := mk_wf (e := e) hcs hd
theorem sound_append0 {c : Call} {t u : TypeId} {s x : Value} {K : Value → Heap → Nat → Nat → Prop} (ho : o.op = .call c) (hc : c.callee = .builtin .append) (hts : c.argTypes.toList = [t, u]) (hargs : c.args.toList.map ρ = [s, x])
    (hk : appendK0 E h n t u s x K) : ∃ v h' n' mw, K v h' n' mw ∧ OpSem E base o ρ h n v h' n' mw := by
  have hmap : o.op.operands.toList.map ρ = [s, x] := by
    simp only [ho, Op.operands, Call.operands, hc, Array.toList_append, List.nil_append]
    exact hargs
  unfold appendK0 at hk
  split at hk
  · rename_i e hu hsrc
    unfold und at hu
    obtain ⟨d, hud, hd⟩ := srcT_spec hsrc
    unfold und at hud
    split at hk
    · rename_i i a len cap hi
      split at hk
      · rename_i z sz m new hz hsz hsource
        replace hk := chk_true hk
        obtain ⟨hck, hk⟩ := hk
        simp only [Bool.and_eq_true] at hck
        obtain ⟨⟨⟨c1, c2⟩, c3⟩, c4⟩ := hck
        have c1 := ble_true c1
        have c2 := ble_true c2
        have c3 := beq_true c3
        replace hsz : i.size = sz + 1 := hsz
        rw [hsz] at hsource
        replace hsource : sourceO h (sz + 1) x = some (m, new) := hsource
        have hsmall : len + m ≤ 9223372036854775807 := by omega
        split at hk
        · rename_i hbig
          split at hk
          · rename_i a
            split at hk
            · rename_i b hsp hoff hb
              split at hk
              · rename_i old hown hit hold hroom hcb hel
                have hroom := beq_true hroom
                have hcb := beq_true hcb
                have hel := beq_true hel
                subst hcb
                obtain ⟨hol, hog⟩ := takeN_spec _ _ _ hold
                refine ⟨_, _, _, _, hk, ⟨⟨by omega, fun D hD hG hx hh => ⟨WF.slc.2 (.inr ⟨by simp, by simp⟩), ?_⟩⟩, fun μ κ w ρr hr hρ hh hx hg => ?_⟩⟩
                · refine (hh.mono Dp_mono).drop.cons (.inr ⟨by omega, by omega⟩) (room_wf (D := D) (fun v hv => ?_) Dp_mono)
                  rcases List.mem_append.1 hv with hv | hv
                  · obtain ⟨j, hj⟩ := List.getElem?_of_mem hv
                    exact (hh _ _ hb).2 v (List.mem_of_getElem? (hog j v hj))
                  · exact source_wf hh hsource v hv
                · have hlt : a.block < n := WF.slc.1 (args_wf ho hc hargs hx _ (List.mem_cons_self ..))
                  obtain ⟨s1, s2, s3⟩ := source_spec hr hsource
                  obtain ⟨cc, e', fr, h1, h2, h3, h4, h5, h6⟩ := (hr.blk _ _ hb).cells_some hit
                  obtain ⟨rfl, hbs, rfl⟩ := h2 hown
                  rw [hroom] at h5
                  have h5 := h5 (by omega)
                  have hra : renAd μ a = ⟨μ a.block, 0, none⟩ := by simp [renAd, hsp, hoff]
                  have hwfc : ∀ v ∈ old ++ new, WF (· < n) v := fun v hv => by
                    rcases List.mem_append.1 hv with hv | hv
                    · obtain ⟨j, hj⟩ := List.getElem?_of_mem hv
                      exact (hh _ _ hb).2 v (List.mem_of_getElem? (hog j v hj))
                    · exact source_wf hh hsource v hv
                  have hfew : Rel E.P base μ κ (dropBlk h a.block) w := hr.fewer fun k b hkb => by
                    rw [getBlk_drop] at hkb; split at hkb
                    · cases hkb
                    · exact hkb
                  have hoc : ∀ (j : Nat) v, old[j]? = some v → cc[j]? = some (renV μ κ v) := fun j v hj => h4 j v (hog j v hj)
                  have hlen : len * (sz + 1) ≤ cc.size := by
                    rcases Nat.eq_zero_or_pos (len * (sz + 1)) with h0 | h0
                    · omega
                    · have : old[len * (sz + 1) - 1]? = some (old[len * (sz + 1) - 1]'(by omega)) := List.getElem?_eq_getElem (by omega)
                      have := hoc _ _ this
                      have := (Array.getElem?_eq_some_iff.1 this).1
                      omega
                  by_cases hfit : len + m ≤ κ a.block
                  · have hcfit : len * (sz + 1) + 0 + (new.map (renV μ κ)).length ≤ cc.size := by
                      rw [List.length_map, s3, h5]
                      have := Nat.mul_le_mul_right (sz + 1) hfit
                      rw [Nat.add_mul] at this
                      omega
                    have hst := run_storeCells_at E.P (μ a.block) (len * (sz + 1)) b.elem (new.map (renV μ κ)) 0 cc w h1 hcfit (fun v hv => by
                      obtain ⟨y, hy, rfl⟩ := List.mem_map.1 hv
                      rw [oneCell_ren]; exact List.all_eq_true.1 c4 y hy)
                    simp only [Nat.add_zero] at hst hcfit
                    rw [show (⟨μ a.block, len * (sz + 1), none⟩ : Addr) = (renAd μ a).add (len * i.size) by rw [hra, hsz, add_at _ _ rfl, Nat.zero_add]] at hst
                    have hget := splice_get (μ := μ) (κ := κ) hol hlen hoc (new := new)
                    have hLsz : (cc.toList.take (len * (sz + 1)) ++ new.map (renV μ κ) ++ cc.toList.drop (len * (sz + 1) + (new.map (renV μ κ)).length)).toArray.size = cc.size := by
                      rw [List.size_toArray, List.length_append, List.length_append, List.length_take, List.length_drop, Array.length_toList]
                      omega
                    have hrow := setRow_heap w (μ a.block) cc (cc.toList.take (len * (sz + 1)) ++ new.map (renV μ κ) ++ cc.toList.drop (len * (sz + 1) + (new.map (renV μ κ)).length)).toArray b.elem (0, 0) h1
                    have hbel := below_row hr.below hbs (cc.toList.take (len * (sz + 1)) ++ new.map (renV μ κ) ++ cc.toList.drop (len * (sz + 1) + (new.map (renV μ κ)).length)).toArray
                    have hoth := setRow_heap_other w (μ a.block) (cc.toList.take (len * (sz + 1)) ++ new.map (renV μ κ) ++ cc.toList.drop (len * (sz + 1) + (new.map (renV μ κ)).length)).toArray
                    have hwsz : w.heap.size ≤ (w.setRow (μ a.block) (cc.toList.take (len * (sz + 1)) ++ new.map (renV μ κ) ++ cc.toList.drop (len * (sz + 1) + (new.map (renV μ κ)).length)).toArray).heap.size := by simp [World.setRow]
                    generalize w.setRow (μ a.block) (cc.toList.take (len * (sz + 1)) ++ new.map (renV μ κ) ++ cc.toList.drop (len * (sz + 1) + (new.map (renV μ κ)).length)).toArray = W at hst hrow hbel hoth hwsz
                    generalize cc.toList.take (len * (sz + 1)) ++ new.map (renV μ κ) ++ cc.toList.drop (len * (sz + 1) + (new.map (renV μ κ)).length) = L at hget hLsz hrow
                    have hrun := run_fits (E := E) (ty := o.type) hu hud hd hi (a := some (renAd μ a)) (sLen := len) (sCap := κ a.block) s1 (by rw [hsz]; exact s2) hfit hst
                    have hex := append_run (E := E) ho hc hts hargs hρ (v := .slice (some (renAd μ a)) (len + m) (κ a.block)) (by rw [renV_slice_some, renCap_big]; exact hrun)
                    rw [hex]
                    refine ⟨upd μ n (μ a.block), upd κ n (κ a.block), ⟨by omega, fun k hk => ?_, hwsz, fun b' hb' hh' => hoth b' fun e => hh' a.block (Nat.le_refl _) hlt e.symm, fun k k1 k2 => ?_⟩, ?_, ?_⟩
                    · have : k ≠ n := by omega
                      exact ⟨upd_other _ _ this, upd_other _ _ this⟩
                    · have : k = n := by omega
                      subst this
                      exact .inr ⟨a.block, Nat.le_refl _, hlt, upd_same _ _ _⟩
                    · rw [renV_slice_some, renCap_big, upd_same, hra]
                      simp [renAd, upd_same]
                    · have hbk : BlkOk base (upd μ n (μ a.block)) (upd κ n (κ a.block)) n (roomBlk (old ++ new) e (sz + 1)) W := room_ok (μ := μ) (κ := κ) hwfc hbs (by rw [← hel]; exact hrow) (fun j v hj => by rw [List.getElem?_toArray]; exact hget j v hj) (by
                        rw [hLsz, List.length_append, hol, s3, h5, ← Nat.add_mul]
                        exact Nat.mul_le_mul_right _ hfit) (by rw [hLsz]; exact h5) (by omega)
                      refine ⟨hbel, fun k b'' hkb => ?_, fun i' j' x' y' hx' hy' hxy => ?_, fun g hgl => ?_, hr.gsz⟩
                      · rw [getBlk_cons] at hkb
                        split at hkb
                        · rename_i en; subst en; cases hkb; exact hbk
                        · rw [getBlk_drop] at hkb
                          split at hkb
                          · cases hkb
                          · rename_i hne hka
                            obtain ⟨q1, q2⟩ := hh k b'' hkb
                            have hkn : k ≠ n := fun e => hne e.symm
                            exact (hr.blk k b'' hkb).same (upd_other _ _ hkn) (upd_other _ _ hkn) (fun v hv => wf_upd (q2 v hv) _ _ _ _) (hoth _ fun e => hka (hr.inj k a.block b'' b hkb hb e))
                      · have hd1 : ∀ i x, getBlk ((n, roomBlk (old ++ new) e (sz + 1)) :: dropBlk h a.block) i = some x → i = n ∨ (i ≠ n ∧ i ≠ a.block ∧ getBlk h i = some x) := fun i x hx => by
                          rw [getBlk_cons] at hx
                          split at hx
                          · rename_i en; exact .inl en.symm
                          · rename_i en
                            rw [getBlk_drop] at hx
                            split at hx
                            · cases hx
                            · rename_i ea; exact .inr ⟨fun e => en e.symm, ea, hx⟩
                        rcases hd1 i' x' hx' with rfl | ⟨p1, p2, p3⟩ <;> rcases hd1 j' y' hy' with rfl | ⟨q1, q2, q3⟩
                        · rfl
                        · rw [upd_same, upd_other _ _ q1] at hxy
                          exact absurd (hr.inj a.block j' b y' hb q3 hxy).symm q2
                        · rw [upd_same, upd_other _ _ p1] at hxy
                          exact absurd (hr.inj i' a.block x' b p3 hb hxy) p2
                        · rw [upd_other _ _ p1, upd_other _ _ q1] at hxy
                          exact hr.inj i' j' x' y' p3 q3 hxy
                      · have : g ≠ n := by omega
                        rw [upd_other _ _ this]; exact hr.glob g hgl
                  · obtain ⟨s1', s2', s3'⟩ := source_spec hr.drew hsource
                    have hof : (Builtin.firstCells i.size len (.slice (some (renAd μ a)) len (κ a.block))).run E.P w.drew = .ok (old.map (renV μ κ)).toArray w.drew := by
                      have hca : cellsAt h a (len * i.size) = some old := by simp [cellsAt, hsp, hb, hit, hoff, hsz, hold]
                      simp [Builtin.firstCells, hr.drew.loadCells hca]
                    obtain ⟨cp, rest, g1, g2, g3⟩ := run_grow (E := E) (ty := o.type) hu hud hd hi hz (by rw [hsz]; exact c3) s1 hof (by rw [hsz]; exact s2') (by simp [hol, hsz]) (by simp [s3, hsz]) (by omega) c1 hsmall
                    have hex := append_run (E := E) ho hc hts hargs hρ (v := .slice (some ⟨w.heap.size, 0, none⟩) (len + m) cp) (by rw [renV_slice_some, renCap_big]; exact g3)
                    rw [hex]
                    have hal := Step.alloc a.block n μ κ w.drew (.cells ((old.map (renV μ κ)).toArray ++ (new.map (renV μ κ)).toArray ++ rest) e) cp
                    refine ⟨_, _, hal.drew, ?_, ?_⟩
                    · rw [renV_slice_some, renCap_big, upd_same]
                      simp [renAd, upd_same]
                    · have hfw : HWF (· < n) (dropBlk h a.block) := hh.drop
                      rw [hsz] at g2
                      refine hfew.drew.alloc hfw hg _ _ cp (room_ok (μ := μ) (κ := κ) hwfc hr.below.size (by show (w.heap.push _)[w.heap.size]? = _; rw [Array.getElem?_push_size]) (fun j v hj => grow_get j v hj) ?_ g2 (by omega))
                      rw [Array.size_append, Array.size_append, List.length_append, List.size_toArray, List.size_toArray, List.length_map, List.length_map]
                      omega
              · exact hk.elim
            · exact hk.elim
          · exact hk.elim
        · rename_i hbig
          have hcapb := ble_false hbig
          have hs' : ∀ μ κ, renV μ κ (.slice a len cap) = .slice (a.map (renAd μ)) len cap := fun μ κ => by cases a <;> simp [renCap_small hcapb]
          split at hk
          · rename_i hfit
            have hfit := ble_true hfit
            split at hk
            · split at hk
              · refine ⟨_, _, _, _, hk, ⟨⟨Nat.le_refl _, fun D hD hG hx hh => ⟨WF.sliceNone _ _, hh.mono Dp_mono⟩⟩, fun μ κ w ρr hr hρ hh hx hg => ?_⟩⟩
                obtain ⟨s1, s2, s3⟩ := source_spec hr hsource
                have hrun := run_fits (E := E) (ty := o.type) hu hud hd hi (a := none) (sLen := len) (sCap := cap) (w' := w) s1 (by rw [hsz]; exact s2) hfit rfl
                rw [append_run (E := E) ho hc hts hargs hρ (by rw [hs']; exact hrun)]
                exact Out.same (v := .slice none _ _) hr
              · exact hk.elim
            · rename_i a
              have hwfa : ∀ D : Nat → Prop, (∀ v ∈ [Value.slice (some a) len cap, x], WF D v) → ∀ c, WF D (.slice (some a) (len + m) c) := fun D hx c => WF.slc.2 (WF.slc.1 (hx _ (List.mem_cons_self ..)))
              split at hk
              · refine ⟨_, _, _, _, hk, ⟨⟨Nat.le_refl _, fun D hD hG hx hh => ⟨(hwfa D (by rw [← hmap]; exact hx) _).mono Dp_mono, hh.mono Dp_mono⟩⟩, fun μ κ w ρr hr hρ hh hx hg => ?_⟩⟩
                obtain ⟨s1, s2, s3⟩ := source_spec hr hsource
                have hrun := run_fits (E := E) (ty := o.type) hu hud hd hi (a := some (renAd μ a)) (sLen := len) (sCap := cap) (w' := w) s1 (by rw [hsz]; exact s2) hfit (by simp [storeCells])
                rw [append_run (E := E) ho hc hts hargs hρ (by rw [hs']; exact hrun)]
                have := Out.same (v := .slice (some a) (len + m) cap) (mw := big) hr (n := n)
                rw [renV_slice_some, renCap_small hcapb] at this
                exact this
              · rename_i hsp hne
                split at hk
                · rename_i h' hst
                  refine ⟨_, _, _, _, hk, ⟨⟨Nat.le_refl _, fun D hD hG hx hh => ⟨(hwfa D (by rw [← hmap]; exact hx) _).mono Dp_mono, (storeO_wf hst hh (source_wf hh hsource)).mono Dp_mono⟩⟩, fun μ κ w ρr hr hρ hh hx hg => ?_⟩⟩
                  have hlt : a.block < n := WF.slc.1 (args_wf ho hc hargs hx _ (List.mem_cons_self ..))
                  obtain ⟨s1, s2, s3⟩ := source_spec hr hsource
                  obtain ⟨w', q1, q2, q3, q4⟩ := storeO_spec hr hst
                  have hrun := run_fits (E := E) (ty := o.type) hu hud hd hi (a := some (renAd μ a)) (sLen := len) (sCap := cap) (w' := w') s1 (by rw [hsz]; exact s2) hfit (by
                    rw [hsz]
                    show (storeCells ((renAd μ a).add (len * (sz + 1))) _).run E.P w = _
                    rw [renAd_add, add_at _ _ hsp]; exact q1)
                  rw [append_run (E := E) ho hc hts hargs hρ (by rw [hs']; exact hrun)]
                  refine ⟨μ, κ, ⟨Nat.le_refl _, fun _ _ => ⟨rfl, rfl⟩, q3, fun b _ hb => q4 b fun e => hb a.block (Nat.le_refl _) hlt e.symm, fun _ h1 h2 => by omega⟩, by rw [renV_slice_some, renCap_small hcapb], q2⟩
                · exact hk.elim
              · exact hk.elim
          · rename_i hfit
            have hfit := ble_false hfit
            split at hk
            · rename_i m' old hold
              have hm' : m' = len := by
                unfold sourceO at hold
                cases a with
                | none => cases len <;> simp at hold; exact hold.1.symm
                | some a =>
                  simp only at hold
                  split at hold
                  · cases hold; rfl
                  · cases hold
              subst hm'
              refine ⟨_, _, _, _, hk, ⟨⟨by omega, fun D hD hG hx hh => ⟨WF.slc.2 (.inr ⟨by simp, by simp⟩), ?_⟩⟩, fun μ κ w ρr hr hρ hh hx hg => ?_⟩⟩
              · refine (hh.mono Dp_mono).cons (.inr ⟨by omega, by omega⟩) (room_wf (D := D) (fun v hv => ?_) Dp_mono)
                rcases List.mem_append.1 hv with hv | hv
                · exact source_wf hh hold v hv
                · exact source_wf hh hsource v hv
              · obtain ⟨s1, s2, s3⟩ := source_spec hr hsource
                obtain ⟨s1', s2', s3'⟩ := source_spec hr.drew hsource
                obtain ⟨o1, o2, o3⟩ := source_spec hr.drew hold
                rw [hs'] at o2
                have hwfc : ∀ v ∈ old ++ new, WF (· < n) v := fun v hv => by
                  rcases List.mem_append.1 hv with hv | hv
                  · exact source_wf hh hold v hv
                  · exact source_wf hh hsource v hv
                obtain ⟨cp, rest, g1, g2, g3⟩ := run_grow (E := E) (ty := o.type) hu hud hd hi hz (by rw [hsz]; exact c3) s1 (by rw [hsz]; exact o2) (by rw [hsz]; exact s2') (by simp [o3, hsz]) (by simp [s3, hsz]) (by omega) c1 hsmall
                rw [append_run (E := E) ho hc hts hargs hρ (by rw [hs']; exact g3)]
                have hal := Step.alloc big n μ κ w.drew (.cells ((old.map (renV μ κ)).toArray ++ (new.map (renV μ κ)).toArray ++ rest) e) cp
                refine ⟨_, _, hal.drew, ?_, ?_⟩
                · rw [renV_slice_some, renCap_big, upd_same]
                  simp [renAd, upd_same]
                · rw [hsz] at g2
                  refine hr.drew.alloc hh hg _ _ cp (room_ok (μ := μ) (κ := κ) hwfc hr.below.size (by show (w.heap.push _)[w.heap.size]? = _; rw [Array.getElem?_push_size]) (fun j v hj => grow_get j v hj) ?_ g2 (by omega))
                  rw [Array.size_append, Array.size_append, List.length_append, List.size_toArray, List.size_toArray, List.length_map, List.length_map]
                  omega
            · exact hk.elim
      · exact hk.elim
    · exact hk.elim
  · exact hk.elim
def flagH : Heap → Heap
  | [] => []
  | (k, b) :: h => (k, { b with sym := true }) :: h
theorem flagH_get {h : Heap} {k : Nat} {b : Blk} (hb : getBlk (flagH h) k = some b) : ∃ c, getBlk h k = some c ∧ c.cells = b.cells ∧ c.elem = b.elem ∧ c.own = b.own ∧ c.room = b.room ∧ c.iter = b.iter := by
  cases h with
  | nil => exact ⟨b, hb, rfl, rfl, rfl, rfl, rfl⟩
  | cons x h =>
    obtain ⟨j, c⟩ := x
    simp only [flagH, getBlk_cons] at hb ⊢
    by_cases e : j = k
    · rw [if_pos e] at hb ⊢
      cases hb
      exact ⟨c, rfl, rfl, rfl, rfl, rfl, rfl⟩
    · rw [if_neg e] at hb ⊢
      exact ⟨b, hb, rfl, rfl, rfl, rfl, rfl⟩
theorem flagH_wf {D : Nat → Prop} {h : Heap} (hh : HWF D h) : HWF D (flagH h) := fun k b hb => by
  obtain ⟨c, h1, h2, _⟩ := flagH_get hb
  have := hh k c h1
  rw [h2] at this
  exact this
theorem flagH_rel {P : Program} {base w : World} {μ κ : Nat → Nat} {h : Heap} (hr : Rel P base μ κ h w) : Rel P base μ κ (flagH h) w := by
  refine ⟨hr.below, fun k b hb => ?_, fun i j a b ha hb e => ?_, hr.glob, hr.gsz⟩
  · obtain ⟨c, h1, h2, h3, h4, h5, h6⟩ := flagH_get hb
    have := hr.blk k c h1
    unfold BlkOk at this ⊢
    rw [h2, h3, h4, h5, h6] at this
    exact this
  · obtain ⟨c, h1, _⟩ := flagH_get ha
    obtain ⟨d, k1, _⟩ := flagH_get hb
    exact hr.inj i j c d h1 k1 e
theorem OpSem.flag {v : Value} {h' : Heap} {n' mw : Nat} (hs : OpSem E base o ρ h n v h' n' mw) : OpSem E base o ρ h n v (flagH h') n' mw := by
  obtain ⟨⟨a1, a2⟩, a3⟩ := hs
  refine ⟨⟨a1, fun D hD hG hx hh => ⟨(a2 D hD hG hx hh).1, flagH_wf (a2 D hD hG hx hh).2⟩⟩, fun μ κ w ρr hr hρ hh hx hg => ?_⟩
  have hout := a3 μ κ w ρr hr hρ hh hx hg
  have key : ∀ u w', Out E base h' v mw n n' μ κ w u w' → Out E base (flagH h') v mw n n' μ κ w u w' := fun u w' ⟨μ', κ', st, hu, hrel⟩ => ⟨μ', κ', st, hu, flagH_rel hrel⟩
  generalize (execOp ρr o).run E.P w = r at *
  cases r with
  | halt x w' => exact hout.elim
  | ok nx w' =>
    cases nx with
    | value u => exact key _ _ hout
    | skip => exact key _ _ hout
    | enter g as =>
      obtain ⟨rfl, hc⟩ := hout
      exact ⟨rfl, hc.mono fun e w'' ⟨u, he, hu⟩ => ⟨u, he, key _ _ hu⟩⟩
    | _ => exact hout.elim
theorem takeN_some (vs : List Value) : takeN (vs.map some) vs.length = some vs := by
  induction vs with
  | nil => rfl
  | cons v vs ih => simp [takeN, ih]
theorem sound_append {c : Call} {t u : TypeId} {s x : Value} {K : Value → Heap → Nat → Nat → Prop} (ho : o.op = .call c) (hc : c.callee = .builtin .append) (hts : c.argTypes.toList = [t, u]) (hargs : c.args.toList.map ρ = [s, x])
    (hk : appendK E h n t u s x K) : ∃ v h' n' mw, K v h' n' mw ∧ OpSem E base o ρ h n v h' n' mw := by
  unfold appendK at hk
  split at hk
  · rename_i b hb
    have hk0 : appendK0 E h n t u s x fun v h' n' mw => K v (flagH h') n' mw := by
      unfold appendS at hk
      split at hk
      · rename_i e hu hsrc
        split at hk
        · rename_i i a len cap hi
          split at hk
          · rename_i z sz m new hz hsz hsource hsp hoff
            split at hk
            · rename_i hcb hown hit hroom hel
              obtain ⟨⟨⟨c1, c2⟩, vs, hvl, hvs⟩, hk⟩ := hk
              obtain ⟨hck, hk⟩ := chk_true hk
              simp only [Bool.and_eq_true] at hck
              have hg := symB_some (show symB h a.block = some b from hb)
              have hcap := beq_true hcb
              subst hcap
              have e1 : Nat.ble ((len + m) * i.bytes) 140737488355328 = true := Nat.ble_eq_true_of_le c1
              have e2 : Nat.ble (len + m) 140737488355328 = true := Nat.ble_eq_true_of_le c2
              have e3 : Nat.ble big big = true := Nat.ble_eq_true_of_le (Nat.le_refl _)
              have e4 : takeN b.cells (len * (sz + 1)) = some vs := by rw [hvs, ← hvl]; exact takeN_some vs
              rw [hsz] at hsource
              have hblk : catC b.cells new = (vs ++ new).map some := by rw [catC, hvs, List.map_append]
              rw [hblk] at hk
              simp only [appendK0, hu, hsrc, hi, hz, hsz, hsource, e1, e2, e3, hsp, hoff, hg, hown, hit, e4, hroom, hcb, hel, hck.1, hck.2, Bool.and_true, chk]
              exact hk
            · exact hk.elim
          · exact hk.elim
        · exact hk.elim
      · exact hk.elim
    obtain ⟨v, h', n', mw, h1, h2⟩ := sound_append0 ho hc hts hargs hk0
    exact ⟨v, flagH h', n', mw, h1, h2.flag⟩
  · exact sound_append0 ho hc hts hargs hk
end
end Go.Pe
