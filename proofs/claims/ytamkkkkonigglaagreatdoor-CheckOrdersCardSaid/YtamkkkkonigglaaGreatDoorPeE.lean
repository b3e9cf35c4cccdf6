/-
  The evaluator's soundness, third part: numbers, strings, comparisons; aggregates and slices that are made; bounds; conversions.
-/
import Derived.Test.YtamkkkkonigglaaGreatDoorPeD
import Derived.Lib.Strings
import Derived.Lib.IfaceEq
import Derived.Lib.IfaceNeq
import Derived.Lib.IndexBytes
import Derived.Laws.BytesString
import Derived.Laws.MakeOwn
namespace Go.Pe
open Go Go.RowKit

section
variable {E : Env} {base : World} {o : Oper} {ρ : Operand → Value} {h : Heap} {n : Nat}

theorem chk_true {b : Bool} {p : Prop} (h : chk b p) : b = true ∧ p := by
  unfold chk at h
  cases b
  · exact h.elim
  · exact ⟨rfl, h⟩

/-! ### Strings -/

theorem listEq_spec : ∀ (a b : List UInt8), listEq a b = (a == b)
  | [], [] => rfl
  | [], _ :: _ => rfl
  | _ :: _, [] => rfl
  | a :: x, b :: y => by
    have ih := listEq_spec x y
    simp only [listEq]
    split
    · rename_i hb
      have : a = b := UInt8.toNat_inj.1 (beq_true hb)
      subst this
      rw [ih]; simp
    · rename_i hb
      have : a ≠ b := fun e => beq_false hb (by rw [e])
      simp [this]

theorem strEq_spec (a b : ByteArray) : (a.toList == b.toList) = strEq a b := by
  rw [ByteArray.toList_eq, ByteArray.toList_eq, strEq, listEq_spec]

theorem listLess_spec : ∀ (a b : List UInt8), listLess a b = Op.bytesLess a b
  | [], [] => rfl
  | [], _ :: _ => rfl
  | _ :: _, [] => rfl
  | a :: x, b :: y => by
    have ih := listLess_spec x y
    simp only [listLess, Op.bytesLess]
    split
    · rename_i hb
      have : a < b := by
        have : a.toNat < b.toNat := ble_true hb
        exact UInt8.lt_iff_toNat_lt.2 this
      simp [this]
    · rename_i hb
      have h1 : ¬ a < b := by
        have : b.toNat < a.toNat + 1 := ble_false hb
        rw [UInt8.lt_iff_toNat_lt]; omega
      split
      · rename_i hc
        have : a = b := UInt8.toNat_inj.1 (beq_true hc)
        subst this
        rw [ih]; simp [h1]
      · rename_i hc
        have : a ≠ b := fun e => beq_false hc (by rw [e])
        simp [h1, this]

theorem strLess_spec (a b : ByteArray) : Op.bytesLess a.toList b.toList = strLess a b := by
  rw [ByteArray.toList_eq, ByteArray.toList_eq, strLess, listLess_spec]

theorem bytes_ext {a b : ByteArray} (h : a.data.toList = b.data.toList) : a = b := by
  obtain ⟨⟨a⟩⟩ := a; obtain ⟨⟨b⟩⟩ := b
  simp at h; subst h; rfl

theorem strCat_spec (a b : ByteArray) : a ++ b = strCat a b := by
  apply bytes_ext
  simp [strCat, ByteArray.data_append]

theorem strCut_spec (a : ByteArray) (l m : Nat) : a.extract l m = strCut a l m := by
  apply bytes_ext
  rw [Lib.extract_data]
  simp [strCut]

theorem intsK_spec {op : BinOp} {k : IntKind} {a b : Int} {K : Value → Prop} (hk : intsK op k a b K) : ∃ v, K v ∧ (∀ μ κ, renV μ κ v = v) ∧
    ∀ (t : TypeId) (x y : Operand) (w : World), (do eqGuard op t x y (.int k a) (.int k b); binOp op t (.int k a) (.int k b)).run E.P w = .ok v w := by
  cases op <;> simp only [intsK, intsF] at hk <;> first
    | exact hk.elim
    | (refine ⟨_, hk, fun _ _ => rfl, fun t x y w => ?_⟩
       simp [eqGuard, binOp, Op.intArith, Op.intBits, Op.intCmp])
    | (obtain ⟨h0, hk⟩ := chk_true hk
       have hb : ¬ b = 0 := by simpa using h0
       refine ⟨_, hk, fun _ _ => rfl, fun t x y w => ?_⟩
       simp [eqGuard, binOp, Op.intDiv, hb])

theorem strsK_spec {op : BinOp} {a b : ByteArray} {K : Value → Prop} (hk : strsK op a b K) : ∃ v, K v ∧ (∀ μ κ, renV μ κ v = v) ∧
    ∀ (t : TypeId) (x y : Operand) (w : World), (do eqGuard op t x y (.string a) (.string b); binOp op t (.string a) (.string b)).run E.P w = .ok v w := by
  cases op <;> simp only [strsK] at hk <;> first
    | exact hk.elim
    | (refine ⟨_, hk, fun _ _ => rfl, fun t x y w => ?_⟩
       simp [eqGuard, binOp, Op.stringOp, strEq_spec, strLess_spec]; done)
    | (obtain ⟨h0, hk⟩ := chk_true hk
       have hb := ble_true h0
       rw [strLen_eq, strLen_eq] at hb
       refine ⟨_, hk, fun _ _ => rfl, fun t x y w => ?_⟩
       have hm : ¬ ((a.size + b.size : Nat) : Int) > IntKind.i64.max := by
         have : IntKind.i64.max = 9223372036854775807 := by decide
         rw [this]; omega
       simp only [eqGuard, binOp, Op.stringOp, hm, strCat_spec]
       simp)

theorem binSem {op : BinOp} {t yt : TypeId} {x y : Operand} {v : Value} (ho : o.op = .binOp op t x y yt)
    (H : ∀ μ κ w, Below base.heap.size base w → (do eqGuard op t x y (renV μ κ (ρ x)) (renV μ κ (ρ y)); binOp op t (renV μ κ (ρ x)) (renV μ κ (ρ y))).run E.P w = .ok (renV μ κ v) w) : OpSem E base o ρ h n v h n big := by
  refine OpSem.pure _ fun μ κ w ρr hb hρ => ?_
  have e1 : ρr x = renV μ κ (ρ x) := hρ x (by simp [ho, Op.operands])
  have e2 : ρr y = renV μ κ (ρ y) := hρ y (by simp [ho, Op.operands])
  have := H μ κ w hb
  simp only [Sem.run_bind] at this
  simp only [execOp, ho, e1, e2, Sem.run_bind, this, Result.andThen_ok, Sem.run_pure]

theorem equalO_spec {t : TypeId} {x y : Value} {r : Bool} (hq : equalO E t x y = some r) (μ κ : Nat → Nat) (w : World) :
    (∀ op xo yo, (eqGuard op t xo yo (renV μ κ x) (renV μ κ y)).run E.P w = .ok () w) ∧ (binOp .eql t (renV μ κ x) (renV μ κ y)).run E.P w = .ok (.bool r) w ∧ (binOp .neq t (renV μ κ x) (renV μ κ y)).run E.P w = .ok (.bool !r) w := by
  unfold equalO und at hq
  have fin : (∀ d, (Op.equalIn (d + 1) t (renV μ κ x) (renV μ κ y)).run E.P w = .ok r w) → (Op.equal t (renV μ κ x) (renV μ κ y)).run E.P w = .ok r w := fun hh => hh 9999
  split at hq <;> first
    | (cases hq; done)
    | skip
  all_goals first
    | (rename_i hu; cases hq; have fin2 := fin (fun d => by simp [Op.equalIn, run_underlying hu]); simp only [renV_bool, renV_nilIface, renV_iface, renV_pointer, renV_nilFunc, renV_func, renV_slice_none, renV_slice_some, Option.map_none, Option.map_some] at fin2 ⊢
       refine ⟨fun op _ _ => by cases op <;> simp [eqGuard], by simp [binOp, fin2], by simp [binOp, fin2]⟩; done)
    | (rename_i b hu; cases hq; have fin2 := fin (fun d => by cases b <;> simp [Op.equalIn, run_underlying hu]); cases b <;> simp only [renV_bool, renV_nilIface, renV_iface, renV_pointer, renV_nilFunc, renV_func, renV_slice_none, renV_slice_some, Option.map_none, Option.map_some] at fin2 ⊢
       all_goals refine ⟨fun op _ _ => by cases op <;> simp [eqGuard], by simp [binOp, fin2], by simp [binOp, fin2]⟩; done)
    | skip
  · rename_i e a b hu
    split at hq
    · rename_i s hae hs
      cases hq
      have hab : a = b := by
        obtain ⟨a1, a2, a3⟩ := a; obtain ⟨b1, b2, b3⟩ := b
        simp only [addrEq, Bool.and_eq_true] at hae
        obtain ⟨⟨⟨h1, h2⟩, h3⟩, h4⟩ := hae
        have h1 := beq_true h1
        have h2 := beq_true h2
        simp at h1 h2 h3 h4
        simp [h1, h2, h3, h4]
      subst hab
      have fin2 := fin (fun d => by simp [Op.equalIn, run_underlying hu, run_sizeT hs, sameAddr])
      simp only [renV_pointer, Option.map_some] at fin2 ⊢
      exact ⟨fun op _ _ => by cases op <;> simp [eqGuard], by simp [binOp, fin2], by simp [binOp, fin2]⟩
    · cases hq
  · rename_i ms u k a u' k' b hu
    split at hq
    · rename_i h1 h2
      obtain rfl := beq_true h1
      obtain rfl := of_decide_eq_true h2
      split at hq
      · rename_i i q hi hx
        split at hq
        · rename_i hc
          cases hq
          have hcc : (E.P.info? u).map (·.comparable) = some true := by rw [hi]; exact congrArg some hc
          simp only [renV_iface, renV_int]
          exact ⟨fun op _ _ => by cases op <;> simp [eqGuard], Lib.run_eql_iface_int w a b hu hcc hx, Lib.run_neq_iface_int w a b hu hcc hx⟩
        · cases hq
      · cases hq
    · cases hq

theorem sound_bin (hE : EnvOk E base) {op : BinOp} {t yt : TypeId} {x y : Operand} {K : Value → Prop} (ho : o.op = .binOp op t x y yt) (hk : binK E op t x y (ρ x) (ρ y) K) :
    ∃ v, K v ∧ OpSem E base o ρ h n v h n big := by
  unfold binK at hk
  split at hk
  · split at hk
    · rename_i k a yk b hx hy
      obtain ⟨h0, hk⟩ := chk_true hk
      have hb : ¬ b < 0 := by simpa using h0
      refine ⟨_, hk, binSem ho fun μ κ w _ => ?_⟩
      simp [hx, hy, eqGuard, binOp, Op.shift, hb]
    · exact hk.elim
  · split at hk
    · rename_i k a yk b hx hy
      obtain ⟨h0, hk⟩ := chk_true hk
      have hb : ¬ b < 0 := by simpa using h0
      refine ⟨_, hk, binSem ho fun μ κ w _ => ?_⟩
      simp [hx, hy, eqGuard, binOp, Op.shift, hb]
    · exact hk.elim
  · rename_i op' n1 n2
    split at hk
    · rename_i k a k' b hx hy
      obtain ⟨h0, hk⟩ := chk_true hk
      have hkk : k' = k := by simpa using (by simpa using h0 : k = k').symm
      rw [hkk] at hy
      obtain ⟨v, hv, hren, hrun⟩ := intsK_spec (E := E) hk
      refine ⟨v, hv, binSem ho fun μ κ w _ => ?_⟩
      rw [hx, hy, hren]
      exact hrun t x y w
    · rename_i a b hx hy
      obtain ⟨v, hv, hren, hrun⟩ := strsK_spec (E := E) hk
      refine ⟨v, hv, binSem ho fun μ κ w _ => ?_⟩
      rw [hx, hy, hren]
      exact hrun t x y w
    · rename_i a b hx hy
      have hag : ∀ r, E.eqAgg t a.toList b.toList = some r → ∀ μ κ w, (∀ op, (eqGuard op t x y (renV μ κ (.agg a)) (renV μ κ (.agg b))).run E.P w = .ok () w) ∧ (Op.equal t (renV μ κ (.agg a)) (renV μ κ (.agg b))).run E.P w = .ok r w := fun r hr μ κ w => by
        have := hE.eqAgg t _ _ r hr μ κ w
        rw [← Array.toList_map, ← Array.toList_map, Array.toArray_toList, Array.toArray_toList] at this
        rw [renV_agg, renV_agg]
        exact ⟨fun op => this.1 op x y, this.2⟩
      split at hk
      · rename_i r hr
        refine ⟨_, hk, binSem ho fun μ κ w _ => ?_⟩
        obtain ⟨h1, h2⟩ := hag r hr μ κ w
        rw [hx, hy]
        simp only [Sem.run_bind, h1, Result.andThen_ok]
        simp only [renV_agg] at h2 ⊢
        simp [binOp, h2]
      · rename_i r hr
        refine ⟨_, hk, binSem ho fun μ κ w _ => ?_⟩
        obtain ⟨h1, h2⟩ := hag r hr μ κ w
        rw [hx, hy]
        simp only [Sem.run_bind, h1, Result.andThen_ok]
        simp only [renV_agg] at h2 ⊢
        simp [binOp, h2]
      · exact hk.elim
    · rename_i hx hy
      split at hk
      · rename_i ms hu
        unfold und at hu
        split at hk
        · obtain ⟨h0, hk⟩ := chk_true hk
          refine ⟨_, hk, binSem ho fun μ κ w _ => ?_⟩
          have e : ∀ d, (Op.equalIn (d + 1) t Value.nilIface .nilIface).run E.P w = .ok true w := fun d => by simp [Op.equalIn, run_underlying hu]
          have e' : (Op.equal t Value.nilIface .nilIface).run E.P w = .ok true w := e 9999
          cases x <;> cases y <;> simp [isConst] at h0 <;> simp [hx, hy, eqGuard, binOp, e']
        · obtain ⟨h0, hk⟩ := chk_true hk
          refine ⟨_, hk, binSem ho fun μ κ w _ => ?_⟩
          have e : ∀ d, (Op.equalIn (d + 1) t Value.nilIface .nilIface).run E.P w = .ok true w := fun d => by simp [Op.equalIn, run_underlying hu]
          have e' : (Op.equal t Value.nilIface .nilIface).run E.P w = .ok true w := e 9999
          cases x <;> cases y <;> simp [isConst] at h0 <;> simp [hx, hy, eqGuard, binOp, e']
        · exact hk.elim
      · exact hk.elim
    · split at hk
      · rename_i r hr
        refine ⟨_, hk, binSem ho fun μ κ w _ => ?_⟩
        obtain ⟨h1, h2, h3⟩ := equalO_spec hr μ κ w
        simp only [Sem.run_bind, h1, Result.andThen_ok, h2, renV_bool]
      · rename_i r hr
        refine ⟨_, hk, binSem ho fun μ κ w _ => ?_⟩
        obtain ⟨h1, h2, h3⟩ := equalO_spec hr μ κ w
        simp only [Sem.run_bind, h1, Result.andThen_ok, h3, renV_bool]
      · exact hk.elim

end
end Go.Pe
