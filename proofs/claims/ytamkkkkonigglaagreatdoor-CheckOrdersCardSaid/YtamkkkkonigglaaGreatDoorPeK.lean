/-
  The evaluator's soundness, ninth part: regions whose order is drawn: what is static, and the run in the text's order.
-/
import Derived.Test.YtamkkkkonigglaaGreatDoorPeJ
namespace Go.Pe
open Go Go.RowKit

instance : Membership Nat Msk := ⟨fun a n => inL a n = true⟩

theorem inL_iff {l : Msk} {n : Nat} : inL l n = true ↔ n ∈ l := Iff.rfl

theorem inL_test (a : Msk) (n : Nat) : inL a n = a.m.testBit n := by
  have h : ∀ x : Nat, Nat.beq (Nat.land x 1) 1 = (1 &&& x != 0) := fun x => by
    have h1 : Nat.land x 1 = x % 2 := by
      show x &&& 1 = x % 2
      exact Nat.and_one_is_mod x
    have h2 : 1 &&& x = x % 2 := by rw [Nat.and_comm]; exact Nat.and_one_is_mod x
    rw [h1, h2]
    rcases Nat.mod_two_eq_zero_or_one x with h | h <;> rw [h] <;> rfl
  exact h _

theorem mem_or {a b : Msk} {j : Nat} : j ∈ orM a b ↔ j ∈ a ∨ j ∈ b := by
  rw [← inL_iff, ← inL_iff, ← inL_iff, inL_test, inL_test, inL_test]
  show ((a.m ||| b.m).testBit j = true) ↔ _
  rw [Nat.testBit_or, Bool.or_eq_true]

theorem mem_bit {k j : Nat} : j ∈ bitM k ↔ j = k := by
  rw [← inL_iff, inL_test]
  show ((1 <<< k).testBit j = true) ↔ _
  rw [Nat.one_shiftLeft, Nat.testBit_two_pow]
  simp [eq_comm]

theorem not_mem_none {j : Nat} : ¬ j ∈ (⟨0⟩ : Msk) := by
  rw [← inL_iff, inL_test]
  simp

theorem allI_spec {p : Nat → Oper → Bool} : ∀ (l : List Oper) (i : Nat), allI p i l = true → ∀ (m : Nat) o, l[m]? = some o → p (i + m) o = true := by
  intro l
  induction l with
  | nil => intro i _ m o h; simp at h
  | cons x l ih =>
    intro i h m o hm
    unfold allI at h
    split at h
    · rename_i hp
      cases m with
      | zero => simp at hm; subst hm; exact hp
      | succ m =>
        have := ih (i + 1) h m o (by simpa using hm)
        have e : i + (m + 1) = i + 1 + m := by omega
        rw [e]; exact this
    · cases h

theorem nthL_append (l : List Msk) (x : Msk) (k : Nat) : nthL (l ++ [x]) k = if k = l.length then x else nthL l k := by
  induction l generalizing k with
  | nil => cases k <;> simp [nthL]
  | cons y l ih => cases k with
    | zero => simp [nthL]
    | succ k => simp [nthL, ih]

theorem ancOf_congr {acc acc' : List Msk} {i : Nat} (h : ∀ k, k < i → nthL acc k = nthL acc' k) : ∀ es, ancOf acc i es = ancOf acc' i es := by
  intro es
  induction es with
  | nil => rfl
  | cons e es ih =>
    simp only [ancOf]
    split
    · split
      · rename_i hb; rw [ih, h e.on (by simpa [Nat.blt_eq] using hb)]
      · exact ih
    · exact ih

theorem ancL_spec : ∀ (l : List Oper) (acc : List Msk) (i : Nat), acc.length = i →
    (∀ k, k < i → nthL (ancL acc i l) k = nthL acc k) ∧ ∀ (m : Nat) o, l[m]? = some o → nthL (ancL acc i l) (i + m) = ancOf (ancL acc i l) (i + m) o.after.toList := by
  intro l
  induction l with
  | nil => intro acc i _; exact ⟨fun _ _ => rfl, fun m o h => by simp at h⟩
  | cons x l ih =>
    intro acc i hl
    have hl2 : (acc ++ [ancOf acc i x.after.toList]).length = i + 1 := by simp [hl]
    obtain ⟨h1, h2⟩ := ih _ _ hl2
    simp only [ancL]
    have h0 : ∀ k, k < i → nthL (ancL (acc ++ [ancOf acc i x.after.toList]) (i + 1) l) k = nthL acc k := fun k hk => by
      rw [h1 k (by omega), nthL_append, if_neg (by omega)]
    refine ⟨h0, fun m o hm => ?_⟩
    cases m with
    | zero =>
      simp at hm; subst hm
      show nthL _ i = ancOf _ i _
      rw [h1 i (by omega), nthL_append, if_pos hl.symm]
      exact ancOf_congr (fun k hk => (h0 k hk).symm) _
    | succ m =>
      have e : i + (m + 1) = i + 1 + m := by omega
      rw [e]; exact h2 m o (by simpa using hm)

theorem mem_ancOf {acc : List Msk} {i j : Nat} : ∀ es, j ∈ ancOf acc i es → ∃ e ∈ es, Region.binds .any e = true ∧ e.on < i ∧ (j = e.on ∨ j ∈ nthL acc e.on) := by
  intro es
  induction es with
  | nil => intro h; exact absurd h not_mem_none
  | cons e es ih =>
    intro h
    simp only [ancOf] at h
    split at h
    · rename_i hb
      split at h
      · rename_i hlt
        rcases (mem_or.1 h).imp mem_bit.1 mem_or.1 with h | h | h
        · exact ⟨e, List.mem_cons_self .., hb, by simpa [Nat.blt_eq] using hlt, .inl h⟩
        · exact ⟨e, List.mem_cons_self .., hb, by simpa [Nat.blt_eq] using hlt, .inr h⟩
        · obtain ⟨e', h1, h2⟩ := ih h; exact ⟨e', List.mem_cons_of_mem _ h1, h2⟩
      · obtain ⟨e', h1, h2⟩ := ih h; exact ⟨e', List.mem_cons_of_mem _ h1, h2⟩
    · obtain ⟨e', h1, h2⟩ := ih h; exact ⟨e', List.mem_cons_of_mem _ h1, h2⟩

theorem ancOf_sub {acc : List Msk} {i : Nat} {e : Edge} (hb : Region.binds .any e = true) (hlt : e.on < i) : ∀ es, e ∈ es → e.on ∈ ancOf acc i es ∧ ∀ j, j ∈ nthL acc e.on → j ∈ ancOf acc i es := by
  intro es
  induction es with
  | nil => intro h; cases h
  | cons x es ih =>
    intro h
    rcases List.mem_cons.1 h with rfl | h
    · simp only [ancOf, hb]
      have : Nat.blt e.on i = true := by simpa [Nat.blt_eq] using hlt
      simp only [this]
      exact ⟨mem_or.2 (.inl (mem_bit.2 rfl)), fun j hj => mem_or.2 (.inr (mem_or.2 (.inl hj)))⟩
    · obtain ⟨h1, h2⟩ := ih h
      simp only [ancOf]
      split
      · split
        · exact ⟨mem_or.2 (.inr (mem_or.2 (.inr h1))), fun j hj => mem_or.2 (.inr (mem_or.2 (.inr (h2 j hj))))⟩
        · exact ⟨h1, h2⟩
      · exact ⟨h1, h2⟩

section
variable {ops : List Oper}

/-- What comes ahead, in every order. -/
def anc (ops : List Oper) (i : Nat) : Msk := nthL (ancL [] 0 ops) i

theorem anc_eq {i : Nat} {o : Oper} (h : ops[i]? = some o) : anc ops i = ancOf (ancL [] 0 ops) i o.after.toList := by
  have := (ancL_spec ops [] 0 rfl).2 i o h
  simpa [anc] using this

theorem anc_spec {i j : Nat} {o : Oper} (h : ops[i]? = some o) (hj : j ∈ anc ops i) : ∃ e ∈ o.after, Region.binds .any e = true ∧ e.on < i ∧ (j = e.on ∨ j ∈ anc ops e.on) := by
  rw [anc_eq h] at hj
  obtain ⟨e, h1, h2⟩ := mem_ancOf _ hj
  exact ⟨e, by simpa using h1, h2⟩

theorem anc_lt : ∀ (i j : Nat), i < ops.length → j ∈ anc ops i → j < i := by
  intro i
  induction i using Nat.strongRecOn with
  | _ i ih =>
    intro j hi hj
    obtain ⟨e, _, _, hlt, h⟩ := anc_spec (List.getElem?_eq_getElem hi) hj
    rcases h with rfl | h
    · exact hlt
    · have := ih e.on hlt j (by omega) h; omega

theorem anc_trans : ∀ (i j k : Nat), i < ops.length → j ∈ anc ops i → k ∈ anc ops j → k ∈ anc ops i := by
  intro i
  induction i using Nat.strongRecOn with
  | _ i ih =>
    intro j k hi hj hk
    have ho := List.getElem?_eq_getElem hi
    obtain ⟨e, he, hb, hlt, h⟩ := anc_spec ho hj
    have hs := (ancOf_sub (acc := ancL [] 0 ops) hb hlt ops[i].after.toList (by simpa using he)).2
    rw [anc_eq ho]
    rcases h with rfl | h
    · exact hs k hk
    · exact hs k (ih e.on hlt j k (by omega) h hk)

/-- What is closed under coming ahead. -/
def Shut (ops : List Oper) (S : Nat → Prop) : Prop := ∀ i o, ops[i]? = some o → S i → ∀ e ∈ o.after, Region.binds .any e = true → S e.on

theorem anc_shut {S : Nat → Prop} (hS : Shut ops S) : ∀ (i : Nat) o, ops[i]? = some o → (∀ e ∈ o.after, Region.binds .any e = true → S e.on) → ∀ j, j ∈ anc ops i → S j := by
  intro i
  induction i using Nat.strongRecOn with
  | _ i ih =>
    intro o ho hr j hj
    obtain ⟨e, he, hb, hlt, h⟩ := anc_spec ho hj
    have h1 := hr e he hb
    rcases h with rfl | h
    · exact h1
    · have hi : i < ops.length := (List.getElem?_eq_some_iff.1 ho).1
      have ho' := List.getElem?_eq_getElem (l := ops) (i := e.on) (by omega)
      exact ih e.on hlt _ ho' (hS e.on _ ho' h1) j h

theorem anc_in {S : Nat → Prop} (hS : Shut ops S) {i j : Nat} {o : Oper} (ho : ops[i]? = some o) (hi : S i) (hj : j ∈ anc ops i) : S j := anc_shut hS i o ho (hS i o ho hi) j hj

/-- What the static check says. -/
structure Static (ops : List Oper) : Prop where
  fw : ∀ (i : Nat) (o : Oper), ops[i]? = some o → ∀ e ∈ o.after, Region.binds .any e = true → e.on < i
  opd : ∀ (i : Nat) (o : Oper) t (j : Nat) (p : Oper), ops[i]? = some o → Operand.tmp t ∈ o.op.operands.toList → ops[j]? = some p → p.dst = some t → j ∈ anc ops i ∨ i = j ∨ i ∈ anc ops j
  gd : ∀ (i : Nat) (o : Oper) g b, ops[i]? = some o → o.guard = some (g, b) → g ∈ anc ops i
  dst : ∀ (i : Nat) (o : Oper) (j : Nat) (p : Oper) d, ops[i]? = some o → ops[j]? = some p → o.dst = some d → p.dst = some d → i = j

theorem dstIs_of {o : Oper} {t : Nat} (h : o.dst = some t) : dstIs o t = true := by simp [dstIs, h]

theorem static_of (h : drawStatic ops (ancL [] 0 ops) = true) : Static ops := by
  have key : ∀ (i : Nat) o, ops[i]? = some o → _ := fun i o ho => allI_spec ops 0 h i o ho
  simp only [Nat.zero_add, Bool.and_eq_true] at key
  refine ⟨fun i o ho e he hb => ?_, fun i o t j p ho ht hj hd => ?_, fun i o g b ho hg => ?_, fun i o j p d ho hj h1 h2 => ?_⟩
  · have := (key i o ho).1.1.1
    have := List.all_eq_true.1 this e (by simpa using he)
    simp only [hb] at this
    simpa [Nat.blt_eq] using this
  · have := (key i o ho).1.1.2
    have := List.all_eq_true.1 this t (mem_tmpsOf ht)
    have := allI_spec ops 0 this j p hj
    simp only [Nat.zero_add, dstIs_of hd, Bool.or_eq_true, inL_iff] at this
    rcases this with (h | h) | h
    · exact .inl h
    · exact .inr (.inl (beq_true h))
    · exact .inr (.inr h)
  · have := (key i o ho).1.2
    rw [hg] at this
    exact inL_iff.1 this
  · have := (key i o ho).2
    rw [h1] at this
    have := allI_spec ops 0 this j p hj
    simp only [Nat.zero_add, dstIs_of h2] at this
    exact beq_true this
end

/-! ### The run in the text's order -/

theorem getBlk_keepH (p : Nat → Bool) (h : Heap) (k : Nat) : getBlk (keepH p h) k = if p k = true then getBlk h k else none := by
  induction h with
  | nil => simp [keepH, getBlk]
  | cons x h ih =>
    obtain ⟨j, b⟩ := x
    simp only [keepH]
    split
    · rename_i hp
      rw [getBlk_cons, getBlk_cons, ih]
      split
      · rename_i e; subst e; rw [if_pos hp]
      · rfl
    · rename_i hp
      rw [ih, getBlk_cons]
      split
      · rename_i h1
        rw [if_neg (fun e => by subst e; rw [h1] at hp; cases hp)]
      · rfl

theorem getBlk_append (a b : Heap) (k : Nat) : getBlk (a ++ b) k = (getBlk a k).or (getBlk b k) := by
  induction a with
  | nil => simp [getBlk]
  | cons x a ih =>
    obtain ⟨j, c⟩ := x
    rw [List.cons_append, getBlk_cons, getBlk_cons, ih]
    split <;> simp

theorem visible_spec {an : Msk} {rg : List (Nat × Nat × Nat)} {n0 k : Nat} (h : visible an rg n0 k = true) : k < n0 ∨ ∃ x ∈ rg, x.2.1 ≤ k ∧ k < x.2.2 ∧ x.1 ∈ an := by
  unfold visible at h
  split at h
  · rename_i hb; exact .inl (by simpa [Nat.blt_eq] using hb)
  · refine .inr ?_
    induction rg with
    | nil => simp [owned] at h
    | cons x rg ih =>
      obtain ⟨j, lo, hi⟩ := x
      simp only [owned] at h
      split at h
      · rename_i hb
        simp only [Bool.and_eq_true] at hb
        exact ⟨_, List.mem_cons_self .., ble_true hb.1, by simpa [Nat.blt_eq] using hb.2, inL_iff.1 h⟩
      · obtain ⟨x, hx, h'⟩ := ih h; exact ⟨x, List.mem_cons_of_mem _ hx, h'⟩

theorem hasB_iff {V : Heap} {k : Nat} : hasB V k = true ↔ ∃ b, getBlk V k = some b := by
  unfold hasB
  cases getBlk V k <;> simp

theorem inW_iff {V : Heap} {mw k : Nat} : inW V mw k = true ↔ mw ≤ k ∧ ∃ b, getBlk V k = some b := by
  unfold inW
  rcases hb : Nat.ble mw k with _ | _
  · have := ble_false hb
    simp only [Bool.false_eq_true, false_iff]
    intro h; omega
  · have := ble_true hb
    simp only [hasB_iff]
    exact ⟨fun h => ⟨this, h⟩, fun h => h.2⟩

theorem free_mono {W : Bool} {an : Msk} {k : Nat} : ∀ {rs : Recs}, freeOf W an k rs = true → freeOf false an k rs = true := by
  intro rs
  induction rs with
  | nil => intro _; rfl
  | cons x rs ih =>
    obtain ⟨j, V, mw⟩ := x
    intro h
    simp only [freeOf] at h ⊢
    split
    · rename_i hj; rw [hj] at h; exact ih h
    · rename_i hj
      rw [hj] at h
      simp only at h
      cases W with
      | false =>
        simp only at h ⊢
        split at h
        · cases h
        · exact ih h
      | true =>
        simp only at h
        split at h
        · cases h
        · rename_i hw
          have : inW V mw k = false := by
            cases hc : inW V mw k with
            | false => rfl
            | true => rw [hasB_iff.2 (inW_iff.1 hc).2] at hw; cases hw
          simp only [this]; exact ih h

theorem free_spec {an : Msk} {k : Nat} : ∀ {rs : Recs}, freeOf false an k rs = true → ∀ {j : Nat} {V : Heap} {mw : Nat}, (j, V, mw) ∈ rs → j ∉ an → inW V mw k = false := by
  intro rs
  induction rs with
  | nil => intro _ j V mw h; cases h
  | cons x rs ih =>
    obtain ⟨i, U, m⟩ := x
    intro h j V mw hm hj
    simp only [freeOf] at h
    split at h
    · rename_i hi
      rcases List.mem_cons.1 hm with e | hm
      · cases e; exact absurd (inL_iff.1 hi) hj
      · exact ih h hm hj
    · rename_i hi
      split at h
      · cases h
      · rename_i hw
        rcases List.mem_cons.1 hm with e | hm
        · cases e; exact hw
        · exact ih h hm hj

theorem noneIn_spec {V : Heap} {mw : Nat} : ∀ {U : Heap}, noneIn V mw U = true → ∀ {k : Nat} {b : Blk}, getBlk U k = some b → inW V mw k = false := by
  intro U
  induction U with
  | nil => intro _ k b h; simp [getBlk] at h
  | cons x U ih =>
    obtain ⟨m, c⟩ := x
    intro h k b hb
    simp only [noneIn] at h
    split at h
    · cases h
    · rename_i hw
      rw [getBlk_cons] at hb
      split at hb
      · rename_i e; subst e; exact hw
      · exact ih h hb

theorem apart_spec {an : Msk} {V : Heap} {mw : Nat} : ∀ {rs : Recs}, apartR an V mw rs = true → ∀ {j : Nat} {U : Heap} {m : Nat}, (j, U, m) ∈ rs → j ∉ an → ∀ {k : Nat} {b : Blk}, getBlk U k = some b → inW V mw k = false := by
  intro rs
  induction rs with
  | nil => intro _ j V mw h; cases h
  | cons x rs ih =>
    obtain ⟨i, U', m'⟩ := x
    intro h j U m hm hj k b hb
    simp only [apartR] at h
    split at h
    · rename_i hi
      rcases List.mem_cons.1 hm with e | hm
      · cases e; exact absurd (inL_iff.1 hi) hj
      · exact ih h hm hj hb
    · rename_i hi
      split at h
      · rename_i hw
        rcases List.mem_cons.1 hm with e | hm
        · cases e; exact noneIn_spec hw hb
        · exact ih h hm hj hb
      · cases h

theorem okV_spec {p : Nat → Bool} : ∀ (d : Nat) (v : Value), okV p d v = true → WF (fun k => p k = true) v := by
  intro d
  induction d with
  | zero => intro v h; simp [okV] at h
  | succ d ih =>
    intro v h
    have hl : ∀ (cs : Array Value), cs.toList.all (okV p d) = true → ∀ x ∈ cs.toList, WF (fun k => p k = true) x := fun cs hc x hx => ih x (List.all_eq_true.1 hc x hx)
    cases v with
    | iface t v => simp only [okV] at h; exact WF.iface.2 (ih v h)
    | agg cs => simp only [okV] at h; exact WF.agg.2 (hl cs h)
    | tuple cs => simp only [okV] at h; exact WF.tuple.2 (hl cs h)
    | pointer a => cases a with
      | none => exact WF.ptrNone
      | some a => simp only [okV] at h; exact WF.ptr.2 h
    | slice a n c => cases a with
      | none => exact WF.sliceNone _ _
      | some a => simp only [okV] at h; exact WF.slc.2 h
    | map r => intro μ κ μ' κ' _; rfl
    | bool b => exact WF.bool _
    | int k n => exact WF.int _ _
    | string s => exact WF.string _
    | nilIface => exact WF.nilI
    | nilFunc => intro μ κ μ' κ' _; rfl
    | func f a b =>
      simp only [okV, Bool.and_eq_true] at h
      exact WF.func.2 ⟨hl a h.1, hl b h.2⟩
    | float k b => intro μ κ μ' κ' _; rfl
    | complex k a b => intro μ κ μ' κ' _; rfl
    | chan r => simp [okV] at h

theorem okC_spec {p : Nat → Bool} : ∀ {l : List (Option Value)}, okC p l = true → ∀ v, some v ∈ l → WF (fun k => p k = true) v := by
  intro l
  induction l with
  | nil => intro _ v h; cases h
  | cons x l ih =>
    intro h v hv
    cases x with
    | none =>
      simp only [okC] at h
      rcases List.mem_cons.1 hv with e | hv
      · cases e
      · exact ih h v hv
    | some u =>
      simp only [okC] at h
      split at h
      · rename_i hu
        rcases List.mem_cons.1 hv with e | hv
        · cases e; exact okV_spec 8 v hu
        · exact ih h v hv
      · cases h

theorem okH_spec {p : Nat → Bool} : ∀ {h : Heap}, okH p h = true → ∀ k b, getBlk h k = some b → ∀ v, some v ∈ b.cells → WF (fun k => p k = true) v := by
  intro h
  induction h with
  | nil => intro _ k b hb; simp [getBlk] at hb
  | cons x h ih =>
    obtain ⟨m, c⟩ := x
    intro hh k b hb
    simp only [okH] at hh
    split at hh
    · rename_i hc
      rw [getBlk_cons] at hb
      split at hb
      · cases hb; exact okC_spec hc
      · exact ih hh k b hb
    · cases hh

/-- The names of these blocks, and of globals. -/
def inD (g : Nat) (V : Heap) (k : Nat) : Prop := k < g ∨ ∃ b, getBlk V k = some b

theorem inB_iff {g : Nat} {V : Heap} {k : Nat} (h : inB g V k = true) : inD g V k := by
  unfold inB at h
  split at h
  · rename_i hb; exact .inl (by simpa [Nat.blt_eq] using hb)
  · exact .inr (hasB_iff.1 h)

theorem newIn_iff {lo hi k : Nat} : newIn lo hi k = true ↔ lo ≤ k ∧ k < hi := by
  unfold newIn
  rcases hb : Nat.ble lo k with _ | _
  · have := ble_false hb
    simp only [Bool.false_eq_true, false_iff]
    omega
  · have := ble_true hb
    simp only [Nat.blt_eq]
    exact ⟨fun h => ⟨this, h⟩, fun h => h.2⟩

/-- What it wrote. -/
def Wr (V : Heap) (mw k : Nat) : Prop := mw ≤ k ∧ ∃ b, getBlk V k = some b

/-- A heap after an operation. -/
def Merged (V : Heap) (mw lo hi : Nat) (h old H : Heap) : Prop :=
  (∀ k, Wr V mw k → getBlk H k = getBlk h k) ∧ (∀ k, ¬ Wr V mw k → lo ≤ k → k < hi → getBlk H k = (getBlk h k).or (getBlk old k)) ∧ (∀ k, ¬ Wr V mw k → ¬ (lo ≤ k ∧ k < hi) → getBlk H k = getBlk old k)

theorem merge_spec (V : Heap) (mw lo hi : Nat) (h old : Heap) : Merged V mw lo hi h old (mergeH V mw lo hi h old) := by
  have key : ∀ k, inW V mw k = true ↔ Wr V mw k := fun k => inW_iff
  refine ⟨fun k hk => ?_, fun k hk h1 h2 => ?_, fun k hk hn => ?_⟩
  · have hk := (key k).2 hk
    unfold mergeH
    rw [getBlk_append, getBlk_keepH, getBlk_keepH]
    simp [hk]
  · have hk : inW V mw k = false := by
      cases hc : inW V mw k with
      | false => rfl
      | true => exact absurd ((key k).1 hc) hk
    have hn := newIn_iff.2 ⟨h1, h2⟩
    unfold mergeH
    rw [getBlk_append, getBlk_keepH, getBlk_keepH]
    simp [hk, hn]
  · have hk : inW V mw k = false := by
      cases hc : inW V mw k with
      | false => rfl
      | true => exact absurd ((key k).1 hc) hk
    have hn : newIn lo hi k = false := by
      cases hc : newIn lo hi k with
      | false => rfl
      | true => exact absurd (newIn_iff.1 hc) hn
    unfold mergeH
    rw [getBlk_append, getBlk_keepH, getBlk_keepH]
    simp [hk, hn]

theorem merge_new {V : Heap} {mw lo hi : Nat} {h old : Heap} (hno : ∀ k, ¬ Wr V mw k) : Merged V mw lo hi h old (keepH (newIn lo hi) h ++ old) := by
  refine ⟨fun k hk => absurd hk (hno k), fun k _ h1 h2 => ?_, fun k _ hn => ?_⟩
  · rw [getBlk_append, getBlk_keepH, if_pos (newIn_iff.2 ⟨h1, h2⟩)]
  · rw [getBlk_append, getBlk_keepH, if_neg fun h => hn (newIn_iff.1 h), Option.none_or]

theorem merge_same {V : Heap} {mw lo : Nat} {h old : Heap} (hno : ∀ k, ¬ Wr V mw k) : Merged V mw lo lo h old old :=
  ⟨fun k hk => absurd hk (hno k), fun k _ h1 h2 => by omega, fun k _ _ => rfl⟩

section
variable {E : Env} {base : World}

/-- What a step of the run does: passed over; an operation on some blocks; a store. -/
inductive Kind (E : Env) (base : World) (ops : List Oper) (o : Oper) (s s1 : St) (V : Heap) (mw : Nat) : Prop where
  | skip (h1 : Region.wanted o (guardV ops s.tmps) = false) (h2 : V = []) (h3 : s1 = putS s o.dst undef s.heap s.next big)
  | op (v : Value) (h : Heap) (n : Nat) (H : Heap) (m : Nat) (h1 : Region.wanted o (guardV ops s.tmps) = true) (h2 : OpSem E base o (evalO s.tmps) V s.next v h n mw)
      (h3 : s.next ≤ n) (h4 : s1 = putS s o.dst v H n m) (h5 : (∀ k b, getBlk V k = some b → k < s.next) → Merged V mw s.next n h s.heap H)
      (h6 : s.next ≤ mw ∨ (m ≤ mw ∧ ∃ B, E.P.globals.size ≤ B ∧ B ≤ mw ∧ B ≤ s.next ∧ (∀ k b, getBlk V k = some b → ∀ u, some u ∈ b.cells → WF (inD B V) u) ∧ ∀ x ∈ o.op.operands.toList, WF (inD B V) (evalO s.tmps x)))
  | st (t : TypeId) (a x : Operand) (ad : Addr) (sz : Nat) (h' : Heap) (b : Blk) (h1 : Region.wanted o (guardV ops s.tmps) = true) (h2 : o.op = .store t a x) (h3 : evalO s.tmps a = .pointer (some ad))
      (h4 : sizeT E t = some sz) (h5 : (evalO s.tmps x).cells.size = sz) (h6 : storeO s.heap ad (evalO s.tmps x).cells.toList = some h') (h7 : getBlk s.heap ad.block = some b)
      (h8 : V = [(ad.block, b)]) (h9 : mw = ad.block) (h10 : s1 = putS s o.dst undef h' s.next ad.block)

structure DStep (E : Env) (base : World) (ops : List Oper) (n0 : Nat) (o : Oper) (i : Nat) (rg rg' : List (Nat × Nat × Nat)) (rs rs' : Recs) (s s1 : St) (V : Heap) (mw : Nat) : Prop where
  dst : ∀ d, o.dst = some d → d < s.size
  hrg : rg' = rg ∨ rg' = (i, s.next, s1.next) :: rg
  hrs : (V = [] ∧ rs' = rs) ∨ rs' = (i, V, mw) :: rs
  vis : ∀ k b, getBlk V k = some b → getBlk s.heap k = some b ∧ visible (anc ops i) rg n0 k = true ∧ freeOf false (anc ops i) k rs = true
  apart : s.next ≤ mw ∨ apartR (anc ops i) V mw rs = true
  kind : Kind E base ops o s s1 V mw

theorem not_wr {V : Heap} {mw n : Nat} (hV : ∀ k b, getBlk V k = some b → k < n) (h : n ≤ mw) : ∀ k, ¬ Wr V mw k := by
  rintro k ⟨h1, b, hb⟩
  have := hV k b hb
  omega

theorem oneK_sound (hE : EnvOk E base) {call : CallFn} (hcall : CallOk E base call) {ops : List Oper} {n0 : Nat} {o : Oper} {i : Nat} {rg : List (Nat × Nat × Nat)} {rs : Recs} {V : Heap} {s : St} {K : List (Nat × Nat × Nat) → Recs → St → Prop}
    (hV : ∀ k b, getBlk V k = some b → getBlk s.heap k = some b ∧ visible (anc ops i) rg n0 k = true ∧ freeOf false (anc ops i) k rs = true)
    (hw : Region.wanted o (guardV ops s.tmps) = true) (hk : oneK E call o (anc ops i) i rg rs V s K) : ∃ rg' rs' s1 mw, DStep E base ops n0 o i rg rg' rs rs' s s1 V mw ∧ K rg' rs' s1 := by
  rw [oneK_eq] at hk
  obtain ⟨v, h, n, mw, h1, h2⟩ := opK_sound hE hcall hk
  split at h1
  · rename_i hm
    have hm := ble_true hm
    obtain ⟨c, h1⟩ := chk_true h1
    have hn := ble_true c
    obtain ⟨h3, hd⟩ := putK_sound h1
    refine ⟨_, _, _, mw, ⟨hd, ?_, .inr rfl, hV, .inl hm, .op v h n _ big hw h2 hn rfl (fun hlow => merge_new (not_wr hlow hm)) (.inl hm)⟩, h3⟩
    split
    · exact .inl rfl
    · exact .inr (by rw [putS_next])
  · rename_i hm
    obtain ⟨c, h1⟩ := chk_true h1
    simp only [Bool.and_eq_true, shutV] at c
    obtain ⟨c1, c0, c2, c6, ⟨c3, c4⟩, c5⟩ := c
    have hn := ble_true c1
    obtain ⟨h3, hd⟩ := putK_sound h1
    refine ⟨_, _, _, mw, ⟨hd, ?_, .inr rfl, hV, .inr c5, .op v h n _ mw hw h2 hn rfl (fun _ => merge_spec _ _ _ _ _ _) (.inr ⟨Nat.le_refl _, E.low, ble_true c0, ble_true c2, ble_true c6, fun k b hb u hu => ?_, fun x hx => ?_⟩)⟩, h3⟩
    · split
      · exact .inl rfl
      · exact .inr (by rw [putS_next])
    · exact (okH_spec c3 k b hb u hu).mono fun k hk => inB_iff hk
    · exact (okV_spec 8 _ (List.all_eq_true.1 c4 _ (List.mem_map_of_mem hx))).mono fun k hk => inB_iff hk

theorem keepB_spec {p q : Nat → Bool} {h : Heap} {k : Nat} {b : Blk} (hb : getBlk (keepH (fun k => match q k with | true => p k | false => false) h) k = some b) : getBlk h k = some b ∧ p k = true := by
  rw [getBlk_keepH] at hb
  cases hq : q k with
  | true =>
    simp only [hq] at hb
    split at hb
    · rename_i hp; exact ⟨hb, hp⟩
    · cases hb
  | false => simp [hq] at hb

theorem footV_spec {lo : Nat} {p : Nat → Bool} {h : Heap} {vs : List Value} {k : Nat} {b : Blk} (hb : getBlk (footV lo p h vs) k = some b) : getBlk h k = some b ∧ p k = true := by
  unfold footV at hb
  simp only at hb
  split at hb
  · exact keepB_spec (q := fun k => opBlks k vs) hb
  · exact keepB_spec (q := fun k => inL ⟨reachN h 12 (namesL vs)⟩ k) hb

theorem drawK_run (hE : EnvOk E base) {call : CallFn} (hcall : CallOk E base call) {W : Bool} {ops : List Oper} {n0 : Nat} {K : St → Prop} : ∀ (rest : List Oper) (i : Nat) (rg : List (Nat × Nat × Nat)) (rs : Recs) (s : St),
    drawK E call W ops n0 (ancL [] 0 ops) rest i rg rs s K → ∃ (σ : Nat → St) (rf : Nat → List (Nat × Nat × Nat)) (lf : Nat → Recs) (Vf : Nat → Heap) (mf : Nat → Nat), σ i = s ∧ rf i = rg ∧ lf i = rs ∧ K (σ (i + rest.length)) ∧
      ∀ (m : Nat) o, rest[m]? = some o → DStep E base ops n0 o (i + m) (rf (i + m)) (rf (i + m + 1)) (lf (i + m)) (lf (i + m + 1)) (σ (i + m)) (σ (i + m + 1)) (Vf (i + m)) (mf (i + m)) := by
  intro rest
  induction rest with
  | nil => intro i rg rs s hk; exact ⟨fun _ => s, fun _ => rg, fun _ => rs, fun _ => [], fun _ => 0, rfl, rfl, rfl, hk, fun m o h => by simp at h⟩
  | cons o rest ih =>
    intro i rg rs s hk
    have key : ∀ (rg' : List (Nat × Nat × Nat)) (rs' : Recs) (s1 : St) (V : Heap) (mw : Nat), DStep E base ops n0 o i rg rg' rs rs' s s1 V mw → drawK E call W ops n0 (ancL [] 0 ops) rest (i + 1) rg' rs' s1 K →
        ∃ (σ : Nat → St) (rf : Nat → List (Nat × Nat × Nat)) (lf : Nat → Recs) (Vf : Nat → Heap) (mf : Nat → Nat), σ i = s ∧ rf i = rg ∧ lf i = rs ∧ K (σ (i + (o :: rest).length)) ∧
      ∀ (m : Nat) p, (o :: rest)[m]? = some p → DStep E base ops n0 p (i + m) (rf (i + m)) (rf (i + m + 1)) (lf (i + m)) (lf (i + m + 1)) (σ (i + m)) (σ (i + m + 1)) (Vf (i + m)) (mf (i + m)) := by
      intro rg' rs' s1 V mw hd hk
      obtain ⟨σ, rf, lf, Vf, mf, h1, h2, h3, h4, h5⟩ := ih (i + 1) rg' rs' s1 hk
      refine ⟨fun k => if k ≤ i then s else σ k, fun k => if k ≤ i then rg else rf k, fun k => if k ≤ i then rs else lf k, fun k => if k ≤ i then V else Vf k, fun k => if k ≤ i then mw else mf k, by simp, by simp, by simp, ?_, fun m p hm => ?_⟩
      · have : i + (o :: rest).length = i + 1 + rest.length := by simp; omega
        rw [this]
        have : ¬ (i + 1 + rest.length ≤ i) := by omega
        simpa [this] using h4
      · cases m with
        | zero =>
          simp at hm; subst hm
          have e2 : ¬ (i + 1 ≤ i) := by omega
          simpa [h1, h2, h3, e2] using hd
        | succ m =>
          have := h5 m p (by simpa using hm)
          have e : i + (m + 1) = i + 1 + m := by omega
          rw [e]
          have e1 : ¬ (i + 1 + m ≤ i) := by omega
          have e2 : ¬ (i + 1 + m + 1 ≤ i) := by omega
          simpa only [e1, e2, if_false] using this
    rw [drawK_cons] at hk
    rcases want_cases hk with ⟨hk, hw⟩ | ⟨hk, hw⟩
    · split at hk
      · rename_i hc
        obtain ⟨v, h, n, mw, h1, h2⟩ := opK_sound hE hcall hk
        obtain ⟨c, h1⟩ := chk_true h1
        simp only [Bool.and_eq_true] at c
        obtain ⟨h3, hd⟩ := putK_sound h1
        have hn := beq_true c.1.2
        have hm := ble_true c.2
        rw [hn] at hm h2
        refine key _ _ _ [] mw ⟨hd, .inl rfl, .inl ⟨rfl, rfl⟩, fun k b hb => by simp [getBlk] at hb, .inl hm, .op v h s.next s.heap big hw h2 (Nat.le_refl _) rfl (fun _ => merge_same fun k hk => ?_) (.inl hm)⟩ h3
        obtain ⟨_, b, hb⟩ := hk
        simp [getBlk] at hb
      · split at hk
        · rename_i t a hop
          split at hk
          · rename_i ad ha
            split at hk
            · rename_i b hb
              obtain ⟨hv, hk⟩ := chk_true hk
              simp only [Bool.and_eq_true] at hv
              obtain ⟨v, h, n, mw, h1, h2⟩ := opK_sound hE hcall hk
              obtain ⟨c, h1⟩ := chk_true h1
              simp only [Bool.and_eq_true] at c
              obtain ⟨h3, hd⟩ := putK_sound h1
              have hn := beq_true c.1
              have hm := ble_true c.2
              rw [hn] at hm h2
              refine key _ _ _ [(ad.block, b)] mw ⟨hd, .inl rfl, .inr rfl, fun k d hk => ?_, .inl hm, .op v h s.next s.heap big hw h2 (Nat.le_refl _) rfl (fun hlow => merge_same (not_wr hlow hm)) (.inl hm)⟩ h3
              rw [getBlk_cons] at hk
              split at hk
              · rename_i e; subst e
                cases hk
                exact ⟨hb, hv.1, hv.2⟩
              · simp [getBlk] at hk
            · exact hk.elim
          · exact hk.elim
        · exact hk.elim
      · split at hk
        · rename_i t a x hop
          split at hk
          · rename_i ad ha
            split at hk
            · rename_i b hb
              obtain ⟨hv, hk⟩ := chk_true hk
              simp only [Bool.and_eq_true] at hv
              rw [opK_eq] at hk
              unfold opK0 at hk
              rw [hop] at hk
              simp only [ha] at hk
              split at hk
              · rename_i sz hsz
                split at hk
                · rename_i hcs
                  obtain ⟨h', hst, hk⟩ := storeK_of hk
                  obtain ⟨c, h1⟩ := chk_true hk
                  obtain ⟨h3, hd⟩ := putK_sound h1
                  refine key _ _ _ [(ad.block, b)] ad.block ⟨hd, .inl rfl, .inr rfl, fun k d hk => ?_, .inr hv.2.2, .st t a x ad sz h' b hw hop ha hsz (beq_true hcs) hst hb rfl rfl rfl⟩ h3
                  rw [getBlk_cons] at hk
                  split at hk
                  · rename_i e; subst e
                    cases hk
                    exact ⟨hb, hv.1, hv.2.1⟩
                  · simp [getBlk] at hk
                · exact hk.elim
              · exact hk.elim
            · exact hk.elim
          · exact hk.elim
        · exact hk.elim
      · obtain ⟨rg', rs', s1, mw, hd, hk⟩ := oneK_sound hE hcall (fun k b hb => by simp [getBlk] at hb) hw hk
        exact key _ _ _ _ _ hd hk
      · obtain ⟨rg', rs', s1, mw, hd, hk⟩ := oneK_sound hE hcall (fun k b hb => by
          obtain ⟨hb, hp⟩ := footV_spec hb
          simp only [Bool.and_eq_true] at hp
          exact ⟨hb, hp.1, hp.2⟩) hw hk
        exact key _ _ _ _ _ hd hk
      · obtain ⟨rg', rs', s1, mw, hd, hk⟩ := oneK_sound hE hcall (fun k b hb => by
          rw [getBlk_keepH] at hb
          split at hb
          · rename_i hp
            simp only [Bool.and_eq_true] at hp
            exact ⟨hb, hp.1, free_mono hp.2⟩
          · cases hb) hw hk
        exact key _ _ _ _ _ hd hk
    · obtain ⟨h3, hd⟩ := putSt_sound hk
      exact key _ _ _ [] s.next ⟨hd, .inl rfl, .inl ⟨rfl, rfl⟩, fun k b hb => by simp [getBlk] at hb, .inl (Nat.le_refl _), .skip hw rfl rfl⟩ h3

end
end Go.Pe
