/-
  The evaluator's soundness, ninth part: regions whose order is drawn: what is static, and the run in the text's order.
-/
import Derived.Test.YtolniekeocnanaaGreatDoorPeJ
namespace Go.Pe
open Go Go.RowKit

instance : Membership Nat Msk := ⟨fun a n => inL a n = true⟩

theorem inL_iff {l : Msk} {n : Nat} : inL l n = true ↔ n ∈ l := Iff.rfl

theorem inL_test (a : Msk) (n : Nat) : inL a n = a.m.testBit n := by
  have h : ∀ x : Nat, Nat.beq (Nat.land x 1) 1 = (1 &&& x != 0) := fun x => by
    have h1 : Nat.land x 1 = x % 2 := by
      show x &&& 1 = x % 2
      exact Nat.and_one_is_mod x
    have h2 : 1 &&& x = x % 2 := by rw [Nat.and_comm]; exact Nat.and_one_is_mod x
    rw [h1, h2]
    rcases Nat.mod_two_eq_zero_or_one x with h | h <;> rw [h] <;> rfl
  exact h _

theorem mem_or {a b : Msk} {j : Nat} : j ∈ orM a b ↔ j ∈ a ∨ j ∈ b := by
  rw [← inL_iff, ← inL_iff, ← inL_iff, inL_test, inL_test, inL_test]
  show ((a.m ||| b.m).testBit j = true) ↔ _
  rw [Nat.testBit_or, Bool.or_eq_true]

theorem mem_bit {k j : Nat} : j ∈ bitM k ↔ j = k := by
  rw [← inL_iff, inL_test]
  show ((1 <<< k).testBit j = true) ↔ _
  rw [Nat.one_shiftLeft, Nat.testBit_two_pow]
  simp [eq_comm]

theorem not_mem_none {j : Nat} : ¬ j ∈ (⟨0⟩ : Msk) := by
  rw [← inL_iff, inL_test]
  simp

theorem allI_spec {p : Nat → Oper → Bool} : ∀ (l : List Oper) (i : Nat), allI p i l = true → ∀ (m : Nat) o, l[m]? = some o → p (i + m) o = true := by
  intro l
  induction l with
  | nil => intro i _ m o h; simp at h
  | cons x l ih =>
    intro i h m o hm
    unfold allI at h
    split at h
    · rename_i hp
      cases m with
      | zero => simp at hm; subst hm; exact hp
      | succ m =>
        have := ih (i + 1) h m o (by simpa using hm)
        have e : i + (m + 1) = i + 1 + m := by omega
        rw [e]; exact this
    · cases h

theorem mem_tmpsOf {l : List Operand} {t : Nat} (h : Operand.tmp t ∈ l) : t ∈ tmpsOf l := by
  induction l with
  | nil => cases h
  | cons x l ih =>
    rcases List.mem_cons.1 h with h1 | h1
    · subst h1; simp [tmpsOf]
    · have := ih h1
      cases x <;> simp [tmpsOf, this]

theorem nthL_append (l : List Msk) (x : Msk) (k : Nat) : nthL (l ++ [x]) k = if k = l.length then x else nthL l k := by
  induction l generalizing k with
  | nil => cases k <;> simp [nthL]
  | cons y l ih => cases k with
    | zero => simp [nthL]
    | succ k => simp [nthL, ih]

theorem ancOf_congr {acc acc' : List Msk} {i : Nat} (h : ∀ k, k < i → nthL acc k = nthL acc' k) : ∀ es, ancOf acc i es = ancOf acc' i es := by
  intro es
  induction es with
  | nil => rfl
  | cons e es ih =>
    simp only [ancOf]
    split
    · split
      · rename_i hb; rw [ih, h e.on (by simpa [Nat.blt_eq] using hb)]
      · exact ih
    · exact ih

theorem ancL_spec : ∀ (l : List Oper) (acc : List Msk) (i : Nat), acc.length = i →
    (∀ k, k < i → nthL (ancL acc i l) k = nthL acc k) ∧ ∀ (m : Nat) o, l[m]? = some o → nthL (ancL acc i l) (i + m) = ancOf (ancL acc i l) (i + m) o.after.toList := by
  intro l
  induction l with
  | nil => intro acc i _; exact ⟨fun _ _ => rfl, fun m o h => by simp at h⟩
  | cons x l ih =>
    intro acc i hl
    have hl2 : (acc ++ [ancOf acc i x.after.toList]).length = i + 1 := by simp [hl]
    obtain ⟨h1, h2⟩ := ih _ _ hl2
    simp only [ancL]
    have h0 : ∀ k, k < i → nthL (ancL (acc ++ [ancOf acc i x.after.toList]) (i + 1) l) k = nthL acc k := fun k hk => by
      rw [h1 k (by omega), nthL_append, if_neg (by omega)]
    refine ⟨h0, fun m o hm => ?_⟩
    cases m with
    | zero =>
      simp at hm; subst hm
      show nthL _ i = ancOf _ i _
      rw [h1 i (by omega), nthL_append, if_pos hl.symm]
      exact ancOf_congr (fun k hk => (h0 k hk).symm) _
    | succ m =>
      have e : i + (m + 1) = i + 1 + m := by omega
      rw [e]; exact h2 m o (by simpa using hm)

theorem mem_ancOf {acc : List Msk} {i j : Nat} : ∀ es, j ∈ ancOf acc i es → ∃ e ∈ es, Region.binds .any e = true ∧ e.on < i ∧ (j = e.on ∨ j ∈ nthL acc e.on) := by
  intro es
  induction es with
  | nil => intro h; exact absurd h not_mem_none
  | cons e es ih =>
    intro h
    simp only [ancOf] at h
    split at h
    · rename_i hb
      split at h
      · rename_i hlt
        rcases (mem_or.1 h).imp mem_bit.1 mem_or.1 with h | h | h
        · exact ⟨e, List.mem_cons_self .., hb, by simpa [Nat.blt_eq] using hlt, .inl h⟩
        · exact ⟨e, List.mem_cons_self .., hb, by simpa [Nat.blt_eq] using hlt, .inr h⟩
        · obtain ⟨e', h1, h2⟩ := ih h; exact ⟨e', List.mem_cons_of_mem _ h1, h2⟩
      · obtain ⟨e', h1, h2⟩ := ih h; exact ⟨e', List.mem_cons_of_mem _ h1, h2⟩
    · obtain ⟨e', h1, h2⟩ := ih h; exact ⟨e', List.mem_cons_of_mem _ h1, h2⟩

theorem ancOf_sub {acc : List Msk} {i : Nat} {e : Edge} (hb : Region.binds .any e = true) (hlt : e.on < i) : ∀ es, e ∈ es → e.on ∈ ancOf acc i es ∧ ∀ j, j ∈ nthL acc e.on → j ∈ ancOf acc i es := by
  intro es
  induction es with
  | nil => intro h; cases h
  | cons x es ih =>
    intro h
    rcases List.mem_cons.1 h with rfl | h
    · simp only [ancOf, hb]
      have : Nat.blt e.on i = true := by simpa [Nat.blt_eq] using hlt
      simp only [this]
      exact ⟨mem_or.2 (.inl (mem_bit.2 rfl)), fun j hj => mem_or.2 (.inr (mem_or.2 (.inl hj)))⟩
    · obtain ⟨h1, h2⟩ := ih h
      simp only [ancOf]
      split
      · split
        · exact ⟨mem_or.2 (.inr (mem_or.2 (.inr h1))), fun j hj => mem_or.2 (.inr (mem_or.2 (.inr (h2 j hj))))⟩
        · exact ⟨h1, h2⟩
      · exact ⟨h1, h2⟩

section
variable {ops : List Oper}

/-- What comes ahead, in every order. -/
def anc (ops : List Oper) (i : Nat) : Msk := nthL (ancL [] 0 ops) i

theorem anc_eq {i : Nat} {o : Oper} (h : ops[i]? = some o) : anc ops i = ancOf (ancL [] 0 ops) i o.after.toList := by
  have := (ancL_spec ops [] 0 rfl).2 i o h
  simpa [anc] using this

theorem anc_spec {i j : Nat} {o : Oper} (h : ops[i]? = some o) (hj : j ∈ anc ops i) : ∃ e ∈ o.after, Region.binds .any e = true ∧ e.on < i ∧ (j = e.on ∨ j ∈ anc ops e.on) := by
  rw [anc_eq h] at hj
  obtain ⟨e, h1, h2⟩ := mem_ancOf _ hj
  exact ⟨e, by simpa using h1, h2⟩

theorem anc_lt : ∀ (i j : Nat), i < ops.length → j ∈ anc ops i → j < i := by
  intro i
  induction i using Nat.strongRecOn with
  | _ i ih =>
    intro j hi hj
    obtain ⟨e, _, _, hlt, h⟩ := anc_spec (List.getElem?_eq_getElem hi) hj
    rcases h with rfl | h
    · exact hlt
    · have := ih e.on hlt j (by omega) h; omega

theorem anc_trans : ∀ (i j k : Nat), i < ops.length → j ∈ anc ops i → k ∈ anc ops j → k ∈ anc ops i := by
  intro i
  induction i using Nat.strongRecOn with
  | _ i ih =>
    intro j k hi hj hk
    have ho := List.getElem?_eq_getElem hi
    obtain ⟨e, he, hb, hlt, h⟩ := anc_spec ho hj
    have hs := (ancOf_sub (acc := ancL [] 0 ops) hb hlt ops[i].after.toList (by simpa using he)).2
    rw [anc_eq ho]
    rcases h with rfl | h
    · exact hs k hk
    · exact hs k (ih e.on hlt j k (by omega) h hk)

/-- What is closed under coming ahead. -/
def Shut (ops : List Oper) (S : Nat → Prop) : Prop := ∀ i o, ops[i]? = some o → S i → ∀ e ∈ o.after, Region.binds .any e = true → S e.on

theorem anc_shut {S : Nat → Prop} (hS : Shut ops S) : ∀ (i : Nat) o, ops[i]? = some o → (∀ e ∈ o.after, Region.binds .any e = true → S e.on) → ∀ j, j ∈ anc ops i → S j := by
  intro i
  induction i using Nat.strongRecOn with
  | _ i ih =>
    intro o ho hr j hj
    obtain ⟨e, he, hb, hlt, h⟩ := anc_spec ho hj
    have h1 := hr e he hb
    rcases h with rfl | h
    · exact h1
    · have hi : i < ops.length := (List.getElem?_eq_some_iff.1 ho).1
      have ho' := List.getElem?_eq_getElem (l := ops) (i := e.on) (by omega)
      exact ih e.on hlt _ ho' (hS e.on _ ho' h1) j h

theorem anc_in {S : Nat → Prop} (hS : Shut ops S) {i j : Nat} {o : Oper} (ho : ops[i]? = some o) (hi : S i) (hj : j ∈ anc ops i) : S j := anc_shut hS i o ho (hS i o ho hi) j hj

/-- What the static check says. -/
structure Static (ops : List Oper) : Prop where
  fw : ∀ (i : Nat) (o : Oper), ops[i]? = some o → ∀ e ∈ o.after, Region.binds .any e = true → e.on < i
  opd : ∀ (i : Nat) (o : Oper) t (j : Nat) (p : Oper), ops[i]? = some o → Operand.tmp t ∈ o.op.operands.toList → ops[j]? = some p → p.dst = some t → j ∈ anc ops i ∨ i = j ∨ i ∈ anc ops j
  gd : ∀ (i : Nat) (o : Oper) g b, ops[i]? = some o → o.guard = some (g, b) → g ∈ anc ops i
  dst : ∀ (i : Nat) (o : Oper) (j : Nat) (p : Oper) d, ops[i]? = some o → ops[j]? = some p → o.dst = some d → p.dst = some d → i = j
  st : ∀ (i : Nat) (o : Oper) (j : Nat) (p : Oper), ops[i]? = some o → clsOf o.op = 2 → ops[j]? = some p → j < i → (clsOf p.op = 0 ∨ clsOf p.op = 1 ∨ j ∈ anc ops i)
  hv : ∀ (i : Nat) (o : Oper) (j : Nat) (p : Oper), ops[i]? = some o → clsOf o.op ≠ 0 → clsOf o.op ≠ 2 → ops[j]? = some p → j < i → clsOf p.op ≠ 2

theorem dstIs_of {o : Oper} {t : Nat} (h : o.dst = some t) : dstIs o t = true := by simp [dstIs, h]

theorem static_of (h : drawStatic ops (ancL [] 0 ops) = true) : Static ops := by
  have key : ∀ (i : Nat) o, ops[i]? = some o → _ := fun i o ho => allI_spec ops 0 h i o ho
  simp only [Nat.zero_add, Bool.and_eq_true] at key
  refine ⟨fun i o ho e he hb => ?_, fun i o t j p ho ht hj hd => ?_, fun i o g b ho hg => ?_, fun i o j p d ho hj h1 h2 => ?_, fun i o j p ho hc hj hlt => ?_, fun i o j p ho h0 h2 hj hlt => ?_⟩
  · have := (key i o ho).1.1.1.1
    have := List.all_eq_true.1 this e (by simpa using he)
    simp only [hb] at this
    simpa [Nat.blt_eq] using this
  · have := (key i o ho).1.1.1.2
    have := List.all_eq_true.1 this t (mem_tmpsOf ht)
    have := allI_spec ops 0 this j p hj
    simp only [Nat.zero_add, dstIs_of hd, Bool.or_eq_true, inL_iff] at this
    rcases this with (h | h) | h
    · exact .inl h
    · exact .inr (.inl (beq_true h))
    · exact .inr (.inr h)
  · have := (key i o ho).1.1.2
    rw [hg] at this
    exact inL_iff.1 this
  · have := (key i o ho).1.2
    rw [h1] at this
    have := allI_spec ops 0 this j p hj
    simp only [Nat.zero_add, dstIs_of h2] at this
    exact beq_true this
  · have := (key i o ho).2
    rw [hc] at this
    have := allI_spec ops 0 this j p hj
    have hb : Nat.blt j i = true := by simpa [Nat.blt_eq] using hlt
    simp only [Nat.zero_add, hb] at this
    split at this
    · rename_i h; exact .inl h
    · rename_i h; exact .inr (.inl h)
    · exact .inr (.inr (inL_iff.1 this))
  · have := (key i o ho).2
    split at this
    · rename_i h; exact absurd h h0
    · rename_i h; exact absurd h h2
    · have := allI_spec ops 0 this j p hj
      have hb : Nat.blt j i = true := by simpa [Nat.blt_eq] using hlt
      simp only [Nat.zero_add, hb] at this
      intro hc
      rw [hc] at this
      cases this
end

/-! ### The run in the text's order -/

theorem getBlk_keepH (p : Nat → Bool) (h : Heap) (k : Nat) : getBlk (keepH p h) k = if p k = true then getBlk h k else none := by
  induction h with
  | nil => simp [keepH, getBlk]
  | cons x h ih =>
    obtain ⟨j, b⟩ := x
    simp only [keepH]
    split
    · rename_i hp
      rw [getBlk_cons, getBlk_cons, ih]
      split
      · rename_i e; subst e; rw [if_pos hp]
      · rfl
    · rename_i hp
      rw [ih, getBlk_cons]
      split
      · rename_i h1
        rw [if_neg (fun e => by subst e; rw [h1] at hp; cases hp)]
      · rfl

theorem getBlk_append (a b : Heap) (k : Nat) : getBlk (a ++ b) k = (getBlk a k).or (getBlk b k) := by
  induction a with
  | nil => simp [getBlk]
  | cons x a ih =>
    obtain ⟨j, c⟩ := x
    rw [List.cons_append, getBlk_cons, getBlk_cons, ih]
    split <;> simp

theorem visible_spec {an : Msk} {rg : List (Nat × Nat × Nat)} {n0 k : Nat} (h : visible an rg n0 k = true) : k < n0 ∨ ∃ x ∈ rg, x.2.1 ≤ k ∧ k < x.2.2 ∧ x.1 ∈ an := by
  unfold visible at h
  split at h
  · rename_i hb; exact .inl (by simpa [Nat.blt_eq] using hb)
  · refine .inr ?_
    induction rg with
    | nil => simp [owned] at h
    | cons x rg ih =>
      obtain ⟨j, lo, hi⟩ := x
      simp only [owned] at h
      split at h
      · rename_i hb
        simp only [Bool.and_eq_true] at hb
        exact ⟨_, List.mem_cons_self .., ble_true hb.1, by simpa [Nat.blt_eq] using hb.2, inL_iff.1 h⟩
      · obtain ⟨x, hx, h'⟩ := ih h; exact ⟨x, List.mem_cons_of_mem _ hx, h'⟩

theorem apart_spec {an : Msk} {b : Nat} {ld : List (Nat × Nat)} (h : apartL an b ld = true) {j c : Nat} (hm : (j, c) ∈ ld) (hj : j ∉ an) : b ≠ c := by
  induction ld with
  | nil => cases hm
  | cons x ld ih =>
    obtain ⟨i, d⟩ := x
    simp only [apartL] at h
    split at h
    · rename_i hb
      rcases List.mem_cons.1 hm with e | hm
      · cases e
        simp only [Bool.or_eq_true, inL_iff, Bool.not_eq_true'] at hb
        exact beq_false (hb.resolve_left hj)
      · exact ih h hm
    · cases h

section
variable {E : Env} {base : World}

/-- A step of the run: no store. -/
def StepN (E : Env) (base : World) (ops : List Oper) (n0 : Nat) (o : Oper) (i : Nat) (rg : List (Nat × Nat × Nat)) (ld' : List (Nat × Nat)) (s s1 : St) : Prop :=
  clsOf o.op ≠ 2 ∧ ∃ V v h n mw H, OpSem E base o (evalO s.tmps) V s.next v h n mw ∧ s.next ≤ mw ∧
    (∀ k b, getBlk V k = some b → visible (anc ops i) rg n0 k = true ∧ getBlk s.heap k = some b ∧ (clsOf o.op = 3 ∨ (i, k) ∈ ld') ∧ clsOf o.op ≠ 0) ∧
    s1 = putS s o.dst v H n big ∧ ((H = s.heap ∧ n = s.next) ∨ (clsOf o.op = 3 ∧ s.next ≤ n ∧ H = keepH (Nat.ble s.next) h ++ s.heap))

/-- A store. -/
def StepS (E : Env) (ops : List Oper) (n0 : Nat) (o : Oper) (i : Nat) (rg : List (Nat × Nat × Nat)) (ld : List (Nat × Nat)) (s s1 : St) : Prop :=
  clsOf o.op = 2 ∧ ∃ t a x ad sz h', o.op = .store t a x ∧ evalO s.tmps a = .pointer (some ad) ∧ sizeT E t = some sz ∧ (evalO s.tmps x).cells.size = sz ∧ storeO s.heap ad (evalO s.tmps x).cells.toList = some h' ∧
    visible (anc ops i) rg n0 ad.block = true ∧ apartL (anc ops i) ad.block ld = true ∧ s1 = putS s o.dst undef h' s.next ad.block

def DStep (E : Env) (base : World) (ops : List Oper) (n0 : Nat) (o : Oper) (i : Nat) (rg rg' : List (Nat × Nat × Nat)) (ld ld' : List (Nat × Nat)) (s s1 : St) : Prop :=
  (∀ d, o.dst = some d → d < s.size) ∧ (rg' = rg ∨ rg' = (i, s.next, s1.next) :: rg) ∧ (∀ x ∈ ld, x ∈ ld') ∧
  ((Region.wanted o (guardV ops s.tmps) = false ∧ s1 = putS s o.dst undef s.heap s.next big) ∨
   (Region.wanted o (guardV ops s.tmps) = true ∧ (StepN E base ops n0 o i rg ld' s s1 ∨ StepS E ops n0 o i rg ld s s1)))

theorem clsOf_le (op : Op) : clsOf op ≤ 3 := by
  unfold clsOf
  split <;> try omega
  split <;> omega

theorem noBlk_nil {h : Heap} (e : noBlk h = true) : h = [] := by cases h <;> simp [noBlk] at e ⊢

theorem drawK_run (hE : EnvOk E base) {call : CallFn} (hcall : CallOk E base call) {ops : List Oper} {n0 : Nat} {K : St → Prop} : ∀ (rest : List Oper) (i : Nat) (rg : List (Nat × Nat × Nat)) (ld : List (Nat × Nat)) (s : St),
    drawK E call ops n0 (ancL [] 0 ops) rest i rg ld s K → ∃ (σ : Nat → St) (rf : Nat → List (Nat × Nat × Nat)) (lf : Nat → List (Nat × Nat)), σ i = s ∧ rf i = rg ∧ lf i = ld ∧ K (σ (i + rest.length)) ∧
      ∀ (m : Nat) o, rest[m]? = some o → DStep E base ops n0 o (i + m) (rf (i + m)) (rf (i + m + 1)) (lf (i + m)) (lf (i + m + 1)) (σ (i + m)) (σ (i + m + 1)) := by
  intro rest
  induction rest with
  | nil => intro i rg ld s hk; exact ⟨fun _ => s, fun _ => rg, fun _ => ld, rfl, rfl, rfl, hk, fun m o h => by simp at h⟩
  | cons o rest ih =>
    intro i rg ld s hk
    have key : ∀ (rg' : List (Nat × Nat × Nat)) (ld' : List (Nat × Nat)) (s1 : St), DStep E base ops n0 o i rg rg' ld ld' s s1 → drawK E call ops n0 (ancL [] 0 ops) rest (i + 1) rg' ld' s1 K →
        ∃ (σ : Nat → St) (rf : Nat → List (Nat × Nat × Nat)) (lf : Nat → List (Nat × Nat)), σ i = s ∧ rf i = rg ∧ lf i = ld ∧ K (σ (i + (o :: rest).length)) ∧
      ∀ (m : Nat) p, (o :: rest)[m]? = some p → DStep E base ops n0 p (i + m) (rf (i + m)) (rf (i + m + 1)) (lf (i + m)) (lf (i + m + 1)) (σ (i + m)) (σ (i + m + 1)) := by
      intro rg' ld' s1 hd hk
      obtain ⟨σ, rf, lf, h1, h2, h3, h4, h5⟩ := ih (i + 1) rg' ld' s1 hk
      refine ⟨fun k => if k ≤ i then s else σ k, fun k => if k ≤ i then rg else rf k, fun k => if k ≤ i then ld else lf k, by simp, by simp, by simp, ?_, fun m p hm => ?_⟩
      · have : i + (o :: rest).length = i + 1 + rest.length := by simp; omega
        rw [this]
        have : ¬ (i + 1 + rest.length ≤ i) := by omega
        simpa [this] using h4
      · cases m with
        | zero =>
          simp at hm; subst hm
          have e2 : ¬ (i + 1 ≤ i) := by omega
          simpa [h1, h2, h3, e2] using hd
        | succ m =>
          have := h5 m p (by simpa using hm)
          have e : i + (m + 1) = i + 1 + m := by omega
          rw [e]
          have e1 : ¬ (i + 1 + m ≤ i) := by omega
          have e2 : ¬ (i + 1 + m + 1 ≤ i) := by omega
          simpa only [e1, e2, if_false] using this
    unfold drawK at hk
    rcases want_cases hk with ⟨hk, hw⟩ | ⟨hk, hw⟩
    · split at hk
      · rename_i hc
        obtain ⟨v, h, n, mw, h1, h2⟩ := opK_sound hE hcall hk
        obtain ⟨c, h1⟩ := chk_true h1
        simp only [Bool.and_eq_true] at c
        obtain ⟨h3, hd⟩ := putK_sound h1
        have hn := beq_true c.1.2
        have hm := ble_true c.2
        rw [hn] at hm
        refine key _ _ _ ⟨hd, .inl rfl, fun _ h => h, .inr ⟨hw, .inl ⟨by rw [hc]; omega, [], v, h, n, mw, s.heap, h2, hm, fun k b hb => by simp [getBlk] at hb, ?_, .inl ⟨rfl, hn⟩⟩⟩⟩ h3
        rw [hn]
      · rename_i hc
        split at hk
        · rename_i t a hop
          split at hk
          · rename_i ad ha
            split at hk
            · rename_i b hb
              obtain ⟨hv, hk⟩ := chk_true hk
              obtain ⟨v, h, n, mw, h1, h2⟩ := opK_sound hE hcall hk
              obtain ⟨c, h1⟩ := chk_true h1
              simp only [Bool.and_eq_true] at c
              obtain ⟨h3, hd⟩ := putK_sound h1
              have hn := beq_true c.1
              have hm := ble_true c.2
              rw [hn] at hm
              refine key _ _ _ ⟨hd, .inl rfl, fun x h => List.mem_cons_of_mem _ h, .inr ⟨hw, .inl ⟨by rw [hc]; omega, _, v, h, n, mw, s.heap, h2, hm, fun k d hk => ?_, ?_, .inl ⟨rfl, hn⟩⟩⟩⟩ h3
              · rw [getBlk_cons] at hk
                split at hk
                · rename_i e; subst e
                  cases hk
                  exact ⟨hv, hb, .inr (List.mem_cons_self ..), by rw [hc]; omega⟩
                · simp [getBlk] at hk
              · rw [hn]
            · exact hk.elim
          · exact hk.elim
        · exact hk.elim
      · rename_i hc
        split at hk
        · rename_i t a x hop
          split at hk
          · rename_i ad ha
            obtain ⟨hv, hk⟩ := chk_true hk
            simp only [Bool.and_eq_true] at hv
            unfold opK at hk
            rw [hop] at hk
            simp only [ha] at hk
            split at hk
            · rename_i sz hsz
              split at hk
              · rename_i hcs
                obtain ⟨h', hst, hk⟩ := storeK_of hk
                obtain ⟨c, h1⟩ := chk_true hk
                obtain ⟨h3, hd⟩ := putK_sound h1
                exact key _ _ _ ⟨hd, .inl rfl, fun _ h => h, .inr ⟨hw, .inr ⟨hc, t, a, x, ad, sz, h', hop, ha, hsz, beq_true hcs, hst, hv.1, hv.2, rfl⟩⟩⟩ h3
              · exact hk.elim
            · exact hk.elim
          · exact hk.elim
        · exact hk.elim
      · rename_i hc0 hc1 hc2
        have hc3 : clsOf o.op = 3 := by
          have := clsOf_le o.op
          have h0 : clsOf o.op ≠ 0 := hc0
          have h1 : clsOf o.op ≠ 1 := hc1
          have h2 : clsOf o.op ≠ 2 := hc2
          omega
        obtain ⟨v, h, n, mw, h1, h2⟩ := opK_sound hE hcall hk
        obtain ⟨c, h1⟩ := chk_true h1
        simp only [Bool.and_eq_true] at c
        obtain ⟨h3, hd⟩ := putK_sound h1
        refine key _ _ _ ⟨hd, ?_, fun _ h => h, .inr ⟨hw, .inl ⟨hc2, _, v, h, n, mw, _, h2, ble_true c.2, fun k b hb => ?_, rfl, .inr ⟨hc3, ble_true c.1, rfl⟩⟩⟩⟩ h3
        · split
          · exact .inl rfl
          · refine .inr ?_
            rw [putS_next]
        · rw [getBlk_keepH] at hb
          split at hb
          · rename_i hp; exact ⟨hp, hb, .inl hc3, hc0⟩
          · cases hb
    · obtain ⟨h3, hd⟩ := putSt_sound hk
      exact key _ _ _ ⟨hd, .inl rfl, fun _ h => h, .inl ⟨hw, rfl⟩⟩ h3

end
end Go.Pe
