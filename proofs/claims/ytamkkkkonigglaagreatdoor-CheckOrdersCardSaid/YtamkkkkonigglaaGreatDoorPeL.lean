/-
  The evaluator's soundness, tenth part: regions whose order is drawn: facts of the run.
-/
import Derived.Test.YtamkkkkonigglaaGreatDoorPeK
namespace Go.Pe
open Go Go.RowKit

theorem storeO_get {h h' : Heap} {ad : Addr} {vs : List Value} (hs : storeO h ad vs = some h') :
    ∃ b c, getBlk h ad.block = some b ∧ h' = setBlk h ad.block c ∧ ∀ g, getBlk g ad.block = some b → storeO g ad vs = some (setBlk g ad.block c) := by
  unfold storeO at hs
  split at hs
  · cases hs
  · rename_i hsp
    split at hs
    · cases hs
    · rename_i b hb
      split at hs
      · rename_i ho hi
        split at hs
        · rename_i cs h1 h2
          cases hs
          refine ⟨b, _, hb, rfl, fun g hg => ?_⟩
          unfold storeO
          simp only [hsp, hg, ho, hi, h1, h2]
        · cases hs
      · cases hs

theorem last_of (P : Nat → Prop) : ∀ i, (∃ m, m < i ∧ P m ∧ ∀ l, m < l → l < i → ¬ P l) ∨ ∀ m, m < i → ¬ P m := by
  intro i
  induction i with
  | zero => exact .inr fun m h => by omega
  | succ i ih =>
    by_cases hp : P i
    · exact .inl ⟨i, by omega, hp, fun l h1 h2 => by omega⟩
    · rcases ih with ⟨m, h1, h2, h3⟩ | h
      · refine .inl ⟨m, by omega, h2, fun l l1 l2 => ?_⟩
        by_cases e : l = i
        · subst e; exact hp
        · exact h3 l l1 (by omega)
      · refine .inr fun m hm => ?_
        by_cases e : m = i
        · subst e; exact hp
        · exact h m (by omega)

section
variable {E : Env} {base : World} {ops : List Oper} {σ : Nat → St} {rf : Nat → List (Nat × Nat × Nat)} {lf : Nat → Recs} {Vf : Nat → Heap} {mf : Nat → Nat}

structure Run (E : Env) (base : World) (ops : List Oper) (σ : Nat → St) (rf : Nat → List (Nat × Nat × Nat)) (lf : Nat → Recs) (Vf : Nat → Heap) (mf : Nat → Nat) : Prop where
  static : Static ops
  opers : ∀ (i : Nat) o, ops[i]? = some o → operOk E.P.globals.size o = true
  r0 : rf 0 = []
  step : ∀ (i : Nat) o, ops[i]? = some o → DStep E base ops (σ 0).next o i (rf i) (rf (i + 1)) (lf i) (lf (i + 1)) (σ i) (σ (i + 1)) (Vf i) (mf i)

def own (σ : Nat → St) (m k : Nat) : Prop := (σ m).next ≤ k ∧ k < (σ (m + 1)).next

/-- An operation gives this name, or writes its block. -/
def touch (σ : Nat → St) (Vf : Nat → Heap) (mf : Nat → Nat) (m k : Nat) : Prop := own σ m k ∨ Wr (Vf m) (mf m) k

theorem getO {i : Nat} (h : i < ops.length) : ∃ o, ops[i]? = some o := ⟨_, List.getElem?_eq_getElem h⟩
theorem ltO {i : Nat} {o : Oper} (h : ops[i]? = some o) : i < ops.length := (List.getElem?_eq_some_iff.1 h).1

theorem Run.next1 (R : Run E base ops σ rf lf Vf mf) {i : Nat} {o : Oper} (ho : ops[i]? = some o) : (σ i).next ≤ (σ (i + 1)).next ∧ (σ (i + 1)).size = (σ i).size ∧ (σ (i + 1)).mw ≤ (σ i).mw := by
  cases (R.step i o ho).kind with
  | skip h1 h2 h3 => rw [h3]; simp; exact Nat.min_le_left _ _
  | op v h n H m h1 h2 h3 h4 h5 h6 => rw [h4]; simp; exact ⟨h3, Nat.min_le_left _ _⟩
  | st t a x ad sz h' b h1 h2 h3 h4 h5 h6 h7 h8 h9 h10 => rw [h10]; simp; exact Nat.min_le_left _ _

theorem Run.next_le (R : Run E base ops σ rf lf Vf mf) {i : Nat} : ∀ j, i ≤ j → j ≤ ops.length → (σ i).next ≤ (σ j).next := by
  intro j
  induction j with
  | zero => intro h _; have : i = 0 := by omega
            subst this; exact Nat.le_refl _
  | succ j ih =>
    intro h1 h2
    by_cases e : i = j + 1
    · subst e; exact Nat.le_refl _
    · obtain ⟨o, ho⟩ := getO (ops := ops) (i := j) (by omega)
      exact Nat.le_trans (ih (by omega) (by omega)) (R.next1 ho).1

theorem Run.mw_le (R : Run E base ops σ rf lf Vf mf) {i : Nat} : ∀ j, i ≤ j → j ≤ ops.length → (σ j).mw ≤ (σ i).mw ∧ (σ j).size = (σ i).size := by
  intro j
  induction j with
  | zero => intro h _; have : i = 0 := by omega
            subst this; exact ⟨Nat.le_refl _, rfl⟩
  | succ j ih =>
    intro h1 h2
    by_cases e : i = j + 1
    · subst e; exact ⟨Nat.le_refl _, rfl⟩
    · obtain ⟨o, ho⟩ := getO (ops := ops) (i := j) (by omega)
      have a := ih (by omega) (by omega)
      have b := R.next1 ho
      exact ⟨Nat.le_trans b.2.2 a.1, b.2.1.trans a.2⟩

theorem Run.own_inj (R : Run E base ops σ rf lf Vf mf) {m m' k : Nat} (hm : m < ops.length) (hm' : m' < ops.length) (h : own σ m k) (h' : own σ m' k) : m = m' := by
  refine Classical.byContradiction fun hne => ?_
  have := h.1; have := h.2; have := h'.1; have := h'.2
  rcases Nat.lt_or_gt_of_ne hne with hlt | hlt
  · have := R.next_le (i := m + 1) m' hlt (by omega); omega
  · have := R.next_le (i := m' + 1) m hlt (by omega); omega

theorem Run.own_ex (_R : Run E base ops σ rf lf Vf mf) {k : Nat} : ∀ j, j ≤ ops.length → k < (σ j).next → k < (σ 0).next ∨ ∃ m, m < j ∧ own σ m k := by
  intro j
  induction j with
  | zero => intro _ h; exact .inl h
  | succ j ih =>
    intro hj h
    by_cases hk : k < (σ j).next
    · rcases ih (by omega) hk with h | ⟨m, hm, h⟩
      · exact .inl h
      · exact .inr ⟨m, by omega, h⟩
    · exact .inr ⟨j, by omega, by omega, h⟩

theorem Run.own_ge (R : Run E base ops σ rf lf Vf mf) {m k : Nat} (hm : m < ops.length) (h : own σ m k) : (σ 0).next ≤ k := Nat.le_trans (R.next_le m (Nat.zero_le _) (by omega)) h.1

theorem Run.rg (R : Run E base ops σ rf lf Vf mf) : ∀ i, i ≤ ops.length → ∀ x ∈ rf i, x.1 < i ∧ x.2.1 = (σ x.1).next ∧ x.2.2 = (σ (x.1 + 1)).next := by
  intro i
  induction i with
  | zero => intro _ x hx; rw [R.r0] at hx; cases hx
  | succ i ih =>
    intro hi x hx
    obtain ⟨o, ho⟩ := getO (ops := ops) (i := i) (by omega)
    have h := (R.step i o ho).hrg
    have old : x ∈ rf i → x.1 < i + 1 ∧ x.2.1 = (σ x.1).next ∧ x.2.2 = (σ (x.1 + 1)).next := fun hx => by
      obtain ⟨a, b⟩ := ih (by omega) x hx
      exact ⟨by omega, b⟩
    rcases h with h | h
    · rw [h] at hx; exact old hx
    · rw [h] at hx
      rcases List.mem_cons.1 hx with rfl | hx
      · exact ⟨by omega, rfl, rfl⟩
      · exact old hx

/-- Old, or given by what comes ahead. -/
def PA (ops : List Oper) (σ : Nat → St) (i k : Nat) : Prop := k < (σ 0).next ∨ ∃ m ∈ anc ops i, own σ m k
def PV (ops : List Oper) (σ : Nat → St) (i k : Nat) : Prop := PA ops σ i k ∨ own σ i k

theorem Run.visA (R : Run E base ops σ rf lf Vf mf) {i k : Nat} (hi : i ≤ ops.length) (h : visible (anc ops i) (rf i) (σ 0).next k = true) : PA ops σ i k := by
  rcases visible_spec h with h | ⟨x, hx, h1, h2, h3⟩
  · exact .inl h
  · obtain ⟨_, a, b⟩ := R.rg i hi x hx
    exact .inr ⟨x.1, h3, by rw [← a]; exact h1, by rw [← b]; exact h2⟩

theorem Run.PA_lt (R : Run E base ops σ rf lf Vf mf) {i k : Nat} (hi : i < ops.length) (h : PA ops σ i k) : k < (σ i).next := by
  rcases h with h | ⟨m, hm, h⟩
  · exact Nat.lt_of_lt_of_le h (R.next_le i (Nat.zero_le _) (by omega))
  · have := anc_lt i m hi hm
    exact Nat.lt_of_lt_of_le h.2 (R.next_le i this (by omega))

theorem PV_sub {i m k : Nat} (hi : i < ops.length) (hm : m ∈ anc ops i) (h : PV ops σ m k) : PA ops σ i k := by
  rcases h with (h | ⟨j, hj, h⟩) | h
  · exact .inl h
  · exact .inr ⟨j, anc_trans i m j hi hm hj, h⟩
  · exact .inr ⟨m, hm, h⟩

theorem HWF.sub {D : Nat → Prop} {h g : Heap} (hh : HWF D h) (hs : ∀ k b, getBlk g k = some b → getBlk h k = some b) : HWF D g := fun k b hb => hh k b (hs k b hb)

/-- What an operation looks at. -/
theorem Run.foot (R : Run E base ops σ rf lf Vf mf) {i k : Nat} {b : Blk} (hi : i < ops.length) (hb : getBlk (Vf i) k = some b) : getBlk (σ i).heap k = some b ∧ PA ops σ i k ∧ k < (σ i).next := by
  obtain ⟨o, ho⟩ := getO hi
  obtain ⟨h1, h2, _⟩ := (R.step i o ho).vis k b hb
  have := R.visA (by omega) h2
  exact ⟨h1, this, R.PA_lt hi this⟩

theorem Run.recs (R : Run E base ops σ rf lf Vf mf) : ∀ i, i ≤ ops.length → ∀ j, j < i → Vf j = [] ∨ (j, Vf j, mf j) ∈ lf i := by
  intro i
  induction i with
  | zero => intro _ j h; omega
  | succ i ih =>
    intro hi j hj
    obtain ⟨o, ho⟩ := getO (ops := ops) (i := i) (by omega)
    have h := (R.step i o ho).hrs
    by_cases e : j = i
    · subst e
      rcases h with ⟨h, _⟩ | h
      · exact .inl h
      · exact .inr (by rw [h]; exact List.mem_cons_self ..)
    · rcases ih (by omega) j (by omega) with h2 | h2
      · exact .inl h2
      · rcases h with ⟨_, h⟩ | h
        · exact .inr (by rw [h]; exact h2)
        · exact .inr (by rw [h]; exact List.mem_cons_of_mem _ h2)

/-- What one wrote and another looked at: they are in order. -/
theorem Run.order (R : Run E base ops σ rf lf Vf mf) {i j k : Nat} {b : Blk} (hi : i < ops.length) (hj : j < ops.length) (hne : i ≠ j) (hw : Wr (Vf j) (mf j) k) (hb : getBlk (Vf i) k = some b) : (j < i ∧ j ∈ anc ops i) ∨ (i < j ∧ i ∈ anc ops j) := by
  rcases Nat.lt_or_gt_of_ne hne with hlt | hlt
  · refine .inr ⟨hlt, Classical.byContradiction fun hn => ?_⟩
    obtain ⟨o, ho⟩ := getO hj
    obtain ⟨w1, c, hc⟩ := hw
    rcases R.recs j (by omega) i hlt with h | h
    · rw [h] at hb; simp [getBlk] at hb
    · rcases (R.step j o ho).apart with ha | ha
      · have := (R.foot hj hc).2.2; omega
      · have := apart_spec ha h hn hb
        rw [inW_iff.2 ⟨w1, c, hc⟩] at this; cases this
  · refine .inl ⟨hlt, Classical.byContradiction fun hn => ?_⟩
    obtain ⟨o, ho⟩ := getO hi
    rcases R.recs i (by omega) j hlt with h | h
    · obtain ⟨_, c, hc⟩ := hw
      rw [h] at hc; simp [getBlk] at hc
    · have := free_spec ((R.step i o ho).vis k b hb).2.2 h hn
      rw [inW_iff.2 hw] at this; cases this

theorem Run.ordV (R : Run E base ops σ rf lf Vf mf) {i m k : Nat} {b : Blk} (hi : i < ops.length) (hm : m < ops.length) (hne : i ≠ m) (ht : touch σ Vf mf m k) (hb : getBlk (Vf i) k = some b) : (m < i ∧ m ∈ anc ops i) ∨ (i < m ∧ i ∈ anc ops m) := by
  rcases ht with ht | ht
  · obtain ⟨_, h2, h3⟩ := R.foot hi hb
    rcases h2 with h2 | ⟨l, hl, h2⟩
    · have := R.own_ge hm ht; omega
    · have hll := anc_lt i l hi hl
      have := R.own_inj (by omega) hm h2 ht
      subst this
      exact .inl ⟨hll, hl⟩
  · exact R.order hi hm hne ht hb

theorem Run.ord (R : Run E base ops σ rf lf Vf mf) {i m k : Nat} (hi : i < ops.length) (hm : m < ops.length) (hne : i ≠ m) (ht : touch σ Vf mf m k) (h : touch σ Vf mf i k) : (m < i ∧ m ∈ anc ops i) ∨ (i < m ∧ i ∈ anc ops m) := by
  rcases h with h | ⟨_, b, hb⟩
  · rcases ht with ht | ⟨_, b, hb⟩
    · exact absurd (R.own_inj hi hm h ht) hne
    · exact (R.ordV hm hi hne.symm (.inl h) hb).symm
  · exact R.ordV hi hm hne ht hb

theorem Run.merged (R : Run E base ops σ rf lf Vf mf) {i : Nat} (hi : i < ops.length) {n : Nat} {h H : Heap} (h5 : (∀ k b, getBlk (Vf i) k = some b → k < (σ i).next) → Merged (Vf i) (mf i) (σ i).next n h (σ i).heap H) : Merged (Vf i) (mf i) (σ i).next n h (σ i).heap H :=
  h5 fun _ _ hb => (R.foot hi hb).2.2

theorem Run.swf1 (R : Run E base ops σ rf lf Vf mf) {i : Nat} {o : Oper} (ho : ops[i]? = some o) : SWf E (σ i) (σ (i + 1)) := by
  have hi := ltO ho
  have hok := R.opers i o ho
  cases (R.step i o ho).kind with
  | skip h1 h2 h3 => rw [h3]; exact SWf.skip
  | op v h n H m h1 h2 h3 h4 h5 h6 =>
    obtain ⟨m1, m2, m3⟩ := R.merged hi h5
    rw [h4]
    refine ⟨by simpa using h3, fun D hD hG hT => ?_⟩
    rw [putS_next]
    obtain ⟨a, b⟩ := h2.1.2 D hD hG (fun x hx => by
      obtain ⟨y, hy, rfl⟩ := List.mem_map.1 hx
      exact hT.eval hG (List.all_eq_true.1 hok y hy)) (hT.1.sub fun k b hb => (R.foot hi hb).1)
    refine TWF.put (fun t => (hT.2 t).mono Dp_mono) a ?_
    intro k c hc
    by_cases hw : Wr (Vf i) (mf i) k
    · rw [m1 k hw] at hc; exact b k c hc
    · by_cases hn : (σ i).next ≤ k ∧ k < n
      · rw [m2 k hw hn.1 hn.2, Option.or_eq_some_iff] at hc
        rcases hc with hc | ⟨_, hc⟩
        · exact b k c hc
        · exact (hT.1.mono Dp_mono) k c hc
      · rw [m3 k hw hn] at hc; exact (hT.1.mono Dp_mono) k c hc
  | st t a x ad sz h' b h1 h2 h3 h4 h5 h6 h7 h8 h9 h10 =>
    rw [h10]
    refine ⟨by simp, fun D hD hG hT => ?_⟩
    rw [putS_next]
    have hx := hT.eval hG (List.all_eq_true.1 hok x (by simp [h2, Op.operands]))
    exact TWF.put (fun t => (hT.2 t).mono Dp_mono) WF.undef ((storeO_wf h6 hT.1 hx.cells).mono Dp_mono)

theorem Run.swf (R : Run E base ops σ rf lf Vf mf) {i : Nat} : ∀ j, i ≤ j → j ≤ ops.length → SWf E (σ i) (σ j) := by
  intro j
  induction j with
  | zero => intro h _; have : i = 0 := by omega
            subst this; exact SWf.refl _ _
  | succ j ih =>
    intro h1 h2
    by_cases e : i = j + 1
    · subst e; exact SWf.refl _ _
    · obtain ⟨o, ho⟩ := getO (ops := ops) (i := j) (by omega)
      exact (ih (by omega) (by omega)).trans (R.swf1 ho)

theorem TWF.step {s s' : St} (h : SWf E s s') (hg : E.P.globals.size ≤ s.next) (ht : TWF (· < s.next) s) : TWF (· < s'.next) s' := by
  have hx := h.2 (· < s.next) (fun _ h => h) (fun g hgg => Nat.lt_of_lt_of_le hgg hg) ht
  have hm : ∀ k, Dp (· < s.next) s.next s'.next k → k < s'.next := fun k hk => by
    have := h.1
    rcases hk with hk | hk
    · exact Nat.lt_of_lt_of_le hk this
    · exact hk.2
  exact ⟨hx.1.mono hm, fun t => (hx.2 t).mono hm⟩

theorem Run.twf (R : Run E base ops σ rf lf Vf mf) (hg : E.P.globals.size ≤ (σ 0).next) (ht : TWF (· < (σ 0).next) (σ 0)) {i : Nat} (hi : i ≤ ops.length) : TWF (· < (σ i).next) (σ i) :=
  TWF.step (R.swf i (Nat.zero_le _) hi) hg ht

/-- A step's effect on the blocks that it doesn't touch. -/
theorem Run.heap1 (R : Run E base ops σ rf lf Vf mf) (hg : E.P.globals.size ≤ (σ 0).next) (ht : TWF (· < (σ 0).next) (σ 0)) {i : Nat} {o : Oper} (ho : ops[i]? = some o) {k : Nat} (hh : ¬ touch σ Vf mf i k) : getBlk (σ (i + 1)).heap k = getBlk (σ i).heap k := by
  have hi := ltO ho
  by_cases hk : k < (σ i).next
  · cases (R.step i o ho).kind with
    | skip h1 h2 h3 => rw [h3]; simp
    | op v h n H m h1 h2 h3 h4 h5 h6 =>
      obtain ⟨m1, m2, m3⟩ := R.merged hi h5
      rw [h4, putS_heap]
      exact m3 k (fun hw => hh (.inr hw)) (by omega)
    | st t a x ad sz h' b h1 h2 h3 h4 h5 h6 h7 h8 h9 h10 =>
      rw [h10, putS_heap]
      obtain ⟨b', c, e1, e2, _⟩ := storeO_get h6
      rw [e2, getBlk_set]
      rw [if_neg fun e : k = ad.block => hh (.inr ⟨by rw [h9, e]; exact Nat.le_refl _, b, by rw [h8, getBlk_cons, if_pos e.symm]⟩)]
  · have hk2 : ¬ k < (σ (i + 1)).next := fun h => hh (.inl ⟨by omega, h⟩)
    have none : ∀ j, j ≤ ops.length → ¬ k < (σ j).next → getBlk (σ j).heap k = none := fun j hj hn => by
      cases hgb : getBlk (σ j).heap k with
      | none => rfl
      | some b => exact absurd ((R.twf hg ht hj).1 k b hgb).1 hn
    rw [none i (by omega) hk, none (i + 1) (by omega) hk2]

theorem Run.heapN (R : Run E base ops σ rf lf Vf mf) (hg : E.P.globals.size ≤ (σ 0).next) (ht : TWF (· < (σ 0).next) (σ 0)) {i k : Nat} : ∀ j, i ≤ j → j ≤ ops.length → (∀ m, i ≤ m → m < j → ¬ touch σ Vf mf m k) → getBlk (σ j).heap k = getBlk (σ i).heap k := by
  intro j
  induction j with
  | zero => intro h _ _; have : i = 0 := by omega
            subst this; rfl
  | succ j ih =>
    intro h1 h2 hh
    by_cases e : i = j + 1
    · subst e; rfl
    · obtain ⟨o, ho⟩ := getO (ops := ops) (i := j) (by omega)
      rw [R.heap1 hg ht ho (hh j (by omega) (by omega)), ih (by omega) (by omega) fun m a b => hh m a (by omega)]

theorem Run.wr_mw (R : Run E base ops σ rf lf Vf mf) {i k : Nat} (hi : i < ops.length) (hw : Wr (Vf i) (mf i) k) : (σ ops.length).mw ≤ k := by
  obtain ⟨o, ho⟩ := getO hi
  have h1 := (R.mw_le (i := i + 1) ops.length (by omega) (Nat.le_refl _)).1
  obtain ⟨w1, b, hb⟩ := hw
  have hlow := (R.foot hi hb).2.2
  cases (R.step i o ho).kind with
  | skip _ h2 _ => rw [h2] at hb; simp [getBlk] at hb
  | op v h n H m _ h2 h3 h4 h5 h6 =>
    rcases h6 with h6 | h6
    · omega
    · have : (σ (i + 1)).mw ≤ m := by rw [h4, putS_mw]; exact Nat.min_le_right _ _
      omega
  | st t a x ad sz h' b h1 h2 h3 h4 h5 h6 h7 h8 h9 h10 =>
    have : (σ (i + 1)).mw ≤ ad.block := by rw [h10, putS_mw]; exact Nat.min_le_right _ _
    omega

theorem Run.df1 (R : Run E base ops σ rf lf Vf mf) {i : Nat} {o : Oper} (ho : ops[i]? = some o) : (σ (i + 1)).df = (σ i).df := by
  cases (R.step i o ho).kind with
  | skip h1 h2 h3 => rw [h3, putS_df]
  | op v h n H m h1 h2 h3 h4 h5 h6 => rw [h4, putS_df]
  | st t a x ad sz h' b h1 h2 h3 h4 h5 h6 h7 h8 h9 h10 => rw [h10, putS_df]

theorem Run.df (R : Run E base ops σ rf lf Vf mf) : ∀ j, j ≤ ops.length → (σ j).df = (σ 0).df := by
  intro j
  induction j with
  | zero => intro _; rfl
  | succ j ih =>
    intro h
    obtain ⟨o, ho⟩ := getO (ops := ops) (i := j) (by omega)
    rw [R.df1 ho, ih (by omega)]

/-! Slots -/

theorem Run.slot1 (R : Run E base ops σ rf lf Vf mf) {i : Nat} {o : Oper} (ho : ops[i]? = some o) {t : Nat} (hd : o.dst ≠ some t) : getTmp (σ (i + 1)).tmps t = getTmp (σ i).tmps t := by
  cases (R.step i o ho).kind with
  | skip h1 h2 h3 => rw [h3, getTmp_put, if_neg hd]
  | op v h n H m h1 h2 h3 h4 h5 h6 => rw [h4, getTmp_put, if_neg hd]
  | st t' a x ad sz h' b h1 h2 h3 h4 h5 h6 h7 h8 h9 h10 => rw [h10, getTmp_put, if_neg hd]

theorem Run.slotA (R : Run E base ops σ rf lf Vf mf) {i t : Nat} : ∀ j, i ≤ j → j ≤ ops.length → (∀ m o, i ≤ m → m < j → ops[m]? = some o → o.dst ≠ some t) → getTmp (σ j).tmps t = getTmp (σ i).tmps t := by
  intro j
  induction j with
  | zero => intro h _ _; have : i = 0 := by omega
            subst this; rfl
  | succ j ih =>
    intro h1 h2 hh
    by_cases e : i = j + 1
    · subst e; rfl
    · obtain ⟨o, ho⟩ := getO (ops := ops) (i := j) (by omega)
      rw [R.slot1 ho (hh j o (by omega) (by omega) ho), ih (by omega) (by omega) fun m o a b => hh m o a (by omega)]

theorem Run.told1 (R : Run E base ops σ rf lf Vf mf) {i : Nat} {o : Oper} (ho : ops[i]? = some o) {t : Nat} (hd : o.dst ≠ some t) (h : ToldE E (σ (i + 1)) t) : ToldE E (σ i) t := by
  cases (R.step i o ho).kind with
  | skip h1 h2 h3 => rw [h3] at h; exact h.of_put hd
  | op v h' n H m h1 h2 h3 h4 h5 h6 => rw [h4] at h; exact h.of_put hd
  | st t' a x ad sz h' b h1 h2 h3 h4 h5 h6 h7 h8 h9 h10 => rw [h10] at h; exact h.of_put hd

theorem Run.toldA (R : Run E base ops σ rf lf Vf mf) {t : Nat} : ∀ j, j ≤ ops.length → (∀ m o, m < j → ops[m]? = some o → o.dst ≠ some t) → ToldE E (σ j) t → ToldE E (σ 0) t := by
  intro j
  induction j with
  | zero => intro _ _ h; exact h
  | succ j ih =>
    intro h2 hh h
    obtain ⟨o, ho⟩ := getO (ops := ops) (i := j) (by omega)
    exact ih (by omega) (fun m o a => hh m o (by omega)) (R.told1 ho (hh j o (by omega) ho) h)

theorem Run.slotB (R : Run E base ops σ rf lf Vf mf) {m t : Nat} {p : Oper} (hp : ops[m]? = some p) (hd : p.dst = some t) {j : Nat} (h1 : m < j) (h2 : j ≤ ops.length) : getTmp (σ j).tmps t = getTmp (σ (m + 1)).tmps t :=
  R.slotA j h1 h2 fun l o h3 _ ho e => by
    have := R.static.dst l o m p t ho hp e hd
    omega

/-! What hangs on which names, to the name -/

/-- What an operation told of is what stands there. -/
theorem Run.heapT (R : Run E base ops σ rf lf Vf mf) (hg : E.P.globals.size ≤ (σ 0).next) (ht : TWF (· < (σ 0).next) (σ 0)) {i k n : Nat} {h H : Heap} (hi : i < ops.length) (hn : (σ (i + 1)).next = n) (hH : (σ (i + 1)).heap = H)
    (hm : Merged (Vf i) (mf i) (σ i).next n h (σ i).heap H) (hk : touch σ Vf mf i k) : getBlk (σ (i + 1)).heap k = getBlk h k := by
  obtain ⟨m1, m2, m3⟩ := hm
  rw [hH]
  by_cases hw : Wr (Vf i) (mf i) k
  · exact m1 k hw
  · rcases hk with hk | hk
    · have hold : getBlk (σ i).heap k = none := by
        cases hgb : getBlk (σ i).heap k with
        | none => rfl
        | some b => have := ((R.twf hg ht (i := i) (by omega)).1 k b hgb).1; have := hk.1; omega
      rw [m2 k hw hk.1 (by rw [← hn]; exact hk.2), hold, Option.or_none]
    · exact absurd hk hw

theorem Run.wfV (R : Run E base ops σ rf lf Vf mf) (hg : E.P.globals.size ≤ (σ 0).next) (ht : TWF (· < (σ 0).next) (σ 0)) : ∀ (i : Nat) o, ops[i]? = some o →
    (∀ t, o.dst = some t → WF (PV ops σ i) (getTmp (σ (i + 1)).tmps t)) ∧ (∀ k b, touch σ Vf mf i k → getBlk (σ (i + 1)).heap k = some b → ∀ v, some v ∈ b.cells → WF (PV ops σ i) v) ∧
    (∀ x ∈ o.op.operands.toList, WF (PA ops σ i) (evalO (σ i).tmps x)) := by
  intro i
  induction i using Nat.strongRecOn with
  | _ i ih =>
    intro o ho
    have hi := ltO ho
    have hok := R.opers i o ho
    have hopd : ∀ x ∈ o.op.operands.toList, WF (PA ops σ i) (evalO (σ i).tmps x) := by
      intro x hx
      have hxo := List.all_eq_true.1 hok x hx
      cases x with
      | const v => exact WF.pure hxo
      | func f => exact WF.func0 _
      | global g => exact WF.ptr.2 (.inl (Nat.lt_of_lt_of_le (by simpa [opdOk, Nat.blt_eq] using hxo) hg))
      | tmp t =>
        show WF _ (getTmp (σ i).tmps t)
        by_cases hex : ∃ j p, j < i ∧ ops[j]? = some p ∧ p.dst = some t
        · obtain ⟨j, p, hj, hp, hd⟩ := hex
          rcases R.static.opd i o t j p ho hx hp hd with h | h | h
          · rw [R.slotB hp hd hj (by omega)]
            exact ((ih j hj p hp).1 t hd).mono fun k hk => PV_sub hi h hk
          · omega
          · have := anc_lt j i (ltO hp) h; omega
        · rw [R.slotA (i := 0) i (Nat.zero_le _) (by omega) fun m p _ hm hp e => hex ⟨m, p, hm, hp, e⟩]
          exact (ht.2 t).mono fun k hk => .inl hk
    have hV : HWF (PA ops σ i) (Vf i) := by
      intro k b hb
      obtain ⟨f1, f2, f3⟩ := R.foot hi hb
      refine ⟨f2, fun u hu => ?_⟩
      rcases last_of (fun m => touch σ Vf mf m k) i with ⟨m, h1, h2, h3⟩ | h
      · obtain ⟨p, hp⟩ := getO (ops := ops) (i := m) (by omega)
        rw [R.heapN hg ht (i := m + 1) i (by omega) (by omega) fun l l1 l2 => h3 l (by omega) l2] at f1
        have hanc : m ∈ anc ops i := by
          rcases R.ordV hi (by omega) (by omega) h2 hb with h | h
          · exact h.2
          · omega
        exact ((ih m h1 p hp).2.1 k b h2 f1 u hu).mono fun k hk => PV_sub hi hanc hk
      · rw [R.heapN hg ht (i := 0) i (Nat.zero_le _) (by omega) fun l _ l2 => h l l2] at f1
        exact ((ht.1 k b f1).2 u hu).mono fun k hk => .inl hk
    cases (R.step i o ho).kind with
    | skip h1 h2 h3 =>
      refine ⟨fun t hd => ?_, fun k b hk => ?_, hopd⟩
      · rw [h3, getTmp_put, if_pos hd]; exact WF.undef
      · rcases hk with hk | ⟨_, c, hc⟩
        · have := hk.1; have := hk.2; rw [h3, putS_next] at this; omega
        · rw [h2] at hc; simp [getBlk] at hc
    | op v h n H m h1 h2 h3 h4 h5 h6 =>
      have hM := R.merged hi h5
      obtain ⟨w1, w2⟩ := h2.1.2 (PA ops σ i) (fun k hk => R.PA_lt hi hk) (fun g hgg => .inl (Nat.lt_of_lt_of_le hgg hg)) (fun y hy => by
        obtain ⟨x, hx, rfl⟩ := List.mem_map.1 hy
        exact hopd x hx) hV
      have hn : (σ (i + 1)).next = n := by rw [h4, putS_next]
      have hm : ∀ k, Dp (PA ops σ i) (σ i).next n k → PV ops σ i k := fun k hk => by
        rcases hk with hk | hk
        · exact .inl hk
        · exact .inr ⟨hk.1, by rw [hn]; exact hk.2⟩
      refine ⟨fun t hd => ?_, fun k b hk hb u hu => ?_, hopd⟩
      · rw [h4, getTmp_put, if_pos hd]; exact w1.mono hm
      · rw [R.heapT hg ht hi hn (by rw [h4, putS_heap]) hM hk] at hb
        exact ((w2 k b hb).2 u hu).mono hm
    | st t' a x ad sz h' b h1 h2 h3 h4 h5 h6 h7 h8 h9 h10 =>
      refine ⟨fun t hd => ?_, fun k d hk hd u hu => ?_, hopd⟩
      · rw [h10, getTmp_put, if_pos hd]; exact WF.undef
      · rcases hk with hk | ⟨_, c, hc⟩
        · have := hk.1; have := hk.2; rw [h10, putS_next] at this; omega
        · obtain ⟨b', c', e1, e2, e3⟩ := storeO_get h6
          rw [h7] at e1
          cases e1
          have hVb : getBlk (Vf i) ad.block = some b := by rw [h8, getBlk_cons, if_pos rfl]
          have hs := storeO_wf (e3 (Vf i) hVb) hV ((hopd x (by simp [h2, Op.operands])).cells)
          have hke : k = ad.block := by
            rw [h8, getBlk_cons] at hc
            split at hc
            · rename_i e; exact e.symm
            · simp [getBlk] at hc
          subst hke
          rw [h10, putS_heap, e2, getBlk_set, if_pos rfl, h7] at hd
          refine ((hs ad.block d ?_).2 u hu).mono fun k hk => .inl hk
          rw [getBlk_set, if_pos rfl, hVb]
          exact hd

end
end Go.Pe
