/-
  The evaluator's soundness, tenth part: regions whose order is drawn: facts of the run.
-/
import Derived.Test.YtolniekeocnanaaGreatDoorPeK
namespace Go.Pe
open Go Go.RowKit

theorem storeO_get {h h' : Heap} {ad : Addr} {vs : List Value} (hs : storeO h ad vs = some h') :
    ∃ b c, getBlk h ad.block = some b ∧ h' = setBlk h ad.block c ∧ ∀ g, getBlk g ad.block = some b → storeO g ad vs = some (setBlk g ad.block c) := by
  unfold storeO at hs
  split at hs
  · cases hs
  · rename_i hsp
    split at hs
    · cases hs
    · rename_i b hb
      split at hs
      · rename_i ho hi
        split at hs
        · rename_i cs h1 h2
          cases hs
          refine ⟨b, _, hb, rfl, fun g hg => ?_⟩
          unfold storeO
          simp only [hsp, hg, ho, hi, h1, h2]
        · cases hs
      · cases hs

section
variable {E : Env} {base : World} {ops : List Oper} {σ : Nat → St} {rf : Nat → List (Nat × Nat × Nat)} {lf : Nat → List (Nat × Nat)}

structure Run (E : Env) (base : World) (ops : List Oper) (σ : Nat → St) (rf : Nat → List (Nat × Nat × Nat)) (lf : Nat → List (Nat × Nat)) : Prop where
  static : Static ops
  opers : ∀ (i : Nat) o, ops[i]? = some o → operOk E.P.globals.size o = true
  r0 : rf 0 = []
  step : ∀ (i : Nat) o, ops[i]? = some o → DStep E base ops (σ 0).next o i (rf i) (rf (i + 1)) (lf i) (lf (i + 1)) (σ i) (σ (i + 1))

def own (σ : Nat → St) (m k : Nat) : Prop := (σ m).next ≤ k ∧ k < (σ (m + 1)).next

/-- A store that is carried out, of a block. -/
def Hits (ops : List Oper) (σ : Nat → St) (i k : Nat) : Prop :=
  ∃ o t a x ad, ops[i]? = some o ∧ o.op = .store t a x ∧ evalO (σ i).tmps a = .pointer (some ad) ∧ ad.block = k ∧ Region.wanted o (guardV ops (σ i).tmps) = true

theorem getO {i : Nat} (h : i < ops.length) : ∃ o, ops[i]? = some o := ⟨_, List.getElem?_eq_getElem h⟩
theorem ltO {i : Nat} {o : Oper} (h : ops[i]? = some o) : i < ops.length := (List.getElem?_eq_some_iff.1 h).1

theorem Run.next1 (R : Run E base ops σ rf lf) {i : Nat} {o : Oper} (ho : ops[i]? = some o) : (σ i).next ≤ (σ (i + 1)).next ∧ (σ (i + 1)).size = (σ i).size ∧ (σ (i + 1)).mw ≤ (σ i).mw := by
  obtain ⟨_, _, _, h⟩ := R.step i o ho
  rcases h with ⟨_, h⟩ | ⟨_, ⟨_, V, v, h, n, mw, H, _, _, _, h4, h5⟩ | ⟨_, t, a, x, ad, sz, h', _, _, _, _, _, _, _, h⟩⟩
  · rw [h]; simp; exact Nat.min_le_left _ _
  · rw [h4]; simp
    refine ⟨?_, Nat.min_le_left _ _⟩
    rcases h5 with ⟨_, h5⟩ | ⟨_, h5, _⟩ <;> omega
  · rw [h]; simp; exact Nat.min_le_left _ _

theorem Run.next_le (R : Run E base ops σ rf lf) {i : Nat} : ∀ j, i ≤ j → j ≤ ops.length → (σ i).next ≤ (σ j).next := by
  intro j
  induction j with
  | zero => intro h _; have : i = 0 := by omega
            subst this; exact Nat.le_refl _
  | succ j ih =>
    intro h1 h2
    by_cases e : i = j + 1
    · subst e; exact Nat.le_refl _
    · obtain ⟨o, ho⟩ := getO (ops := ops) (i := j) (by omega)
      exact Nat.le_trans (ih (by omega) (by omega)) (R.next1 ho).1

theorem Run.mw_le (R : Run E base ops σ rf lf) {i : Nat} : ∀ j, i ≤ j → j ≤ ops.length → (σ j).mw ≤ (σ i).mw ∧ (σ j).size = (σ i).size := by
  intro j
  induction j with
  | zero => intro h _; have : i = 0 := by omega
            subst this; exact ⟨Nat.le_refl _, rfl⟩
  | succ j ih =>
    intro h1 h2
    by_cases e : i = j + 1
    · subst e; exact ⟨Nat.le_refl _, rfl⟩
    · obtain ⟨o, ho⟩ := getO (ops := ops) (i := j) (by omega)
      have a := ih (by omega) (by omega)
      have b := R.next1 ho
      exact ⟨Nat.le_trans b.2.2 a.1, b.2.1.trans a.2⟩

theorem Run.own_inj (R : Run E base ops σ rf lf) {m m' k : Nat} (hm : m < ops.length) (hm' : m' < ops.length) (h : own σ m k) (h' : own σ m' k) : m = m' := by
  refine Classical.byContradiction fun hne => ?_
  have := h.1; have := h.2; have := h'.1; have := h'.2
  rcases Nat.lt_or_gt_of_ne hne with hlt | hlt
  · have := R.next_le (i := m + 1) m' hlt (by omega); omega
  · have := R.next_le (i := m' + 1) m hlt (by omega); omega

theorem Run.own_ex (_R : Run E base ops σ rf lf) {k : Nat} : ∀ j, j ≤ ops.length → k < (σ j).next → k < (σ 0).next ∨ ∃ m, m < j ∧ own σ m k := by
  intro j
  induction j with
  | zero => intro _ h; exact .inl h
  | succ j ih =>
    intro hj h
    by_cases hk : k < (σ j).next
    · rcases ih (by omega) hk with h | ⟨m, hm, h⟩
      · exact .inl h
      · exact .inr ⟨m, by omega, h⟩
    · exact .inr ⟨j, by omega, by omega, h⟩

theorem Run.own_ge (R : Run E base ops σ rf lf) {m k : Nat} (hm : m < ops.length) (h : own σ m k) : (σ 0).next ≤ k := Nat.le_trans (R.next_le m (Nat.zero_le _) (by omega)) h.1

theorem Run.rg (R : Run E base ops σ rf lf) : ∀ i, i ≤ ops.length → ∀ x ∈ rf i, x.1 < i ∧ x.2.1 = (σ x.1).next ∧ x.2.2 = (σ (x.1 + 1)).next := by
  intro i
  induction i with
  | zero => intro _ x hx; rw [R.r0] at hx; cases hx
  | succ i ih =>
    intro hi x hx
    obtain ⟨o, ho⟩ := getO (ops := ops) (i := i) (by omega)
    obtain ⟨_, h, _⟩ := R.step i o ho
    have old : x ∈ rf i → x.1 < i + 1 ∧ x.2.1 = (σ x.1).next ∧ x.2.2 = (σ (x.1 + 1)).next := fun hx => by
      obtain ⟨a, b⟩ := ih (by omega) x hx
      exact ⟨by omega, b⟩
    rcases h with h | h
    · rw [h] at hx; exact old hx
    · rw [h] at hx
      rcases List.mem_cons.1 hx with rfl | hx
      · exact ⟨by omega, rfl, rfl⟩
      · exact old hx

/-- Old, or given by what comes ahead. -/
def PA (ops : List Oper) (σ : Nat → St) (i k : Nat) : Prop := k < (σ 0).next ∨ ∃ m ∈ anc ops i, own σ m k
def PV (ops : List Oper) (σ : Nat → St) (i k : Nat) : Prop := PA ops σ i k ∨ own σ i k

theorem Run.vis (R : Run E base ops σ rf lf) {i k : Nat} (hi : i ≤ ops.length) (h : visible (anc ops i) (rf i) (σ 0).next k = true) : PA ops σ i k := by
  rcases visible_spec h with h | ⟨x, hx, h1, h2, h3⟩
  · exact .inl h
  · obtain ⟨_, a, b⟩ := R.rg i hi x hx
    exact .inr ⟨x.1, h3, by rw [← a]; exact h1, by rw [← b]; exact h2⟩

theorem Run.PA_lt (R : Run E base ops σ rf lf) {i k : Nat} (hi : i < ops.length) (h : PA ops σ i k) : k < (σ i).next := by
  rcases h with h | ⟨m, hm, h⟩
  · exact Nat.lt_of_lt_of_le h (R.next_le i (Nat.zero_le _) (by omega))
  · have := anc_lt i m hi hm
    exact Nat.lt_of_lt_of_le h.2 (R.next_le i this (by omega))

theorem PV_sub {i m k : Nat} (hi : i < ops.length) (hm : m ∈ anc ops i) (h : PV ops σ m k) : PA ops σ i k := by
  rcases h with (h | ⟨j, hj, h⟩) | h
  · exact .inl h
  · exact .inr ⟨j, anc_trans i m j hi hm hj, h⟩
  · exact .inr ⟨m, hm, h⟩

theorem Run.lmono (R : Run E base ops σ rf lf) {i : Nat} {x : Nat × Nat} : ∀ j, i ≤ j → j ≤ ops.length → x ∈ lf i → x ∈ lf j := by
  intro j
  induction j with
  | zero => intro h _ hx; have : i = 0 := by omega
            subst this; exact hx
  | succ j ih =>
    intro h1 h2 hx
    by_cases e : i = j + 1
    · subst e; exact hx
    · obtain ⟨o, ho⟩ := getO (ops := ops) (i := j) (by omega)
      exact (R.step j o ho).2.2.1 x (ih (by omega) (by omega) hx)

theorem HWF.sub {D : Nat → Prop} {h g : Heap} (hh : HWF D h) (hs : ∀ k b, getBlk g k = some b → getBlk h k = some b) : HWF D g := fun k b hb => hh k b (hs k b hb)

theorem Run.swf1 (R : Run E base ops σ rf lf) {i : Nat} {o : Oper} (ho : ops[i]? = some o) : SWf E (σ i) (σ (i + 1)) := by
  obtain ⟨_, _, _, h⟩ := R.step i o ho
  have hok := R.opers i o ho
  rcases h with ⟨_, h⟩ | ⟨_, ⟨_, V, v, h, n, mw, H, h1, h2, h3, h4, h5⟩ | ⟨_, t, a, x, ad, sz, h', g1, g2, g3, g4, g5, _, _, h⟩⟩
  · rw [h]; exact SWf.skip
  · rw [h4]
    have hn : (σ i).next ≤ n := by rcases h5 with ⟨_, h5⟩ | ⟨_, h5, _⟩ <;> omega
    refine ⟨by simpa using hn, fun D hD hG hT => ?_⟩
    rw [putS_next]
    obtain ⟨a, b⟩ := h1.1.2 D hD hG (fun x hx => by
      obtain ⟨y, hy, rfl⟩ := List.mem_map.1 hx
      exact hT.eval hG (List.all_eq_true.1 hok y hy)) (hT.1.sub fun k b hb => (h3 k b hb).2.1)
    refine TWF.put (fun t => (hT.2 t).mono Dp_mono) a ?_
    rcases h5 with ⟨rfl, _⟩ | ⟨_, _, rfl⟩
    · exact hT.1.mono Dp_mono
    · intro k c hc
      rw [getBlk_append, getBlk_keepH] at hc
      rw [Option.or_eq_some_iff] at hc
      rcases hc with hc | ⟨_, hc⟩
      · split at hc
        · exact b k c hc
        · cases hc
      · exact (hT.1.mono Dp_mono) k c hc
  · rw [h]
    refine ⟨by simp, fun D hD hG hT => ?_⟩
    rw [putS_next]
    have hx := hT.eval hG (List.all_eq_true.1 hok x (by simp [g1, Op.operands]))
    exact TWF.put (fun t => (hT.2 t).mono Dp_mono) WF.undef ((storeO_wf g5 hT.1 hx.cells).mono Dp_mono)

theorem Run.swf (R : Run E base ops σ rf lf) {i : Nat} : ∀ j, i ≤ j → j ≤ ops.length → SWf E (σ i) (σ j) := by
  intro j
  induction j with
  | zero => intro h _; have : i = 0 := by omega
            subst this; exact SWf.refl _ _
  | succ j ih =>
    intro h1 h2
    by_cases e : i = j + 1
    · subst e; exact SWf.refl _ _
    · obtain ⟨o, ho⟩ := getO (ops := ops) (i := j) (by omega)
      exact (ih (by omega) (by omega)).trans (R.swf1 ho)

theorem TWF.step {s s' : St} (h : SWf E s s') (hg : E.P.globals.size ≤ s.next) (ht : TWF (· < s.next) s) : TWF (· < s'.next) s' := by
  have hx := h.2 (· < s.next) (fun _ h => h) (fun g hgg => Nat.lt_of_lt_of_le hgg hg) ht
  have hm : ∀ k, Dp (· < s.next) s.next s'.next k → k < s'.next := fun k hk => by
    have := h.1
    rcases hk with hk | hk
    · exact Nat.lt_of_lt_of_le hk this
    · exact hk.2
  exact ⟨hx.1.mono hm, fun t => (hx.2 t).mono hm⟩

theorem Run.twf (R : Run E base ops σ rf lf) (hg : E.P.globals.size ≤ (σ 0).next) (ht : TWF (· < (σ 0).next) (σ 0)) {i : Nat} (hi : i ≤ ops.length) : TWF (· < (σ i).next) (σ i) :=
  TWF.step (R.swf i (Nat.zero_le _) hi) hg ht

/-- A step's effect on the old blocks. -/
theorem Run.heap1 (R : Run E base ops σ rf lf) {i : Nat} {o : Oper} (ho : ops[i]? = some o) {k : Nat} (hk : k < (σ i).next) (hh : ¬ Hits ops σ i k) : getBlk (σ (i + 1)).heap k = getBlk (σ i).heap k := by
  obtain ⟨_, _, _, h⟩ := R.step i o ho
  rcases h with ⟨_, h⟩ | ⟨hw, ⟨_, V, v, h, n, mw, H, h1, h2, h3, h4, h5⟩ | ⟨_, t, a, x, ad, sz, h', g1, g2, g3, g4, g5, _, _, h⟩⟩
  · rw [h]; simp
  · rw [h4, putS_heap]
    rcases h5 with ⟨rfl, _⟩ | ⟨_, _, rfl⟩
    · rfl
    · rw [getBlk_append, getBlk_keepH]
      have : Nat.ble (σ i).next k = false := by
        cases hb : Nat.ble (σ i).next k with
        | false => rfl
        | true => have := ble_true hb; omega
      simp [this]
  · rw [h, putS_heap]
    obtain ⟨b, c, e1, e2, _⟩ := storeO_get g5
    rw [e2, getBlk_set]
    rw [if_neg fun e : k = ad.block => hh ⟨o, t, a, x, ad, ho, g1, g2, e.symm, hw⟩]

theorem Run.heapN (R : Run E base ops σ rf lf) {i k : Nat} (hk : k < (σ i).next) : ∀ j, i ≤ j → j ≤ ops.length → (∀ m, i ≤ m → m < j → ¬ Hits ops σ m k) → getBlk (σ j).heap k = getBlk (σ i).heap k := by
  intro j
  induction j with
  | zero => intro h _ _; have : i = 0 := by omega
            subst this; rfl
  | succ j ih =>
    intro h1 h2 hh
    by_cases e : i = j + 1
    · subst e; rfl
    · obtain ⟨o, ho⟩ := getO (ops := ops) (i := j) (by omega)
      rw [R.heap1 ho (Nat.lt_of_lt_of_le hk (R.next_le j (by omega) (by omega))) (hh j (by omega) (by omega)), ih (by omega) (by omega) fun m a b => hh m a (by omega)]

theorem Hits.cls {i k : Nat} {o : Oper} (h : Hits ops σ i k) (ho : ops[i]? = some o) : clsOf o.op = 2 := by
  obtain ⟨p, t, a, x, ad, h1, h2, _⟩ := h
  rw [ho] at h1
  cases h1
  rw [h2]; rfl

theorem Run.hit (R : Run E base ops σ rf lf) {i k : Nat} (h : Hits ops σ i k) : i < ops.length ∧ PA ops σ i k ∧ apartL (anc ops i) k (lf i) = true := by
  obtain ⟨o, t, a, x, ad, ho, h2, h3, h4, h5⟩ := h
  have hi := ltO ho
  obtain ⟨_, _, _, h⟩ := R.step i o ho
  rcases h with ⟨h, _⟩ | ⟨_, ⟨h, _⟩ | ⟨_, t', a', x', ad', sz, h', g1, g2, g3, g4, g5, g6, g7, _⟩⟩
  · rw [h] at h5; cases h5
  · rw [h2] at h; exact absurd rfl h
  · rw [h2] at g1
    cases g1
    rw [h3] at g2
    cases g2
    subst h4
    exact ⟨hi, R.vis (by omega) g6, g7⟩

theorem Run.df1 (R : Run E base ops σ rf lf) {i : Nat} {o : Oper} (ho : ops[i]? = some o) : (σ (i + 1)).df = (σ i).df := by
  obtain ⟨_, _, _, h⟩ := R.step i o ho
  rcases h with ⟨_, h⟩ | ⟨_, ⟨_, V, v, h, n, mw, H, _, _, _, h4, _⟩ | ⟨_, t, a, x, ad, sz, h', _, _, _, _, _, _, _, h⟩⟩
  · rw [h, putS_df]
  · rw [h4, putS_df]
  · rw [h, putS_df]

theorem Run.df (R : Run E base ops σ rf lf) : ∀ j, j ≤ ops.length → (σ j).df = (σ 0).df := by
  intro j
  induction j with
  | zero => intro _; rfl
  | succ j ih =>
    intro h
    obtain ⟨o, ho⟩ := getO (ops := ops) (i := j) (by omega)
    rw [R.df1 ho, ih (by omega)]

/-! Slots -/

theorem Run.slot1 (R : Run E base ops σ rf lf) {i : Nat} {o : Oper} (ho : ops[i]? = some o) {t : Nat} (hd : o.dst ≠ some t) : getTmp (σ (i + 1)).tmps t = getTmp (σ i).tmps t := by
  obtain ⟨_, _, _, h⟩ := R.step i o ho
  rcases h with ⟨_, h⟩ | ⟨_, ⟨_, V, v, h, n, mw, H, h1, h2, h3, h4, h5⟩ | ⟨_, t', a, x, ad, sz, h', g1, g2, g3, g4, g5, _, _, h⟩⟩
  · rw [h, getTmp_put, if_neg hd]
  · rw [h4, getTmp_put, if_neg hd]
  · rw [h, getTmp_put, if_neg hd]

theorem Run.slotA (R : Run E base ops σ rf lf) {i t : Nat} : ∀ j, i ≤ j → j ≤ ops.length → (∀ m o, i ≤ m → m < j → ops[m]? = some o → o.dst ≠ some t) → getTmp (σ j).tmps t = getTmp (σ i).tmps t := by
  intro j
  induction j with
  | zero => intro h _ _; have : i = 0 := by omega
            subst this; rfl
  | succ j ih =>
    intro h1 h2 hh
    by_cases e : i = j + 1
    · subst e; rfl
    · obtain ⟨o, ho⟩ := getO (ops := ops) (i := j) (by omega)
      rw [R.slot1 ho (hh j o (by omega) (by omega) ho), ih (by omega) (by omega) fun m o a b => hh m o a (by omega)]

theorem Run.slotB (R : Run E base ops σ rf lf) {m t : Nat} {p : Oper} (hp : ops[m]? = some p) (hd : p.dst = some t) {j : Nat} (h1 : m < j) (h2 : j ≤ ops.length) : getTmp (σ j).tmps t = getTmp (σ (m + 1)).tmps t :=
  R.slotA j h1 h2 fun l o h3 _ ho e => by
    have := R.static.dst l o m p t ho hp e hd
    omega

/-! What hangs on which names, to the name -/

theorem Run.wfV (R : Run E base ops σ rf lf) (hg : E.P.globals.size ≤ (σ 0).next) (ht : TWF (· < (σ 0).next) (σ 0)) : ∀ (i : Nat) o, ops[i]? = some o →
    (∀ t, o.dst = some t → WF (PV ops σ i) (getTmp (σ (i + 1)).tmps t)) ∧ (∀ k b, own σ i k → getBlk (σ (i + 1)).heap k = some b → ∀ v, some v ∈ b.cells → WF (PV ops σ i) v) ∧
    (∀ x ∈ o.op.operands.toList, WF (PA ops σ i) (evalO (σ i).tmps x)) := by
  intro i
  induction i using Nat.strongRecOn with
  | _ i ih =>
    intro o ho
    have hi := ltO ho
    have hok := R.opers i o ho
    have hopd : ∀ x ∈ o.op.operands.toList, WF (PA ops σ i) (evalO (σ i).tmps x) := by
      intro x hx
      have hxo := List.all_eq_true.1 hok x hx
      cases x with
      | const v => exact WF.pure hxo
      | func f => exact WF.func0 _
      | global g => exact WF.ptr.2 (.inl (Nat.lt_of_lt_of_le (by simpa [opdOk, Nat.blt_eq] using hxo) hg))
      | tmp t =>
        show WF _ (getTmp (σ i).tmps t)
        by_cases hex : ∃ j p, j < i ∧ ops[j]? = some p ∧ p.dst = some t
        · obtain ⟨j, p, hj, hp, hd⟩ := hex
          rcases R.static.opd i o t j p ho hx hp hd with h | h | h
          · rw [R.slotB hp hd hj (by omega)]
            exact ((ih j hj p hp).1 t hd).mono fun k hk => PV_sub hi h hk
          · omega
          · have := anc_lt j i (ltO hp) h; omega
        · rw [R.slotA (i := 0) i (Nat.zero_le _) (by omega) fun m p _ hm hp e => hex ⟨m, p, hm, hp, e⟩]
          exact (ht.2 t).mono fun k hk => .inl hk
    obtain ⟨_, _, _, h⟩ := R.step i o ho
    rcases h with ⟨_, h⟩ | ⟨_, ⟨hc2, V, v, h, n, mw, H, h1, h2, h3, h4, h5⟩ | ⟨_, t', a, x, ad, sz, h', g1, g2, g3, g4, g5, _, _, h⟩⟩
    · refine ⟨fun t hd => ?_, fun k b hk => ?_, hopd⟩
      · rw [h, getTmp_put, if_pos hd]; exact WF.undef
      · have := hk.1; have := hk.2; rw [h, putS_next] at this; omega
    · have hV : HWF (PA ops σ i) V := by
        intro k b hb
        obtain ⟨q1, q2, q3, q4⟩ := h3 k b hb
        have hp := R.vis (by omega) q1
        refine ⟨hp, fun u hu => ?_⟩
        have nohit : ∀ m, m < i → ∀ k, ¬ Hits ops σ m k := fun m hm k hh => by
          obtain ⟨p, hp⟩ := getO (ops := ops) (i := m) (by omega)
          exact R.static.hv i o m p ho q4 hc2 hp hm (hh.cls hp)
        rcases hp with hp | ⟨m, hm, hp⟩
        · rw [R.heapN (i := 0) hp i (Nat.zero_le _) (by omega) fun m _ hm => nohit m hm k] at q2
          exact ((ht.1 k b q2).2 u hu).mono fun k hk => .inl hk
        · have hlt := anc_lt i m hi hm
          obtain ⟨p, hpp⟩ := getO (ops := ops) (i := m) (by omega)
          rw [R.heapN (i := m + 1) hp.2 i hlt (by omega) fun m _ hm => nohit m hm k] at q2
          exact ((ih m hlt p hpp).2.1 k b hp q2 u hu).mono fun k hk => PV_sub hi hm hk
      obtain ⟨w1, w2⟩ := h1.1.2 (PA ops σ i) (fun k hk => R.PA_lt hi hk) (fun g hgg => .inl (Nat.lt_of_lt_of_le hgg hg)) (fun y hy => by
        obtain ⟨x, hx, rfl⟩ := List.mem_map.1 hy
        exact hopd x hx) hV
      have hn : (σ (i + 1)).next = n := by rw [h4, putS_next]
      have hm : ∀ k, Dp (PA ops σ i) (σ i).next n k → PV ops σ i k := fun k hk => by
        rcases hk with hk | hk
        · exact .inl hk
        · exact .inr ⟨hk.1, by rw [hn]; exact hk.2⟩
      refine ⟨fun t hd => ?_, fun k b hk hb u hu => ?_, hopd⟩
      · rw [h4, getTmp_put, if_pos hd]; exact w1.mono hm
      · rw [h4, putS_heap] at hb
        have hold : getBlk (σ i).heap k = none := by
          cases hgb : getBlk (σ i).heap k with
          | none => rfl
          | some b =>
            have := ((R.twf hg ht (i := i) (by omega)).1 k b hgb).1
            have := hk.1; omega
        rcases h5 with ⟨rfl, _⟩ | ⟨_, _, rfl⟩
        · rw [hold] at hb; cases hb
        · rw [getBlk_append, hold, Option.or_none, getBlk_keepH] at hb
          split at hb
          · exact ((w2 k b hb).2 u hu).mono hm
          · cases hb
    · refine ⟨fun t hd => ?_, fun k b hk => ?_, hopd⟩
      · rw [h, getTmp_put, if_pos hd]; exact WF.undef
      · have := hk.1; have := hk.2; rw [h, putS_next] at this; omega

end
end Go.Pe
