/-
  More blocks that are only read: a heap that tells of a world may tell of one block more.
-/
import Derived.Test.YtapmcocefoccdaaGreatDoorPeU
namespace Go.Pe
open Go Go.RowKit

section
variable {P : Program} {base w : World} {μ κ : Nat → Nat} {h : Heap}

theorem Rel.consG (hr : Rel P base μ κ h w) {g : Nat} {b : Blk} (hb : BlkOk base μ κ g b w) (hinj : ∀ i x, getBlk h i = some x → μ i = μ g → i = g) : Rel P base μ κ ((g, b) :: h) w := by
  refine ⟨hr.below, fun k c hc => ?_, fun i j x y hx hy e => ?_, hr.glob, hr.gsz⟩
  · rw [getBlk_cons] at hc
    split at hc
    · rename_i ek; subst ek; cases hc; exact hb
    · exact hr.blk k c hc
  · rw [getBlk_cons] at hx hy
    split at hx
    · rename_i e1
      split at hy
      · rename_i e2; exact e1.symm.trans e2
      · rw [← e1] at e ⊢
        exact (hinj j y hy e.symm).symm
    · split at hy
      · rename_i e2
        rw [← e2] at e ⊢
        exact hinj i x hx e
      · exact hr.inj i j x y hx hy e

/-- A name that is not used yet may stand for any block. -/
theorem Rel.rename (hr : Rel P base μ κ h w) {n : Nat} (hh : HWF (· < n) h) (hg : P.globals.size ≤ n) (x : Nat) : Rel P base (upd μ n x) κ h w := by
  refine ⟨hr.below, fun k b hb => ?_, fun i j a b ha hb e => ?_, fun g hg' => ?_, hr.gsz⟩
  · have hk := (hh k b hb).1
    have e : upd μ n x k = μ k := upd_other _ _ (by omega)
    exact (hr.blk k b hb).same e rfl (fun v hv => (hh k b hb).2 v hv μ κ (upd μ n x) κ fun j hj => ⟨upd_other _ _ (by omega), rfl⟩) rfl
  · have hi := (hh i a ha).1
    have hj := (hh j b hb).1
    rw [upd_other _ _ (by omega), upd_other _ _ (by omega)] at e
    exact hr.inj i j a b ha hb e
  · rw [upd_other _ _ (by omega)]
    exact hr.glob g hg'

/-- A block that is only read: known cells without addresses. -/
def roBlk (vs : List Value) : Blk := { cells := vs.map some, elem := 0, own := false, room := 0, iter := none }

theorem roBlk_ok {vs : List Value} (hv : ∀ v ∈ vs, pureV 6 v = true) {g : Nat} {c : Array Value} {e : TypeId} {fr : Nat × Nat} (h1 : w.heap[μ g]? = some (.cells c e fr)) (h2 : ∀ (j : Nat) v, vs[j]? = some v → c[j]? = some v) : BlkOk base μ κ g (roBlk vs) w := by
  have hsz : vs.length ≤ c.size := by
    cases hl : vs.length with
    | zero => omega
    | succ m =>
      have : m < vs.length := by omega
      have := h2 m _ (List.getElem?_eq_getElem this)
      have := (Array.getElem?_eq_some_iff.1 this).1
      omega
  have key : ∃ c e fr, w.heap[μ g]? = some (.cells c e fr) ∧ ((roBlk vs).own = true → e = (roBlk vs).elem ∧ base.heap.size ≤ μ g ∧ fr = (0, 0)) ∧
      (roBlk vs).cells.length ≤ c.size ∧ (∀ (j : Nat) v, (roBlk vs).cells[j]? = some (some v) → c[j]? = some (renV μ κ v)) ∧ ((roBlk vs).room ≠ 0 → c.size = κ g * (roBlk vs).room) ∧ ((roBlk vs).room = 0 → (roBlk vs).own = true → c.size = (roBlk vs).cells.length) := by
    refine ⟨c, e, fr, h1, fun h => (by cases h), by simpa [roBlk] using hsz, fun j v hj => ?_, fun h => absurd rfl h, fun _ h => (by cases h)⟩
    simp only [roBlk, List.getElem?_map, Option.map_eq_some_iff] at hj
    obtain ⟨a, ha, e⟩ := hj
    cases e
    rw [ren_pure μ κ 6 v (hv v (List.mem_of_getElem? ha))]
    exact h2 j v ha
  exact key

theorem roBlk_wf {D : Nat → Prop} {vs : List Value} (hv : ∀ v ∈ vs, pureV 6 v = true) : ∀ v, some v ∈ (roBlk vs).cells → WF D v := by
  intro v h
  simp only [roBlk, List.mem_map, Option.some.injEq, exists_eq_right] at h
  exact WF.pure (hv v h)

/-- The cells of a block that is told. -/
theorem BlkOk.cells_pure {k : Nat} {b : Blk} (hb : BlkOk base μ κ k b w) (hi : b.iter = none) {vs : List Value} (hc : b.cells = vs.map some) (hv : ∀ v ∈ vs, pureV 6 v = true) :
    ∃ c e fr, w.heap[μ k]? = some (.cells c e fr) ∧ (b.own = true → base.heap.size ≤ μ k) ∧ ∀ (j : Nat) v, vs[j]? = some v → c[j]? = some v := by
  unfold BlkOk at hb
  rw [hi] at hb
  obtain ⟨c, e, fr, h1, h2, _, h4, _⟩ := hb
  refine ⟨c, e, fr, h1, fun h => (h2 h).2.1, fun j v hj => ?_⟩
  have := h4 j v (by rw [hc, List.getElem?_map, hj]; rfl)
  rw [this, ren_pure μ κ 6 v (hv v (List.mem_of_getElem? hj))]

end
end Go.Pe
