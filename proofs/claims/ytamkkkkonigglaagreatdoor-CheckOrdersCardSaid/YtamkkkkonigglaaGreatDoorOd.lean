/-
  CheckOrders: the law's walk, without names, and of too many.
-/
import Derived.Test.YtamkkkkonigglaaGreatDoorOc
import Derived.Laws.OwnMore
import Derived.Deep.AppendLies
import Derived.Deep.Draws
namespace Go.Proofs.YtamkkkkonigglaaGreatDoor
open Go Go.Ord Go.RowKit

/-- What a law comes to. -/
def LawOut (w : World) (e : Ending) (w' : World) : Prop := e = .returned (.bool true) ∧ Below w.heap.size w w'
/-- A law's examples. -/
def AwakeOut (w : World) (e : Ending) (w' : World) : Prop := e = .returned (.bool true) ∧ Below w.heap.size w w'
theorem own_cell {B : Nat} {w : World} {A : Option Addr} {c : Nat} {L : List Int} (h : OwnInts B w (.slice A L.length c) L) {k : Nat} (hk : k < L.length) : ∃ g, A = some ⟨g, 0, none⟩ ∧ g < w.heap.size ∧ w.cell? ⟨g, k, none⟩ = some (.int .i64 (L.getD k 0)) := by
  obtain ⟨g, cap, hv, _, hlt⟩ := World.ownsRow.form h (by omega)
  have hA : A = some ⟨g, 0, none⟩ := by injection hv
  subst hA
  refine ⟨g, rfl, hlt, ?_⟩
  have := World.ownsRow.cells h (g := g) rfl k (.int .i64 (L.getD k 0)) (by simp [List.getElem?_eq_getElem hk])
  have e : (Addr.add ⟨g, 0, none⟩ k) = ⟨g, k, none⟩ := by
    unfold Addr.add
    split
    · rename_i h0
      rw [h0]
    · rw [Nat.zero_add]
  rw [e] at this
  exact this

set_option maxRecDepth 100000 in
set_option maxHeartbeats 800000 in
theorem orders_big (w : World) (A A' : Option Addr) (c c' m l : Nat) (n : Int) (h : 50 < m ∨ 50 < l) (haw : Calls Tryz.prog 6 #[] w (AwakeOut w)) :
    Calls Tryz.prog 4 #[.slice A l c, .slice A' m c', .int .u8 n] w (LawOut w) := by
  by_cases hm : 50 < m
  · go_enter Tryz.func4, Tryz.ntmps4
    go_wp2_with (go_at_call 6; refine haw.mono ?_; rintro e w' ⟨rfl, hb⟩)
    go_ret
    exact ⟨rfl, hb⟩
  · have hl : 50 < l := by omega
    go_enter Tryz.func4, Tryz.ntmps4
    go_wp2_with (go_at_call 6; refine haw.mono ?_; rintro e w' ⟨rfl, hb⟩)
    go_ret
    exact ⟨rfl, hb⟩

theorem ret_bool {a : Bool} (h : a = true) : Ending.returned (.bool a) = .returned (.bool true) := by rw [h]
theorem upto_get {n k : Nat} (h : k < n) : (upto n).getD k 0 = k := by simp [upto, List.getD, h]

set_option maxRecDepth 100000 in
set_option maxHeartbeats 800000 in
theorem orders_none (w : World) (A A' : Option Addr) (c c' m n : Nat) (hm : m ≤ 50) (hn : n ≤ 255) (haw : Calls Tryz.prog 6 #[] w (AwakeOut w)) :
    Calls Tryz.prog 4 #[.slice A 0 c, .slice A' m c', .int .u8 n] w (LawOut w) := by
  go_enter Tryz.func4, Tryz.ntmps4
  go_wp2_with (first | (go_at_call 6; refine haw.mono ?_; rintro e w' ⟨rfl, hb⟩) | (go_at_call 11; refine (order_none _ _ _ _ _ _ n hn).mono ?_; rintro e w'' ⟨v, rfl, hown, hb2⟩; obtain ⟨Ao, co, rfl⟩ := own_form hown))
  have hul := upto_len n
  have HU := Lib.hid hul
  clear hul
  go_loop [9] (fun i => ∃ k : Nat, k ≤ n ∧ i = .int .i64 k) (fun i => n - (intOf i).toNat)
  case atStart => exact ⟨0, Nat.zero_le _, rfl⟩
  case round =>
    obtain ⟨k, hk, rfl⟩ := hrel
    by_cases hlt : k < n
    · obtain ⟨g, rfl, hg, hcell⟩ := own_cell hown (k := k) (by rw [HU.out]; exact hlt)
      rw [upto_get hlt] at hcell
      have hlu : k < (upto n).length := by rw [HU.out]; exact hlt
      go_wp2
      go_round
      case rel => exact ⟨k + 1, by omega, by go_num⟩
      case measure => simp [intOf]; omega
    · have he : k = n := by omega
      subst he
      have hlu : ¬ k < (upto k).length := by rw [HU.out]; exact hlt
      go_wp2
      go_ret
      exact ⟨ret_bool (by rw [HU.out]; simp), hb.trans (hb2.mono hb.size)⟩
theorem below_drewN {B : Nat} {a w : World} (h : Below B a w) (n : Nat) : Below B a (w.drewN n) := ⟨h.os, h.tape, h.output, h.size, h.block⟩
theorem strs_keep {w w' : World} {b off : Nat} {N : List ByteArray} (hc : ∀ j, j < N.length → w.cell? ⟨b, off + j, none⟩ = some (.string (N.getD j ByteArray.empty))) (hb : b < w.heap.size) (h : Below w.heap.size w w') :
    ∀ j, j < N.length → w'.cell? ⟨b, off + j, none⟩ = some (.string (N.getD j ByteArray.empty)) := fun j hj => (h.cell (by exact hb)).trans (hc j hj)
theorem Strs.keep {w w' : World} {A : Option Addr} {N : List ByteArray} (hc : Strs w A N) (h : Below w.heap.size w w') : Strs w' A N := fun j hj => by
  obtain ⟨b, off, e, hb, hcell⟩ := hc j hj
  exact ⟨b, off, e, Nat.lt_of_lt_of_le hb h.size, (h.cell (by exact hb)).trans hcell⟩
/-- What check.Order comes to, in one form. -/
def OrderOne (W : World) (N T : List ByteArray) (e : Ending) (w' : World) : Prop :=
  ∃ (A : Option Addr) (c : Nat) (ok : Bool) (L : List Int), e = .returned (.tuple #[.slice A L.length c, .bool ok]) ∧ OwnInts W.heap.size w' (.slice A L.length c) L ∧ Below W.heap.size W w' ∧ (ok = true → L = wantL N T) ∧ (ok = true ↔ (wantL N T).length = N.length)
theorem order_one {W w' : World} {N T : List ByteArray} {e : Ending} (h : TakesOut W.heap.size W N T e w') : OrderOne W N T e w' := by
  by_cases hw : (wantL N T).length = N.length
  · obtain ⟨v, rfl, ho, hb⟩ := h.1 hw
    obtain ⟨A, c, rfl⟩ := own_form ho
    exact ⟨A, c, true, _, rfl, ho, hb, fun _ => rfl, fun _ => hw, fun _ => rfl⟩
  · obtain ⟨v, rfl, ho, hb⟩ := h.2 hw
    obtain ⟨A, c, rfl⟩ := own_form ho
    exact ⟨A, c, false, _, rfl, ho, hb, (fun h => Bool.noConfusion h), (fun h => Bool.noConfusion h), fun h => absurd h hw⟩
end Go.Proofs.YtamkkkkonigglaaGreatDoor
