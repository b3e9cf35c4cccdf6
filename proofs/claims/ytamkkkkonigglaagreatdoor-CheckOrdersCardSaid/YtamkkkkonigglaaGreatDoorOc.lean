/-
  check.Order: the places of names, in the order in which they are taken.
-/
import Derived.Test.YtamkkkkonigglaaGreatDoorOb
namespace Go.Proofs.YtamkkkkonigglaaGreatDoor
open Go Go.Ord Go.RowKit

theorem infoInt : (Tryz.prog.info? 3).map (fun i => (i.zero, i.size, i.bytes)) = some (some (.int .i64 0), 1, 8) := by kernel_rfl
/-- The numbers below one. -/
def upto (n : Nat) : List Int := (List.range n).map Int.ofNat
theorem upto_len (n : Nat) : (upto n).length = n := by simp [upto]
theorem upto_succ (n : Nat) : upto (n + 1) = upto n ++ [(n : Int)] := by simp [upto, List.range_succ]
/-- A slice of numbers of the call's own. -/
def OwnInts (B : Nat) (w : World) (v : Value) (L : List Int) : Prop := w.ownsRow B 3 1 v L.length (L.map (Value.int .i64))
theorem ints_push {B : Nat} {w : World} {v : Value} {L : List Int} {x : Int} (h : w.ownsRow B 3 1 v (L.length + 1) (L.map (Value.int .i64) ++ [.int .i64 x])) : OwnInts B w v (L ++ [x]) := by
  unfold OwnInts
  simpa using h
def OrderOut (B : Nat) (W : World) (L : List Int) (ok : Bool) (e : Ending) (w' : World) : Prop := ∃ v, e = .returned (.tuple #[v, .bool ok]) ∧ OwnInts B w' v L ∧ Below B W w'
def TakesOut (B : Nat) (W : World) (N T : List ByteArray) (e : Ending) (w' : World) : Prop :=
  ((wantL N T).length = N.length → OrderOut B W (wantL N T) true e w') ∧ ((wantL N T).length ≠ N.length → OrderOut B W [] false e w')

set_option maxHeartbeats 400000 in
theorem order_none (w : World) (A A' : Option Addr) (c c' m n : Nat) (hn : n ≤ 255) :
    Calls Tryz.prog 11 #[.slice A 0 c, .slice A' m c', .int .i64 n] w (OrderOut w.heap.size w (upto n) true) := by
  obtain ⟨i0, hi, hz0, hz1, hz2⟩ := info_parts infoInt
  go_enter Tryz.func11, Tryz.ntmps11
  go_wp2
  go_loopw [8, 17] (fun v i wr => ∃ k : Nat, k ≤ n ∧ i = .int .i64 k ∧ OwnInts w.heap.size wr v (upto k) ∧ Below w.heap.size w wr) (fun _ i _ => n - (intOf i).toNat)
  case atStart => exact ⟨0, Nat.zero_le _, rfl, World.ownsRow_nil _ _ _ _, Below.refl _ _⟩
  case round =>
    obtain ⟨k, hk, rfl, hown, hnx⟩ := hrel
    have hl := upto_len k
    have HL := Lib.hid hl
    clear hl
    by_cases hlt : k < n
    · go_wp2_with (at_builtin; refine wpList_append_own _ rfl _ _ 28 rfl w.heap.size 3 i0 (.int .i64 0) 1 8 Tryz.underlying28 hi hz0 hz1 hz2 rfl (by decide) _ _ _ rfl (World.ownsRow.alloc hown _) ⟨wr.heap.size, 0, none⟩ 1 1 [.int .i64 k] rfl rfl ?c1 ?c2 ?c3 ?c4 ?c5 ?_)
      case c1 =>
        intro j u hj
        match j, hj with
        | 0, hj => simp at hj; subst hj; simp [Addr.add]
      case c2 => intro u hu; simp at hu; subst hu; rfl
      case c3 => have := HL.out; unfold maxLen; omega
      case c4 => have := HL.out; omega
      case c5 => have := hnx.size; simp; omega
      · intro v' w1 hown' hgrow _
        have h1 := ints_push hown'
        have h2 : Below w.heap.size w w1 := (hnx.alloc hnx.size _).grown hgrow (by have := hnx.size; simp; omega) (fun j hj => (hown.lt j hj).1)
        rw [← upto_succ] at h1
        clear hown' hgrow hown hnx
        go_wp2
        go_roundw
        case rel => exact ⟨k + 1, by omega, by go_num, h1, h2⟩
        case measure => simp [intOf]; omega
    · have he : k = n := by omega
      subst he
      go_wp2
      go_ret2
      exact ⟨_, rfl, hown, hnx⟩

/-- A slice of names that came in. -/
def Strs (w : World) (A : Option Addr) (N : List ByteArray) : Prop := ∀ j, j < N.length → ∃ b off, A = some ⟨b, off, none⟩ ∧ b < w.heap.size ∧ w.cell? ⟨b, off + j, none⟩ = some (.string (N.getD j ByteArray.empty))
theorem Strs.all {w : World} {A : Option Addr} {N : List ByteArray} (h : Strs w A N) (h0 : 0 < N.length) : ∃ b off, A = some ⟨b, off, none⟩ ∧ b < w.heap.size ∧ ∀ j, j < N.length → w.cell? ⟨b, off + j, none⟩ = some (.string (N.getD j ByteArray.empty)) := by
  obtain ⟨b, off, rfl, hb, _⟩ := h 0 h0
  refine ⟨b, off, rfl, hb, fun j hj => ?_⟩
  obtain ⟨b', off', e, _, hc⟩ := h j hj
  cases e
  exact hc

theorem own_form {B : Nat} {w : World} {v : Value} {L : List Int} (h : OwnInts B w v L) : ∃ A c, v = .slice A L.length c := by
  rcases h.2 with ⟨rfl, h0⟩ | ⟨g, cap, cur, rfl, _⟩
  · exact ⟨none, 0, by rw [h0]⟩
  · exact ⟨_, _, rfl⟩
theorem neq_of {a b : Nat} (h : ((a : Int) != b) = true) : a ≠ b := by
  rintro rfl
  simp at h
theorem eq_of {a b : Nat} (h : ((a : Int) != b) = false) : a = b := by
  rw [bne_eq_false_iff_eq] at h
  omega
theorem takes_yes {B : Nat} {W w' : World} {N T : List ByteArray} {P : List Int} {v : Value} (h : wantL N T = P) (hl : P.length = N.length) (ho : OwnInts B w' v P) (hb : Below B W w') : TakesOut B W N T (.returned (.tuple #[v, .bool true])) w' := by
  refine ⟨fun _ => ⟨v, rfl, by rw [h]; exact ho, hb⟩, fun hn => absurd (by rw [h]; exact hl) hn⟩
theorem takes_no {B : Nat} {W w' : World} {N T : List ByteArray} {P : List Int} (h : wantL N T = P) (hl : P.length ≠ N.length) (hb : Below B W w') : TakesOut B W N T (.returned (.tuple #[.slice none 0 0, .bool false])) w' := by
  refine ⟨fun hn => absurd (by rw [← h]; exact hn) hl, fun _ => ⟨_, rfl, World.ownsRow_nil _ _ _ _, hb⟩⟩

set_option maxRecDepth 100000 in
set_option maxHeartbeats 800000 in
theorem order_some (w : World) (A' : Option Addr) (b off c c' : Nat) (n : Int) (N T : List ByteArray) (h0 : 0 < N.length) (h50 : N.length ≤ 50) (hT50 : T.length ≤ 50) (hb : b < w.heap.size)
    (hc : ∀ j, j < N.length → w.cell? ⟨b, off + j, none⟩ = some (.string (N.getD j ByteArray.empty))) (hT : Strs w A' T) :
    Calls Tryz.prog 11 #[.slice (some ⟨b, off, none⟩) N.length c, .slice A' T.length c', .int .i64 n] w (TakesOut w.heap.size w N T) := by
  obtain ⟨i0, hi, hz0, hz1, hz2⟩ := info_parts infoInt
  have hne : ((N.length : Int) == 0) = false := by rw [beq_eq_false_iff_ne]; omega
  go_enter Tryz.func11, Tryz.ntmps11
  go_wp2
  go_loopw [8, 28] (fun v i wr => ∃ (k : Nat) (P : List Int), k ≤ T.length ∧ P.length ≤ k ∧ i = .int .i64 k ∧ OwnInts w.heap.size wr v P ∧ Below w.heap.size w wr ∧ wantL N T = P ++ wantL N (T.drop k)) (fun _ i _ => T.length - (intOf i).toNat)
  case atStart => exact ⟨0, [], Nat.zero_le _, Nat.zero_le _, rfl, World.ownsRow_nil _ _ _ _, Below.refl _ _, rfl⟩
  case round =>
    obtain ⟨k, P, hk, hP, rfl, hown, hnx, hw⟩ := hrel
    obtain ⟨Ao, co, rfl⟩ := own_form hown
    have HW := Lib.hid hw
    clear hw
    by_cases hlt : k < T.length
    · obtain ⟨b', off', rfl, hb', hcT⟩ := hT k hlt
      obtain ⟨s, hs⟩ : ∃ s, s = T.getD k ByteArray.empty := ⟨_, rfl⟩
      have hcx : wr.cell? ⟨b', off' + k, none⟩ = some (.string s) := by rw [hs]; exact (hnx.cell (by exact hb')).trans hcT
      have hcN : ∀ j, j < N.length → wr.cell? ⟨b, off + j, none⟩ = some (.string (N.getD j ByteArray.empty)) := fun j hj => (hnx.cell (by exact hb)).trans (hc j hj)
      have HE := Lib.hid hs
      have HN := Lib.hid hcN
      have hbd := fndAt_bd N s 0 (Nat.zero_le _)
      obtain ⟨b1, b2⟩ := hbd
      clear hs hcN hcT hc hT
      go_wp2_with (first | (go_at_call 27; refine (index_any b off c N s _ (by omega) HN.out).mono ?_; rintro e w' ⟨rfl, rfl⟩) | (at_builtin; refine wpList_append_own _ rfl _ _ 28 rfl w.heap.size 3 i0 (.int .i64 0) 1 8 Tryz.underlying28 hi hz0 hz1 hz2 rfl (by decide) _ _ _ rfl (World.ownsRow.alloc hown _) ⟨wr.heap.size, 0, none⟩ 1 1 [.int .i64 (fndAt N s 0)] rfl rfl ?c1 ?c2 ?c3 ?c4 ?c5 ?_))
      · have h : ((P.length : Int) != N.length) = true := by assumption
        have hX := want_miss N T P k hlt (by rw [← HE.out]; assumption) HW.out
        go_ret2
        exact takes_no hX (neq_of h) hnx
      · have h : ((P.length : Int) != N.length) = false := by assumption
        have hX := want_miss N T P k hlt (by rw [← HE.out]; assumption) HW.out
        go_ret2
        exact takes_yes hX (eq_of h) hown hnx
      case c1 =>
        intro j u hj
        match j, hj with
        | 0, hj => simp at hj; subst hj; simp [Addr.add]
      case c2 => intro u hu; simp at hu; subst hu; rfl
      case c3 => unfold maxLen; omega
      case c4 => omega
      case c5 => have := hnx.size; simp; omega
      · intro v' w1 hown' hgrow _
        have h1 := ints_push hown'
        have h2 : Below w.heap.size w w1 := (hnx.alloc hnx.size _).grown hgrow (by have := hnx.size; simp; omega) (fun j hj => (hown.lt j hj).1)
        have hX := want_hit N T P k hlt (by rw [← HE.out]; assumption) HW.out
        rw [← HE.out] at hX
        have HX := Lib.hid hX
        clear hX HW hown' hgrow hown hnx hcx HE HN
        go_wp2
        go_roundw
        case rel => exact ⟨k + 1, _, by omega, by simp; omega, by go_num, h1, h2, HX.out⟩
        case measure => simp [intOf]; omega
    · have he : k = T.length := by omega
      subst he
      have hX := want_end N T P HW.out
      have HX := Lib.hid hX
      clear hX HW hT hc
      go_wp2
      all_goals first
        | (have h : ((P.length : Int) != N.length) = true := by assumption
           go_ret2
           exact takes_no HX.out (neq_of h) hnx)
        | (have h : ((P.length : Int) != N.length) = false := by assumption
           go_ret2
           exact takes_yes HX.out (eq_of h) hown hnx)
end Go.Proofs.YtamkkkkonigglaaGreatDoor
