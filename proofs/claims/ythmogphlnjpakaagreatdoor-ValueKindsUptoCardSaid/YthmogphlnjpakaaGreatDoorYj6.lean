/-
  value.Range: case FTu.
-/
import Derived.Test.YthmogphlnjpakaaGreatDoorYi1
namespace Go.Proofs.YthmogphlnjpakaaGreatDoor
open Go Go.Ord Go.Typ Go.RowKit
set_option maxRecDepth 100000 in
set_option maxHeartbeats 12800000 in
theorem range_FTu (w : World) (x y : Value) (ka : Int) (i0 i1 : Bool) (HKx : ∀ w, Calls Tryz.prog 18 #[.agg #[x]] w (OneOut w (.int .i64 ka))) (HKy : ∀ w, Calls Tryz.prog 18 #[.agg #[y]] w (OneOut w (.int .i64 1)))
    (HNx : ∀ w, Calls Tryz.prog 16 #[.agg #[x]] w (OneOut w (.bool false))) (HNy : ∀ w, Calls Tryz.prog 16 #[.agg #[y]] w (OneOut w (.bool true))) (ho : orderedK ka = false) (h1 : (ka != 1) = true) :
    Calls Tryz.prog 19 #[.agg #[x], .agg #[y], .agg #[.bool i0, .bool i1]] w (OneOut w (.agg #[.nilIface])) := by
  have KX1 := Lib.hid HKx
  have KY1 := Lib.hid HKy
  have NX1 := Lib.hid HNx
  have NY1 := Lib.hid HNy
  have HO := Lib.hid (fun w => ordered_is ho w)
  clear HKx HKy HNx HNy ho
  have F0 := rfacts0 w x y i0 i1
  go_enter Tryz.func19, Tryz.ntmps19
  go_wp2_with fail
  go_at_call 18
  refine (KX1.out _).mono ?_
  rintro e w1 ⟨rfl, hb1⟩
  have F1 := F0.on hb1
  have a1 := F1.c0
  go_wp2_with fail
  go_at_call 16
  refine (NX1.out _).mono ?_
  rintro e w2 ⟨rfl, hb2⟩
  have F2 := F1.on hb2
  clear a1 hb1 hb2 F0 F1
  go_wp2_with fail
  have hund : undef = Value.tuple #[] := rfl
  first | (go_region_held3 (fun w' => w'.cell? ⟨w.heap.size, 0, none⟩ = some x ∧ w'.cell? ⟨w.heap.size + 1, 0, none⟩ = some y ∧ RFacts w x y i0 i1 w')
    ((go_split_ands; first | exact s4 F2.drew | exact s4 (RFacts.drew (by assumption)) | exact s4 (RFacts.on (by assumption) (by assumption)) | exact s4 (by assumption) | (refine ⟨?_, ?_, ?_⟩ <;> first | assumption | exact RFacts.drew (by assumption) | go_keep)))
    (first
      | (go_at_call_of 18 (Value.agg #[x]); go_split_ands; refine (KX1.out _).mono ?_; rintro e w3 ⟨rfl, hb3⟩)
      | (go_at_call_of 18 (Value.agg #[y]); go_split_ands; refine (KY1.out _).mono ?_; rintro e w3 ⟨rfl, hb3⟩)
      | (go_at_call_of 16 (Value.agg #[x]); go_split_ands; refine (NX1.out _).mono ?_; rintro e w3 ⟨rfl, hb3⟩)
      | (go_at_call_of 16 (Value.agg #[y]); go_split_ands; refine (NY1.out _).mono ?_; rintro e w3 ⟨rfl, hb3⟩)
      | (go_at_call 21; go_split_ands; refine (HO.out _).mono ?_; rintro e w3 ⟨rfl, rfl⟩))) | fail
  all_goals go_split_ands
  all_goals clear hund
  all_goals have c4 := RFacts.c4 (w := w) (x := x) (y := y) (i0 := i0) (i1 := i1) (by assumption)
  all_goals have f4 := RFacts.f4 (w := w) (x := x) (y := y) (i0 := i0) (i1 := i1) (by assumption)
  all_goals go_wp2
  all_goals exact bodyPost_ret (v := .agg #[.nilIface]) (by simp [results, Tryz.results19, go_sem, *]) rfl ⟨rfl, (RFacts.below (x := x) (y := y) (i0 := i0) (i1 := i1) (by assumption)).setCell (by show w.heap.size ≤ w.heap.size + 1 + 1 + 1; omega) _⟩
end Go.Proofs.YthmogphlnjpakaaGreatDoor
