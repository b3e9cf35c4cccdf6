/-
  value.Range: case TT.
-/
import Derived.Test.YthmogphlnjpakaaGreatDoorYi1
namespace Go.Proofs.YthmogphlnjpakaaGreatDoor
open Go Go.Ord Go.Typ Go.RowKit
set_option maxRecDepth 100000 in
set_option maxHeartbeats 12800000 in
theorem range_TT (w : World) (x y : Value) (i0 i1 : Bool) (HKx : ∀ w, Calls Tryz.prog 18 #[.agg #[x]] w (OneOut w (.int .i64 1))) (HKy : ∀ w, Calls Tryz.prog 18 #[.agg #[y]] w (OneOut w (.int .i64 1)))
    (HNx : ∀ w, Calls Tryz.prog 16 #[.agg #[x]] w (OneOut w (.bool true))) (HNy : ∀ w, Calls Tryz.prog 16 #[.agg #[y]] w (OneOut w (.bool true))) :
    Calls Tryz.prog 19 #[.agg #[x], .agg #[y], .agg #[.bool i0, .bool i1]] w (OneOut w (.agg #[.iface 111 (.agg #[x, y, .bool false, .bool false])])) := by
  have KX1 := Lib.hid HKx
  have KY1 := Lib.hid HKy
  have NX1 := Lib.hid HNx
  have NY1 := Lib.hid HNy
  have HO := Lib.hid (fun w => ordered_is (show orderedK 1 = false from rfl) w)
  clear HKx HKy HNx HNy
  have F0 := rfacts0 w x y i0 i1
  go_enter Tryz.func19, Tryz.ntmps19
  go_wp2_with fail
  go_at_call 18
  refine (KX1.out _).mono ?_
  rintro e w1 ⟨rfl, hb1⟩
  have F1 := F0.on hb1
  have a1 := F1.c0
  go_wp2_with fail
  go_at_call 16
  refine (NX1.out _).mono ?_
  rintro e w2 ⟨rfl, hb2⟩
  have F2 := F1.on hb2
  clear a1 hb1 hb2 F0 F1
  have a2 := F2.c1
  go_wp2_with fail
  go_at_call 18
  refine (KY1.out _).mono ?_
  rintro e w2' ⟨rfl, hb2⟩
  have F5 := F2.on hb2
  clear a2 hb2 F2
  go_wp2_with fail
  have hund : undef = Value.tuple #[] := rfl
  first | (go_region_held3 (fun w' => w'.cell? ⟨w.heap.size, 0, none⟩ = some x ∧ w'.cell? ⟨w.heap.size + 1, 0, none⟩ = some y ∧ RFacts w x y i0 i1 w')
    ((go_split_ands; first | exact s4 F5.drew | exact s4 (RFacts.drew (by assumption)) | exact s4 (RFacts.on (by assumption) (by assumption)) | exact s4 (by assumption) | (refine ⟨?_, ?_, ?_⟩ <;> first | assumption | exact RFacts.drew (by assumption) | go_keep)))
    (first
      | (go_at_call_of 18 (Value.agg #[x]); go_split_ands; refine (KX1.out _).mono ?_; rintro e w3 ⟨rfl, hb3⟩)
      | (go_at_call_of 18 (Value.agg #[y]); go_split_ands; refine (KY1.out _).mono ?_; rintro e w3 ⟨rfl, hb3⟩)
      | (go_at_call_of 16 (Value.agg #[x]); go_split_ands; refine (NX1.out _).mono ?_; rintro e w3 ⟨rfl, hb3⟩)
      | (go_at_call_of 16 (Value.agg #[y]); go_split_ands; refine (NY1.out _).mono ?_; rintro e w3 ⟨rfl, hb3⟩)
      | (go_at_call 21; go_split_ands; refine (HO.out _).mono ?_; rintro e w3 ⟨rfl, rfl⟩))) | fail
  all_goals go_split_ands
  all_goals clear hund
  all_goals
    have G4 : R6 w x y i0 i1 w3 := R6.of (by assumption)
    go_wp2
    have hund : undef = Value.tuple #[] := rfl
    cases i0 <;> cases i1
    · first | (go_region_held3 (fun w' => w'.cell? ⟨w.heap.size, 0, none⟩ = some x ∧ w'.cell? ⟨w.heap.size + 1, 0, none⟩ = some y ∧ w'.cell? ⟨w.heap.size + 1 + 1, 0, none⟩ = some (.bool false) ∧ w'.cell? ⟨w.heap.size + 1 + 1, 1, none⟩ = some (.bool false) ∧ w'.frozen? ⟨w.heap.size + 1 + 1 + 1, 0, none⟩ = false ∧ R6 w x y false false w')
        ((go_split_ands; first | exact s6 G4.drew | exact s6 (R6.drew (by assumption)) | exact s6 (R6.on (by assumption) (by assumption)) | exact s6 (by assumption) | exact s6 (R6.set (by assumption) _) | (refine ⟨?_, ?_, ?_, ?_, ?_, ?_⟩ <;> first | assumption | exact R6.drew (by assumption) | go_keep)))
        (first
          | (go_at_call_of 16 (Value.agg #[x]); go_split_ands; refine (NX1.out _).mono ?_; rintro e w3 ⟨rfl, hb3⟩)
          | (go_at_call_of 16 (Value.agg #[y]); go_split_ands; refine (NY1.out _).mono ?_; rintro e w3 ⟨rfl, hb3⟩)
          | (go_split_ands; obtain ⟨uu, huu⟩ := R6.has (x := x) (y := y) (i0 := false) (i1 := false) (by assumption); go_simp))) | fail
      all_goals go_split_ands
      all_goals go_wp2
      all_goals exact bodyPost_ret (v := .agg #[.iface 111 (.agg #[x, y, .bool false, .bool false])]) (by first | (simp [results, Tryz.results19, go_sem, R6.res (w := w) (x := x) (y := y) (i0 := false) (i1 := false) (by assumption)]; done) | (simp [results, Tryz.results19, go_sem, R6.res G4]; done) | (simp [results, Tryz.results19, go_sem, *]; done)) rfl ⟨rfl, R6.below (x := x) (y := y) (i0 := false) (i1 := false) (by assumption)⟩
    · first | (go_region_held3 (fun w' => w'.cell? ⟨w.heap.size, 0, none⟩ = some x ∧ w'.cell? ⟨w.heap.size + 1, 0, none⟩ = some y ∧ w'.cell? ⟨w.heap.size + 1 + 1, 0, none⟩ = some (.bool false) ∧ w'.cell? ⟨w.heap.size + 1 + 1, 1, none⟩ = some (.bool true) ∧ w'.frozen? ⟨w.heap.size + 1 + 1 + 1, 0, none⟩ = false ∧ R6 w x y false true w')
        ((go_split_ands; first | exact s6 G4.drew | exact s6 (R6.drew (by assumption)) | exact s6 (R6.on (by assumption) (by assumption)) | exact s6 (by assumption) | exact s6 (R6.set (by assumption) _) | (refine ⟨?_, ?_, ?_, ?_, ?_, ?_⟩ <;> first | assumption | exact R6.drew (by assumption) | go_keep)))
        (first
          | (go_at_call_of 16 (Value.agg #[x]); go_split_ands; refine (NX1.out _).mono ?_; rintro e w3 ⟨rfl, hb3⟩)
          | (go_at_call_of 16 (Value.agg #[y]); go_split_ands; refine (NY1.out _).mono ?_; rintro e w3 ⟨rfl, hb3⟩)
          | (go_split_ands; obtain ⟨uu, huu⟩ := R6.has (x := x) (y := y) (i0 := false) (i1 := true) (by assumption); go_simp))) | fail
      all_goals go_split_ands
      all_goals go_wp2
      all_goals exact bodyPost_ret (v := .agg #[.iface 111 (.agg #[x, y, .bool false, .bool false])]) (by first | (simp [results, Tryz.results19, go_sem, R6.res (w := w) (x := x) (y := y) (i0 := false) (i1 := true) (by assumption)]; done) | (simp [results, Tryz.results19, go_sem, R6.res G4]; done) | (simp [results, Tryz.results19, go_sem, *]; done)) rfl ⟨rfl, R6.below (x := x) (y := y) (i0 := false) (i1 := true) (by assumption)⟩
    · first | (go_region_held3 (fun w' => w'.cell? ⟨w.heap.size, 0, none⟩ = some x ∧ w'.cell? ⟨w.heap.size + 1, 0, none⟩ = some y ∧ w'.cell? ⟨w.heap.size + 1 + 1, 0, none⟩ = some (.bool true) ∧ w'.cell? ⟨w.heap.size + 1 + 1, 1, none⟩ = some (.bool false) ∧ w'.frozen? ⟨w.heap.size + 1 + 1 + 1, 0, none⟩ = false ∧ R6 w x y true false w')
        ((go_split_ands; first | exact s6 G4.drew | exact s6 (R6.drew (by assumption)) | exact s6 (R6.on (by assumption) (by assumption)) | exact s6 (by assumption) | exact s6 (R6.set (by assumption) _) | (refine ⟨?_, ?_, ?_, ?_, ?_, ?_⟩ <;> first | assumption | exact R6.drew (by assumption) | go_keep)))
        (first
          | (go_at_call_of 16 (Value.agg #[x]); go_split_ands; refine (NX1.out _).mono ?_; rintro e w3 ⟨rfl, hb3⟩)
          | (go_at_call_of 16 (Value.agg #[y]); go_split_ands; refine (NY1.out _).mono ?_; rintro e w3 ⟨rfl, hb3⟩)
          | (go_split_ands; obtain ⟨uu, huu⟩ := R6.has (x := x) (y := y) (i0 := true) (i1 := false) (by assumption); go_simp))) | fail
      all_goals go_split_ands
      all_goals go_wp2
      all_goals exact bodyPost_ret (v := .agg #[.iface 111 (.agg #[x, y, .bool false, .bool false])]) (by first | (simp [results, Tryz.results19, go_sem, R6.res (w := w) (x := x) (y := y) (i0 := true) (i1 := false) (by assumption)]; done) | (simp [results, Tryz.results19, go_sem, R6.res G4]; done) | (simp [results, Tryz.results19, go_sem, *]; done)) rfl ⟨rfl, R6.below (x := x) (y := y) (i0 := true) (i1 := false) (by assumption)⟩
    · first | (go_region_held3 (fun w' => w'.cell? ⟨w.heap.size, 0, none⟩ = some x ∧ w'.cell? ⟨w.heap.size + 1, 0, none⟩ = some y ∧ w'.cell? ⟨w.heap.size + 1 + 1, 0, none⟩ = some (.bool true) ∧ w'.cell? ⟨w.heap.size + 1 + 1, 1, none⟩ = some (.bool true) ∧ w'.frozen? ⟨w.heap.size + 1 + 1 + 1, 0, none⟩ = false ∧ R6 w x y true true w')
        ((go_split_ands; first | exact s6 G4.drew | exact s6 (R6.drew (by assumption)) | exact s6 (R6.on (by assumption) (by assumption)) | exact s6 (by assumption) | exact s6 (R6.set (by assumption) _) | (refine ⟨?_, ?_, ?_, ?_, ?_, ?_⟩ <;> first | assumption | exact R6.drew (by assumption) | go_keep)))
        (first
          | (go_at_call_of 16 (Value.agg #[x]); go_split_ands; refine (NX1.out _).mono ?_; rintro e w3 ⟨rfl, hb3⟩)
          | (go_at_call_of 16 (Value.agg #[y]); go_split_ands; refine (NY1.out _).mono ?_; rintro e w3 ⟨rfl, hb3⟩)
          | (go_split_ands; obtain ⟨uu, huu⟩ := R6.has (x := x) (y := y) (i0 := true) (i1 := true) (by assumption); go_simp))) | fail
      all_goals go_split_ands
      all_goals go_wp2
      all_goals exact bodyPost_ret (v := .agg #[.iface 111 (.agg #[x, y, .bool false, .bool false])]) (by first | (simp [results, Tryz.results19, go_sem, R6.res (w := w) (x := x) (y := y) (i0 := true) (i1 := true) (by assumption)]; done) | (simp [results, Tryz.results19, go_sem, R6.res G4]; done) | (simp [results, Tryz.results19, go_sem, *]; done)) rfl ⟨rfl, R6.below (x := x) (y := y) (i0 := true) (i1 := true) (by assumption)⟩
end Go.Proofs.YthmogphlnjpakaaGreatDoor
