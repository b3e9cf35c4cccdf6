/-
  value.Range.
  value.Range: case FFn.
-/
import Derived.Test.YthmogphlnjpakaaGreatDoorYe1

namespace Go.Proofs.YthmogphlnjpakaaGreatDoor
open Go Go.Ord Go.Typ Go.RowKit
structure RFacts (w : World) (x y : Value) (i0 i1 : Bool) (w' : World) : Prop where
  c0 : w'.cell? ⟨w.heap.size, 0, none⟩ = some x
  c1 : w'.cell? ⟨w.heap.size + 1, 0, none⟩ = some y
  c2 : w'.cell? ⟨w.heap.size + 1 + 1, 0, none⟩ = some (.bool i0)
  c3 : w'.cell? ⟨w.heap.size + 1 + 1, 1, none⟩ = some (.bool i1)
  c4 : w'.cell? ⟨w.heap.size + 1 + 1 + 1, 0, none⟩ = some .nilIface
  f4 : w'.frozen? ⟨w.heap.size + 1 + 1 + 1, 0, none⟩ = false
  below : Below w.heap.size w w'
  size : w.heap.size + 4 ≤ w'.heap.size
theorem RFacts.drew {w : World} {x y : Value} {i0 i1 : Bool} {w' : World} (h : RFacts w x y i0 i1 w') : RFacts w x y i0 i1 w'.drew := ⟨h.c0, h.c1, h.c2, h.c3, h.c4, h.f4, h.below.drew, h.size⟩
theorem RFacts.on {w : World} {x y : Value} {i0 i1 : Bool} {w' w1 : World} (h : RFacts w x y i0 i1 w') (hb : Below w'.heap.size w' w1) : RFacts w x y i0 i1 w1 := by
  have hs := h.size
  refine ⟨(hb.cell ?_).trans h.c0, (hb.cell ?_).trans h.c1, (hb.cell ?_).trans h.c2, (hb.cell ?_).trans h.c3, (hb.cell ?_).trans h.c4, (hb.frozen ?_).trans h.f4, h.below.trans (hb.mono h.below.size), Nat.le_trans hs hb.size⟩
  · show w.heap.size < _; omega
  · show w.heap.size + 1 < _; omega
  · show w.heap.size + 1 + 1 < _; omega
  · show w.heap.size + 1 + 1 < _; omega
  · show w.heap.size + 1 + 1 + 1 < _; omega
  · show w.heap.size + 1 + 1 + 1 < _; omega
theorem rfacts0 (w : World) (x y : Value) (i0 i1 : Bool) : RFacts w x y i0 i1 ((((w.alloc (.cells #[x] 30)).alloc (.cells #[y] 30)).alloc (.cells #[.bool i0, .bool i1] 24)).alloc (.cells #[.nilIface] 30)) := by
  refine ⟨?_, ?_, ?_, ?_, ?_, ?_, ?_, by simp⟩
  · rw [World.cell?_alloc_past _ _ _ (by simp <;> omega), World.cell?_alloc_past _ _ _ (by simp <;> omega), World.cell?_alloc_past _ _ _ (by simp <;> omega), World.cell?_alloc_at _ _ _ _ rfl]; rfl
  · rw [World.cell?_alloc_past _ _ _ (by simp <;> omega), World.cell?_alloc_past _ _ _ (by simp <;> omega), World.cell?_alloc_at _ _ _ _ (by simp <;> omega)]; rfl
  · rw [World.cell?_alloc_past _ _ _ (by simp <;> omega), World.cell?_alloc_at _ _ _ _ (by simp <;> omega)]; rfl
  · rw [World.cell?_alloc_past _ _ _ (by simp <;> omega), World.cell?_alloc_at _ _ _ _ (by simp <;> omega)]; rfl
  · rw [World.cell?_alloc_at _ _ _ _ (by simp <;> omega)]; rfl
  · exact World.frozen?_alloc_at _ _ _ _ (by simp <;> omega)
  · exact (box_three _ _ _ _).alloc (by simp <;> omega) _
structure R6 (w : World) (x y : Value) (i0 i1 : Bool) (w' : World) : Prop where
  c0 : w'.cell? ⟨w.heap.size, 0, none⟩ = some x
  c1 : w'.cell? ⟨w.heap.size + 1, 0, none⟩ = some y
  c2 : w'.cell? ⟨w.heap.size + 1 + 1, 0, none⟩ = some (.bool i0)
  c3 : w'.cell? ⟨w.heap.size + 1 + 1, 1, none⟩ = some (.bool i1)
  has : ∃ u, w'.cell? ⟨w.heap.size + 1 + 1 + 1, 0, none⟩ = some u
  f4 : w'.frozen? ⟨w.heap.size + 1 + 1 + 1, 0, none⟩ = false
  below : Below w.heap.size w w'
  size : w.heap.size + 4 ≤ w'.heap.size
theorem R6.drew {w : World} {x y : Value} {i0 i1 : Bool} {w' : World} (h : R6 w x y i0 i1 w') : R6 w x y i0 i1 w'.drew := ⟨h.c0, h.c1, h.c2, h.c3, h.has, h.f4, h.below.drew, h.size⟩
theorem R6.on {w : World} {x y : Value} {i0 i1 : Bool} {w' w1 : World} (h : R6 w x y i0 i1 w') (hb : Below w'.heap.size w' w1) : R6 w x y i0 i1 w1 := by
  have hs := h.size
  obtain ⟨u, hu⟩ := h.has
  refine ⟨(hb.cell ?_).trans h.c0, (hb.cell ?_).trans h.c1, (hb.cell ?_).trans h.c2, (hb.cell ?_).trans h.c3, ⟨u, (hb.cell ?_).trans hu⟩, (hb.frozen ?_).trans h.f4, h.below.trans (hb.mono h.below.size), Nat.le_trans hs hb.size⟩
  · show w.heap.size < _; omega
  · show w.heap.size + 1 < _; omega
  · show w.heap.size + 1 + 1 < _; omega
  · show w.heap.size + 1 + 1 < _; omega
  · show w.heap.size + 1 + 1 + 1 < _; omega
  · show w.heap.size + 1 + 1 + 1 < _; omega
theorem R6.set {w : World} {x y : Value} {i0 i1 : Bool} {w' : World} (h : R6 w x y i0 i1 w') (v : Value) : R6 w x y i0 i1 (w'.setCell ⟨w.heap.size + 1 + 1 + 1, 0, none⟩ v) := by
  obtain ⟨u, hu⟩ := h.has
  refine ⟨(World.cell?_setCell_other _ _ _ _ (by simp <;> omega)).trans h.c0, (World.cell?_setCell_other _ _ _ _ (by simp <;> omega)).trans h.c1, (World.cell?_setCell_other _ _ _ _ (by simp)).trans h.c2, (World.cell?_setCell_other _ _ _ _ (by simp)).trans h.c3, ⟨v, World.cell?_setCell_same _ _ _ hu⟩, (World.frozen?_setCell _ _ _ _).trans h.f4, h.below.setCell (by show w.heap.size ≤ w.heap.size + 1 + 1 + 1; omega) _, by simpa using h.size⟩
theorem R6.of {w : World} {x y : Value} {i0 i1 : Bool} {w' : World} (h : RFacts w x y i0 i1 w') : R6 w x y i0 i1 w' := ⟨h.c0, h.c1, h.c2, h.c3, ⟨_, h.c4⟩, h.f4, h.below, h.size⟩
theorem s6 {w : World} {x y : Value} {i0 i1 : Bool} {w' : World} (h : R6 w x y i0 i1 w') : w'.cell? ⟨w.heap.size, 0, none⟩ = some x ∧ w'.cell? ⟨w.heap.size + 1, 0, none⟩ = some y ∧ w'.cell? ⟨w.heap.size + 1 + 1, 0, none⟩ = some (.bool i0) ∧ w'.cell? ⟨w.heap.size + 1 + 1, 1, none⟩ = some (.bool i1) ∧ w'.frozen? ⟨w.heap.size + 1 + 1 + 1, 0, none⟩ = false ∧ R6 w x y i0 i1 w' := ⟨h.c0, h.c1, h.c2, h.c3, h.f4, h⟩
theorem ordered_is {k : Int} {b : Bool} (h : orderedK k = b) (w : World) : Calls Tryz.prog 21 #[.int .i64 k] w fun e w' => e = .returned (.bool b) ∧ w = w' := by
  subst h
  exact ordered_any k w
theorem R6.res {w : World} {x y : Value} {i0 i1 : Bool} {w' : World} (h : R6 w x y i0 i1 w') (v : Value) : (w'.setCell ⟨w.heap.size + 1 + 1 + 1, 0, none⟩ v).cell? ⟨w.heap.size + 1 + 1 + 1, 0, none⟩ = some v := by
  obtain ⟨u, hu⟩ := h.has
  exact World.cell?_setCell_same _ _ _ hu
theorem s4 {w : World} {x y : Value} {i0 i1 : Bool} {w' : World} (h : RFacts w x y i0 i1 w') : w'.cell? ⟨w.heap.size, 0, none⟩ = some x ∧ w'.cell? ⟨w.heap.size + 1, 0, none⟩ = some y ∧ RFacts w x y i0 i1 w' := ⟨h.c0, h.c1, h⟩
end Go.Proofs.YthmogphlnjpakaaGreatDoor

namespace Go.Proofs.YthmogphlnjpakaaGreatDoor
open Go Go.Ord Go.Typ Go.RowKit
set_option maxRecDepth 100000 in
set_option maxHeartbeats 12800000 in
theorem range_FFn (w : World) (x y : Value) (ka kb : Int) (i0 i1 : Bool) (HKx : ∀ w, Calls Tryz.prog 18 #[.agg #[x]] w (OneOut w (.int .i64 ka))) (HKy : ∀ w, Calls Tryz.prog 18 #[.agg #[y]] w (OneOut w (.int .i64 kb)))
    (HNx : ∀ w, Calls Tryz.prog 16 #[.agg #[x]] w (OneOut w (.bool false))) (HNy : ∀ w, Calls Tryz.prog 16 #[.agg #[y]] w (OneOut w (.bool false))) (hd : (kb != ka) = true) :
    Calls Tryz.prog 19 #[.agg #[x], .agg #[y], .agg #[.bool i0, .bool i1]] w (OneOut w (.agg #[.nilIface])) := by
  have KX1 := Lib.hid HKx
  have KY1 := Lib.hid HKy
  have NX1 := Lib.hid HNx
  have NY1 := Lib.hid HNy
  clear HKx HKy HNx HNy
  have F0 := rfacts0 w x y i0 i1
  go_enter Tryz.func19, Tryz.ntmps19
  go_wp2_with fail
  go_at_call 18
  refine (KX1.out _).mono ?_
  rintro e w1 ⟨rfl, hb1⟩
  have F1 := F0.on hb1
  have a1 := F1.c0
  go_wp2_with fail
  go_at_call 16
  refine (NX1.out _).mono ?_
  rintro e w2 ⟨rfl, hb2⟩
  have F2 := F1.on hb2
  clear a1 hb1 hb2 F0 F1
  go_wp2_with fail
  have hund : undef = Value.tuple #[] := rfl
  first | (go_region_held3 (fun w' => w'.cell? ⟨w.heap.size, 0, none⟩ = some x ∧ w'.cell? ⟨w.heap.size + 1, 0, none⟩ = some y ∧ RFacts w x y i0 i1 w')
    ((go_split_ands; first | exact s4 F2.drew | exact s4 (RFacts.drew (by assumption)) | exact s4 (RFacts.on (by assumption) (by assumption)) | exact s4 (by assumption) | (refine ⟨?_, ?_, ?_⟩ <;> first | assumption | exact RFacts.drew (by assumption) | go_keep)))
    (first
      | (go_at_call_of 18 (Value.agg #[x]); go_split_ands; refine (KX1.out _).mono ?_; rintro e w3 ⟨rfl, hb3⟩)
      | (go_at_call_of 18 (Value.agg #[y]); go_split_ands; refine (KY1.out _).mono ?_; rintro e w3 ⟨rfl, hb3⟩)
      | (go_at_call_of 16 (Value.agg #[x]); go_split_ands; refine (NX1.out _).mono ?_; rintro e w3 ⟨rfl, hb3⟩)
      | (go_at_call_of 16 (Value.agg #[y]); go_split_ands; refine (NY1.out _).mono ?_; rintro e w3 ⟨rfl, hb3⟩))) | fail
  all_goals go_split_ands
  all_goals clear hund
  all_goals have c4 := RFacts.c4 (w := w) (x := x) (y := y) (i0 := i0) (i1 := i1) (by assumption)
  all_goals have f4 := RFacts.f4 (w := w) (x := x) (y := y) (i0 := i0) (i1 := i1) (by assumption)
  all_goals go_wp2
  all_goals exact bodyPost_ret (v := .agg #[.nilIface]) (by simp [results, Tryz.results19, go_sem, *]) rfl ⟨rfl, (RFacts.below (x := x) (y := y) (i0 := i0) (i1 := i1) (by assumption)).setCell (by show w.heap.size ≤ w.heap.size + 1 + 1 + 1; omega) _⟩
end Go.Proofs.YthmogphlnjpakaaGreatDoor
