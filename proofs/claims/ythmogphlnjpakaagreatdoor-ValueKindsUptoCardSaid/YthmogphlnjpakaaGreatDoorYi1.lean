/-
  value.Range.
  value.Range: case FFn.
-/
import Derived.Test.YthmogphlnjpakaaGreatDoorYe1
import Derived.Lib.QuietBelow

namespace Go.Proofs.YthmogphlnjpakaaGreatDoor
open Go Go.Ord Go.Typ Go.RowKit
structure RFacts (w : World) (x y : Value) (i0 i1 : Bool) (w' : World) : Prop where
  c0 : w'.cell? ⟨w.heap.size, 0, none⟩ = some x
  c1 : w'.cell? ⟨w.heap.size + 1, 0, none⟩ = some y
  c2 : w'.cell? ⟨w.heap.size + 1 + 1, 0, none⟩ = some (.bool i0)
  c3 : w'.cell? ⟨w.heap.size + 1 + 1, 1, none⟩ = some (.bool i1)
  c4 : w'.cell? ⟨w.heap.size + 1 + 1 + 1, 0, none⟩ = some .nilIface
  f4 : w'.frozen? ⟨w.heap.size + 1 + 1 + 1, 0, none⟩ = false
  below : Below w.heap.size w w'
  size : w.heap.size + 4 ≤ w'.heap.size
theorem RFacts.drew {w : World} {x y : Value} {i0 i1 : Bool} {w' : World} (h : RFacts w x y i0 i1 w') : RFacts w x y i0 i1 w'.drew := ⟨h.c0, h.c1, h.c2, h.c3, h.c4, h.f4, h.below.drew, h.size⟩
theorem RFacts.on {w : World} {x y : Value} {i0 i1 : Bool} {w' w1 : World} (h : RFacts w x y i0 i1 w') (hb : Below w'.heap.size w' w1) : RFacts w x y i0 i1 w1 := by
  have hs := h.size
  refine ⟨(hb.cell ?_).trans h.c0, (hb.cell ?_).trans h.c1, (hb.cell ?_).trans h.c2, (hb.cell ?_).trans h.c3, (hb.cell ?_).trans h.c4, (hb.frozen ?_).trans h.f4, h.below.trans (hb.mono h.below.size), Nat.le_trans hs hb.size⟩
  · show w.heap.size < _; omega
  · show w.heap.size + 1 < _; omega
  · show w.heap.size + 1 + 1 < _; omega
  · show w.heap.size + 1 + 1 < _; omega
  · show w.heap.size + 1 + 1 + 1 < _; omega
  · show w.heap.size + 1 + 1 + 1 < _; omega
theorem rfacts0 (w : World) (x y : Value) (i0 i1 : Bool) : RFacts w x y i0 i1 ((((w.alloc (.cells #[x] 30)).alloc (.cells #[y] 30)).alloc (.cells #[.bool i0, .bool i1] 24)).alloc (.cells #[.nilIface] 30)) := by
  refine ⟨?_, ?_, ?_, ?_, ?_, ?_, ?_, by simp⟩
  · rw [World.cell?_alloc_past _ _ _ (by simp <;> omega), World.cell?_alloc_past _ _ _ (by simp <;> omega), World.cell?_alloc_past _ _ _ (by simp <;> omega), World.cell?_alloc_at _ _ _ _ rfl]; rfl
  · rw [World.cell?_alloc_past _ _ _ (by simp <;> omega), World.cell?_alloc_past _ _ _ (by simp <;> omega), World.cell?_alloc_at _ _ _ _ (by simp <;> omega)]; rfl
  · rw [World.cell?_alloc_past _ _ _ (by simp <;> omega), World.cell?_alloc_at _ _ _ _ (by simp <;> omega)]; rfl
  · rw [World.cell?_alloc_past _ _ _ (by simp <;> omega), World.cell?_alloc_at _ _ _ _ (by simp <;> omega)]; rfl
  · rw [World.cell?_alloc_at _ _ _ _ (by simp <;> omega)]; rfl
  · exact World.frozen?_alloc_at _ _ _ _ (by simp <;> omega)
  · exact (box_three _ _ _ _).alloc (by simp <;> omega) _
structure R6 (w : World) (x y : Value) (i0 i1 : Bool) (w' : World) : Prop where
  c0 : w'.cell? ⟨w.heap.size, 0, none⟩ = some x
  c1 : w'.cell? ⟨w.heap.size + 1, 0, none⟩ = some y
  c2 : w'.cell? ⟨w.heap.size + 1 + 1, 0, none⟩ = some (.bool i0)
  c3 : w'.cell? ⟨w.heap.size + 1 + 1, 1, none⟩ = some (.bool i1)
  has : ∃ u, w'.cell? ⟨w.heap.size + 1 + 1 + 1, 0, none⟩ = some u
  f4 : w'.frozen? ⟨w.heap.size + 1 + 1 + 1, 0, none⟩ = false
  below : Below w.heap.size w w'
  size : w.heap.size + 4 ≤ w'.heap.size
theorem R6.drew {w : World} {x y : Value} {i0 i1 : Bool} {w' : World} (h : R6 w x y i0 i1 w') : R6 w x y i0 i1 w'.drew := ⟨h.c0, h.c1, h.c2, h.c3, h.has, h.f4, h.below.drew, h.size⟩
theorem R6.on {w : World} {x y : Value} {i0 i1 : Bool} {w' w1 : World} (h : R6 w x y i0 i1 w') (hb : Below w'.heap.size w' w1) : R6 w x y i0 i1 w1 := by
  have hs := h.size
  obtain ⟨u, hu⟩ := h.has
  refine ⟨(hb.cell ?_).trans h.c0, (hb.cell ?_).trans h.c1, (hb.cell ?_).trans h.c2, (hb.cell ?_).trans h.c3, ⟨u, (hb.cell ?_).trans hu⟩, (hb.frozen ?_).trans h.f4, h.below.trans (hb.mono h.below.size), Nat.le_trans hs hb.size⟩
  · show w.heap.size < _; omega
  · show w.heap.size + 1 < _; omega
  · show w.heap.size + 1 + 1 < _; omega
  · show w.heap.size + 1 + 1 < _; omega
  · show w.heap.size + 1 + 1 + 1 < _; omega
  · show w.heap.size + 1 + 1 + 1 < _; omega
theorem R6.set {w : World} {x y : Value} {i0 i1 : Bool} {w' : World} (h : R6 w x y i0 i1 w') (v : Value) : R6 w x y i0 i1 (w'.setCell ⟨w.heap.size + 1 + 1 + 1, 0, none⟩ v) := by
  obtain ⟨u, hu⟩ := h.has
  refine ⟨(World.cell?_setCell_other _ _ _ _ (by simp <;> omega)).trans h.c0, (World.cell?_setCell_other _ _ _ _ (by simp <;> omega)).trans h.c1, (World.cell?_setCell_other _ _ _ _ (by simp)).trans h.c2, (World.cell?_setCell_other _ _ _ _ (by simp)).trans h.c3, ⟨v, World.cell?_setCell_same _ _ _ hu⟩, (World.frozen?_setCell _ _ _ _).trans h.f4, h.below.setCell (by show w.heap.size ≤ w.heap.size + 1 + 1 + 1; omega) _, by simpa using h.size⟩
theorem R6.of {w : World} {x y : Value} {i0 i1 : Bool} {w' : World} (h : RFacts w x y i0 i1 w') : R6 w x y i0 i1 w' := ⟨h.c0, h.c1, h.c2, h.c3, ⟨_, h.c4⟩, h.f4, h.below, h.size⟩
theorem s6 {w : World} {x y : Value} {i0 i1 : Bool} {w' : World} (h : R6 w x y i0 i1 w') : w'.cell? ⟨w.heap.size, 0, none⟩ = some x ∧ w'.cell? ⟨w.heap.size + 1, 0, none⟩ = some y ∧ w'.cell? ⟨w.heap.size + 1 + 1, 0, none⟩ = some (.bool i0) ∧ w'.cell? ⟨w.heap.size + 1 + 1, 1, none⟩ = some (.bool i1) ∧ w'.frozen? ⟨w.heap.size + 1 + 1 + 1, 0, none⟩ = false ∧ R6 w x y i0 i1 w' := ⟨h.c0, h.c1, h.c2, h.c3, h.f4, h⟩
theorem ordered_is {k : Int} {b : Bool} (h : orderedK k = b) (w : World) : Calls Tryz.prog 21 #[.int .i64 k] w fun e w' => e = .returned (.bool b) ∧ w = w' := by
  subst h
  exact ordered_any k w
theorem R6.res {w : World} {x y : Value} {i0 i1 : Bool} {w' : World} (h : R6 w x y i0 i1 w') (v : Value) : (w'.setCell ⟨w.heap.size + 1 + 1 + 1, 0, none⟩ v).cell? ⟨w.heap.size + 1 + 1 + 1, 0, none⟩ = some v := by
  obtain ⟨u, hu⟩ := h.has
  exact World.cell?_setCell_same _ _ _ hu
theorem la {α : Type} (l : List α) (i : Nat) (a : α) : l.toArray.setIfInBounds i a = (l.set i a).toArray := List.setIfInBounds_toArray l i a
theorem lb {α : Type} (x : α) (l : List α) (a : α) : (x :: l).set 0 a = a :: l := rfl
theorem lc {α : Type} (x : α) (l : List α) (n : Nat) (a : α) : (x :: l).set (n + 1) a = x :: l.set n a := rfl
def canT (md : Region.Mode) (l : List Oper) (listed : Array Bool) (i : Nat) : Bool := Region.noSelect l.toArray && Region.free md l.toArray listed i && (Region.ready md l.toArray listed).contains i
theorem tkY {P : Program} {md : Region.Mode} {Q : Exit → Act → World → Prop} {S : World → Prop} {l : List Oper} (i : Nat) {oi : Oper} {v : Value} {fuel : Nat} {listed : Array Bool} {a : Act} {w : World} (hi : l[i]? = some oi)
    (hc : (canT md l listed i && Region.wanted oi (yielded l.toArray a.tmps)) = true) (hQ : ∀ c a w, Q (.panic c) (a.put oi.dst v) w → Q (.panic c) a w) (hv : ∀ w, S w → (execOp a.eval oi).run P w = .ok (.value v) w) (hS : S w)
    (h : wpAnyH P md l.toArray Q S fuel (listed.setIfInBounds i true) (a.put oi.dst v) w) : wpAnyH P md l.toArray Q S (fuel + 1) listed a w := by
  simp only [canT, Bool.and_eq_true] at hc
  exact wpAnyH_take (by simpa using hi) hc.1.1.1 hc.1.1.2 hc.1.2 hQ (.inl ⟨hc.2, hv⟩) hS h
theorem tkN {P : Program} {md : Region.Mode} {Q : Exit → Act → World → Prop} {S : World → Prop} {l : List Oper} (i : Nat) {oi : Oper} {fuel : Nat} {listed : Array Bool} {a : Act} {w : World} (hi : l[i]? = some oi)
    (hc : (canT md l listed i && !Region.wanted oi (yielded l.toArray a.tmps)) = true) (hQ : ∀ c a w, Q (.panic c) (a.put oi.dst undef) w → Q (.panic c) a w) (hS : S w)
    (h : wpAnyH P md l.toArray Q S fuel (listed.setIfInBounds i true) (a.put oi.dst undef) w) : wpAnyH P md l.toArray Q S (fuel + 1) listed a w := by
  simp only [canT, Bool.and_eq_true, Bool.not_eq_true'] at hc
  exact wpAnyH_take (by simpa using hi) hc.1.1.1 hc.1.1.2 hc.1.2 hQ (.inr ⟨hc.2, rfl⟩) hS h
theorem tk1 {P : Program} {md : Region.Mode} {Q : Exit → Act → World → Prop} {S : World → Prop} {l : List Oper} (i : Nat) {o : Oper} {fuel : Nat} {listed : Array Bool} {a : Act} {w : World} (ho : l[i]? = some o) (hr : Region.ready md l.toArray listed = [i])
    (hw : Region.wanted o (yielded l.toArray a.tmps) = true) (h : ∀ K' : Act → World → Prop, Shut (∀ a w, S w → (S w → wpAnyH P md l.toArray Q S fuel (listed.setIfInBounds i true) a w) → K' a w) → Oper.wp P o a w K' Q) : wpAnyH P md l.toArray Q S (fuel + 1) listed a w :=
  wpAnyH_ready hr (by simp) (AllReadyH.cons (by simpa using ho) (fun K hK => by rw [if_pos hw]; exact h K hK) AllReadyH.nil)
end Go.Proofs.YthmogphlnjpakaaGreatDoor

namespace Go.Proofs.YthmogphlnjpakaaGreatDoor
open Go Go.Ord Go.Typ Go.RowKit
attribute [local irreducible] wpQuiet wpAnyH
set_option maxRecDepth 100000 in
set_option maxHeartbeats 12800000 in
theorem range_FFn (w : World) (x y : Value) (ka kb : Int) (i0 i1 : Bool) (HKx : ∀ w, Calls Tryz.prog 18 #[.agg #[x]] w (OneOut w (.int .i64 ka))) (HKy : ∀ w, Calls Tryz.prog 18 #[.agg #[y]] w (OneOut w (.int .i64 kb)))
    (HNx : ∀ w, Calls Tryz.prog 16 #[.agg #[x]] w (OneOut w (.bool false))) (HNy : ∀ w, Calls Tryz.prog 16 #[.agg #[y]] w (OneOut w (.bool false))) (hd : (kb != ka) = true) :
    Calls Tryz.prog 19 #[.agg #[x], .agg #[y], .agg #[.bool i0, .bool i1]] w (OneOut w (.agg #[.nilIface])) := by
  have KX1 := Lib.hid HKx
  have KY1 := Lib.hid HKy
  have NX1 := Lib.hid HNx
  have NY1 := Lib.hid HNy
  clear HKx HKy HNx HNy
  have F0 := rfacts0 w x y i0 i1
  go_enter Tryz.func19, Tryz.ntmps19
  go_wp2_with fail
  go_at_call 18
  refine (KX1.out _).mono ?_
  rintro e w1 ⟨rfl, hb1⟩
  have F1 := F0.on hb1
  have a1 := F1.c0
  go_wp2_with fail
  go_at_call 16
  refine (NX1.out _).mono ?_
  rintro e w2 ⟨rfl, hb2⟩
  have F2 := F1.on hb2
  clear a1 hb1 hb2 F0 F1
  go_wp2_with fail
  have hund : undef = Value.tuple #[] := rfl
  have k0 := cell_regrown F2.c0
  have k1 := cell_regrown F2.c1
  have cA := fun d os => Calls.regrown_of (KX1.out (Go.Sort.grow (redrawn w2 d) os))
  have cB := fun d os => Calls.regrown_of (KY1.out (Go.Sort.grow (redrawn w2 d) os))
  have cC := fun d os => Calls.regrown_of (NX1.out (Go.Sort.grow (redrawn w2 d) os))
  have cD := fun d os => Calls.regrown_of (NY1.out (Go.Sort.grow (redrawn w2 d) os))
  refine wp_region_quiet_below (by kernel_rfl) (by kernel_rfl) ?_
  repeat (quiet_step (first | (go_at_call_of 18 (Value.agg #[x]); exact cA _ _) | (go_at_call_of 18 (Value.agg #[y]); exact cB _ _) | (go_at_call_of 16 (Value.agg #[x]); exact cC _ _) | (go_at_call_of 16 (Value.agg #[y]); exact cD _ _)))
  refine wpQuiet_nil ?_
  intro _ hw'
  obtain ⟨⟨dq, osq⟩, hw''⟩ := hw'
  subst hw''
  have F9 := F2.on (below_regrown _ dq osq)
  clear k0 k1 cA cB cC cD hund
  have c4 := F9.c4
  have f4 := F9.f4
  go_wp2
  exact bodyPost_ret (v := .agg #[.nilIface]) (by simp [results, Tryz.results19, go_sem, *]) rfl ⟨rfl, F9.below.setCell (by show w.heap.size ≤ w.heap.size + 1 + 1 + 1; omega) _⟩
end Go.Proofs.YthmogphlnjpakaaGreatDoor
