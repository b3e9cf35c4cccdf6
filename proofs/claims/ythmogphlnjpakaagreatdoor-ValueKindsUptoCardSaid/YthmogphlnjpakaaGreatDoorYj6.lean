/-
  value.Range: case FTu.
-/
import Derived.Test.YthmogphlnjpakaaGreatDoorYi1
import Derived.Lib.QuietBelow
namespace Go.Proofs.YthmogphlnjpakaaGreatDoor
open Go Go.Ord Go.Typ Go.RowKit
attribute [local irreducible] wpQuiet wpAnyH
set_option maxRecDepth 100000 in
set_option maxHeartbeats 12800000 in
theorem range_FTu (w : World) (x y : Value) (ka : Int) (i0 i1 : Bool) (HKx : ∀ w, Calls Tryz.prog 18 #[.agg #[x]] w (OneOut w (.int .i64 ka))) (HKy : ∀ w, Calls Tryz.prog 18 #[.agg #[y]] w (OneOut w (.int .i64 1)))
    (HNx : ∀ w, Calls Tryz.prog 16 #[.agg #[x]] w (OneOut w (.bool false))) (HNy : ∀ w, Calls Tryz.prog 16 #[.agg #[y]] w (OneOut w (.bool true))) (ho : orderedK ka = false) (h1 : (ka != 1) = true) :
    Calls Tryz.prog 19 #[.agg #[x], .agg #[y], .agg #[.bool i0, .bool i1]] w (OneOut w (.agg #[.nilIface])) := by
  have KX1 := Lib.hid HKx
  have KY1 := Lib.hid HKy
  have NX1 := Lib.hid HNx
  have NY1 := Lib.hid HNy
  have HO := Lib.hid (fun w => ordered_is ho w)
  clear HKx HKy HNx HNy ho
  have F0 := rfacts0 w x y i0 i1
  go_enter Tryz.func19, Tryz.ntmps19
  go_wp2_with fail
  go_at_call 18
  refine (KX1.out _).mono ?_
  rintro e w1 ⟨rfl, hb1⟩
  have F1 := F0.on hb1
  have a1 := F1.c0
  go_wp2_with fail
  go_at_call 16
  refine (NX1.out _).mono ?_
  rintro e w2 ⟨rfl, hb2⟩
  have F2 := F1.on hb2
  clear a1 hb1 hb2 F0 F1
  go_wp2_with fail
  have hund : undef = Value.tuple #[] := rfl
  have HOO := Lib.hid (fun w => (HO.out w).mono fun e w' (h : _ ∧ _) => (⟨h.1, h.2 ▸ Below.refl _ _⟩ : OneOut w _ e w'))
  have k0 := cell_regrown F2.c0
  have k1 := cell_regrown F2.c1
  have cA := fun d os => Calls.regrown_of (KX1.out (Go.Sort.grow (redrawn w2 d) os))
  have cB := fun d os => Calls.regrown_of (KY1.out (Go.Sort.grow (redrawn w2 d) os))
  have cC := fun d os => Calls.regrown_of (NX1.out (Go.Sort.grow (redrawn w2 d) os))
  have cD := fun d os => Calls.regrown_of (NY1.out (Go.Sort.grow (redrawn w2 d) os))
  have cE := fun d os => Calls.regrown_of (HOO.out (Go.Sort.grow (redrawn w2 d) os))
  refine wp_region_quiet_below (by kernel_rfl) (by kernel_rfl) ?_
  repeat (quiet_step (first | (go_at_call_of 18 (Value.agg #[x]); exact cA _ _) | (go_at_call_of 18 (Value.agg #[y]); exact cB _ _) | (go_at_call_of 16 (Value.agg #[x]); exact cC _ _) | (go_at_call_of 16 (Value.agg #[y]); exact cD _ _) | (go_at_call 21; exact cE _ _)))
  refine wpQuiet_nil ?_
  intro _ hw'
  obtain ⟨⟨dq, osq⟩, hw''⟩ := hw'
  subst hw''
  have F9 := F2.on (below_regrown _ dq osq)
  clear k0 k1 cA cB cC cD hund
  have c4 := F9.c4
  have f4 := F9.f4
  go_wp2
  exact bodyPost_ret (v := .agg #[.nilIface]) (by simp [results, Tryz.results19, go_sem, *]) rfl ⟨rfl, F9.below.setCell (by show w.heap.size ≤ w.heap.size + 1 + 1 + 1; omega) _⟩
end Go.Proofs.YthmogphlnjpakaaGreatDoor
