/-
  value.Range: case FTo.
-/
import Derived.Test.YthmogphlnjpakaaGreatDoorYi1
import Derived.Lib.QuietBelow
namespace Go.Proofs.YthmogphlnjpakaaGreatDoor
open Go Go.Ord Go.Typ Go.RowKit
attribute [local irreducible] wpQuiet wpAnyH
set_option maxRecDepth 100000 in
set_option maxHeartbeats 12800000 in
theorem range_FTo (w : World) (x y : Value) (ka : Int) (i0 i1 : Bool) (HKx : ∀ w, Calls Tryz.prog 18 #[.agg #[x]] w (OneOut w (.int .i64 ka))) (HKy : ∀ w, Calls Tryz.prog 18 #[.agg #[y]] w (OneOut w (.int .i64 1)))
    (HNx : ∀ w, Calls Tryz.prog 16 #[.agg #[x]] w (OneOut w (.bool false))) (HNy : ∀ w, Calls Tryz.prog 16 #[.agg #[y]] w (OneOut w (.bool true))) (ho : orderedK ka = true) :
    Calls Tryz.prog 19 #[.agg #[x], .agg #[y], .agg #[.bool i0, .bool i1]] w (OneOut w (.agg #[.iface 111 (.agg #[x, y, .bool i0, .bool false])])) := by
  have KX1 := Lib.hid HKx
  have KY1 := Lib.hid HKy
  have NX1 := Lib.hid HNx
  have NY1 := Lib.hid HNy
  have HO := Lib.hid (fun w => ordered_is ho w)
  clear HKx HKy HNx HNy ho
  have F0 := rfacts0 w x y i0 i1
  go_enter Tryz.func19, Tryz.ntmps19
  go_wp2_with fail
  go_at_call 18
  refine (KX1.out _).mono ?_
  rintro e w1 ⟨rfl, hb1⟩
  have F1 := F0.on hb1
  have a1 := F1.c0
  go_wp2_with fail
  go_at_call 16
  refine (NX1.out _).mono ?_
  rintro e w2 ⟨rfl, hb2⟩
  have F2 := F1.on hb2
  clear a1 hb1 hb2 F0 F1
  go_wp2_with fail
  have hund : undef = Value.tuple #[] := rfl
  have HOO := Lib.hid (fun w => (HO.out w).mono fun e w' (h : _ ∧ _) => (⟨h.1, h.2 ▸ Below.refl _ _⟩ : OneOut w _ e w'))
  have k0 := cell_regrown F2.c0
  have k1 := cell_regrown F2.c1
  have cA := fun d os => Calls.regrown_of (KX1.out (Go.Sort.grow (redrawn w2 d) os))
  have cB := fun d os => Calls.regrown_of (KY1.out (Go.Sort.grow (redrawn w2 d) os))
  have cC := fun d os => Calls.regrown_of (NX1.out (Go.Sort.grow (redrawn w2 d) os))
  have cD := fun d os => Calls.regrown_of (NY1.out (Go.Sort.grow (redrawn w2 d) os))
  have cE := fun d os => Calls.regrown_of (HOO.out (Go.Sort.grow (redrawn w2 d) os))
  refine wp_region_quiet_below (by kernel_rfl) (by kernel_rfl) ?_
  repeat (quiet_step (first | (go_at_call_of 18 (Value.agg #[x]); exact cA _ _) | (go_at_call_of 18 (Value.agg #[y]); exact cB _ _) | (go_at_call_of 16 (Value.agg #[x]); exact cC _ _) | (go_at_call_of 16 (Value.agg #[y]); exact cD _ _) | (go_at_call 21; exact cE _ _)))
  refine wpQuiet_nil ?_
  intro _ hw'
  obtain ⟨⟨dq, osq⟩, hw''⟩ := hw'
  subst hw''
  have F9 := F2.on (below_regrown _ dq osq)
  clear k0 k1 cA cB cC cD hund
  go_wp2
  have G4 : R6 w x y i0 i1 _ := R6.of F9
  refine wp_region_held_drew (S := (fun w' => w'.cell? ⟨w.heap.size, 0, none⟩ = some x ∧ w'.cell? ⟨w.heap.size + 1, 0, none⟩ = some y ∧ w'.cell? ⟨w.heap.size + 1 + 1, 0, none⟩ = some (.bool i0) ∧ w'.cell? ⟨w.heap.size + 1 + 1, 1, none⟩ = some (.bool i1) ∧ w'.frozen? ⟨w.heap.size + 1 + 1 + 1, 0, none⟩ = false ∧ R6 w x y i0 i1 w')) (by kernel_rfl) (s6 G4.drew) (fun hS => ?_)
  clear F9
  refine tkY 0 (v := ?_) rfl (by kernel_rfl) (fun _ _ _ h => h) (fun w hw => ?_) hS ?_
  rotate_left
  · go_simp; try with_reducible rfl
  try simp only [Act.put, la, lb, lc]
  refine tkY 1 (v := ?_) rfl (by kernel_rfl) (fun _ _ _ h => h) (fun w hw => ?_) hS ?_
  rotate_left
  · go_simp; try with_reducible rfl
  try simp only [Act.put, la, lb, lc]
  refine tkY 2 (v := ?_) rfl (by kernel_rfl) (fun _ _ _ h => h) (fun w hw => ?_) hS ?_
  rotate_left
  · go_simp; try with_reducible rfl
  try simp only [Act.put, la, lb, lc]
  refine tkY 3 (v := ?_) rfl (by kernel_rfl) (fun _ _ _ h => h) (fun w hw => ?_) hS ?_
  rotate_left
  · go_simp; try with_reducible rfl
  try simp only [Act.put, la, lb, lc]
  refine tkY 4 (v := ?_) rfl (by kernel_rfl) (fun _ _ _ h => h) (fun w hw => ?_) hS ?_
  rotate_left
  · go_simp; try with_reducible rfl
  try simp only [Act.put, la, lb, lc]
  refine tkY 5 (v := ?_) rfl (by kernel_rfl) (fun _ _ _ h => h) (fun w hw => ?_) hS ?_
  rotate_left
  · go_simp; try with_reducible rfl
  try simp only [Act.put, la, lb, lc]
  refine tkY 10 (v := ?_) rfl (by kernel_rfl) (fun _ _ _ h => h) (fun w hw => ?_) hS ?_
  rotate_left
  · go_simp; try with_reducible rfl
  try simp only [Act.put, la, lb, lc]
  refine tkY 11 (v := ?_) rfl (by kernel_rfl) (fun _ _ _ h => h) (fun w hw => ?_) hS ?_
  rotate_left
  · go_simp; try with_reducible rfl
  try simp only [Act.put, la, lb, lc]
  cases i0
  · refine tkN 6 rfl (by kernel_rfl) (fun _ _ _ h => h) hS ?_
    try simp only [Act.put, la, lb, lc]
    refine tkN 7 rfl (by kernel_rfl) (fun _ _ _ h => h) hS ?_
    try simp only [Act.put, la, lb, lc]
    refine tkY 12 (v := ?_) rfl (by kernel_rfl) (fun _ _ _ h => h) (fun w hw => ?_) hS ?_
    rotate_left
    · go_simp; try with_reducible rfl
    try simp only [Act.put, la, lb, lc]
    refine tkN 8 rfl (by kernel_rfl) (fun _ _ _ h => h) hS ?_
    try simp only [Act.put, la, lb, lc]
    refine tkY 9 (v := ?_) rfl (by kernel_rfl) (fun _ _ _ h => h) (fun w hw => ?_) hS ?_
    rotate_left
    · go_simp; try with_reducible rfl
    try simp only [Act.put, la, lb, lc]
    cases i1
    · refine tkN 13 rfl (by kernel_rfl) (fun _ _ _ h => h) hS ?_
      try simp only [Act.put, la, lb, lc]
      refine tkN 14 rfl (by kernel_rfl) (fun _ _ _ h => h) hS ?_
      try simp only [Act.put, la, lb, lc]
      refine tkN 15 rfl (by kernel_rfl) (fun _ _ _ h => h) hS ?_
      try simp only [Act.put, la, lb, lc]
      refine tkY 16 (v := ?_) rfl (by kernel_rfl) (fun _ _ _ h => h) (fun w hw => ?_) hS ?_
      rotate_left
      · go_simp; try with_reducible rfl
      try simp only [Act.put, la, lb, lc]
      refine tkY 17 (v := ?_) rfl (by kernel_rfl) (fun _ _ _ h => h) (fun w hw => ?_) hS ?_
      rotate_left
      · go_simp; try with_reducible rfl
      try simp only [Act.put, la, lb, lc]
      refine tkY 18 (v := ?_) rfl (by kernel_rfl) (fun _ _ _ h => h) (fun w hw => ?_) hS ?_
      rotate_left
      · go_simp; try with_reducible rfl
      try simp only [Act.put, la, lb, lc]
      refine tkY 19 (v := ?_) rfl (by kernel_rfl) (fun _ _ _ h => h) (fun w hw => ?_) hS ?_
      rotate_left
      · go_simp; try with_reducible rfl
      try simp only [Act.put, la, lb, lc]
      refine tkY 20 (v := ?_) rfl (by kernel_rfl) (fun _ _ _ h => h) (fun w hw => ?_) hS ?_
      rotate_left
      · go_simp; try with_reducible rfl
      try simp only [Act.put, la, lb, lc]
      refine tk1 21 rfl (by kernel_rfl) (by kernel_rfl) fun K hK => ?_
      obtain ⟨uu, huu⟩ := hS.2.2.2.2.2.has
      have hfz := hS.2.2.2.2.1
      go_simp
      refine hK.out _ _ (s6 (hS.2.2.2.2.2.set _)) (fun hS9 => ?_)
      refine wpAnyH_done (by kernel_rfl) ?_ _
      go_wp2
      exact bodyPost_ret (v := .agg #[.iface 111 (.agg #[x, y, .bool false, .bool false])]) (by first | (simp [results, Tryz.results19, go_sem, hS.2.2.2.2.2.res]; done) | (simp [results, Tryz.results19, go_sem, R6.res G4]; done)) rfl ⟨rfl, hS9.2.2.2.2.2.below⟩
    · refine tkY 13 (v := ?_) rfl (by kernel_rfl) (fun _ _ _ h => h) (fun w hw => ?_) hS ?_
      rotate_left
      · go_simp; try with_reducible rfl
      try simp only [Act.put, la, lb, lc]
      refine tk1 14 rfl (by kernel_rfl) (by kernel_rfl) fun K hK => ?_
      go_simp
      go_at_call 16
      refine (NY1.out _).mono ?_
      rintro e w3 ⟨rfl, hb3⟩
      try go_wp2_with fail
      refine hK.out _ _ (s6 (hS.2.2.2.2.2.on hb3)) (fun hS => ?_)
      clear hK K
      try simp only [Act.put, la, lb, lc]
      refine tkY 15 (v := ?_) rfl (by kernel_rfl) (fun _ _ _ h => h) (fun w hw => ?_) hS ?_
      rotate_left
      · go_simp; try with_reducible rfl
      try simp only [Act.put, la, lb, lc]
      refine tkY 16 (v := ?_) rfl (by kernel_rfl) (fun _ _ _ h => h) (fun w hw => ?_) hS ?_
      rotate_left
      · go_simp; try with_reducible rfl
      try simp only [Act.put, la, lb, lc]
      refine tkY 17 (v := ?_) rfl (by kernel_rfl) (fun _ _ _ h => h) (fun w hw => ?_) hS ?_
      rotate_left
      · go_simp; try with_reducible rfl
      try simp only [Act.put, la, lb, lc]
      refine tkY 18 (v := ?_) rfl (by kernel_rfl) (fun _ _ _ h => h) (fun w hw => ?_) hS ?_
      rotate_left
      · go_simp; try with_reducible rfl
      try simp only [Act.put, la, lb, lc]
      refine tkY 19 (v := ?_) rfl (by kernel_rfl) (fun _ _ _ h => h) (fun w hw => ?_) hS ?_
      rotate_left
      · go_simp; try with_reducible rfl
      try simp only [Act.put, la, lb, lc]
      refine tkY 20 (v := ?_) rfl (by kernel_rfl) (fun _ _ _ h => h) (fun w hw => ?_) hS ?_
      rotate_left
      · go_simp; try with_reducible rfl
      try simp only [Act.put, la, lb, lc]
      refine tk1 21 rfl (by kernel_rfl) (by kernel_rfl) fun K hK => ?_
      obtain ⟨uu, huu⟩ := hS.2.2.2.2.2.has
      have hfz := hS.2.2.2.2.1
      go_simp
      refine hK.out _ _ (s6 (hS.2.2.2.2.2.set _)) (fun hS9 => ?_)
      refine wpAnyH_done (by kernel_rfl) ?_ _
      go_wp2
      exact bodyPost_ret (v := .agg #[.iface 111 (.agg #[x, y, .bool false, .bool false])]) (by first | (simp [results, Tryz.results19, go_sem, hS.2.2.2.2.2.res]; done) | (simp [results, Tryz.results19, go_sem, R6.res G4]; done)) rfl ⟨rfl, hS9.2.2.2.2.2.below⟩
  · refine tkY 6 (v := ?_) rfl (by kernel_rfl) (fun _ _ _ h => h) (fun w hw => ?_) hS ?_
    rotate_left
    · go_simp; try with_reducible rfl
    try simp only [Act.put, la, lb, lc]
    refine tk1 7 rfl (by kernel_rfl) (by kernel_rfl) fun K hK => ?_
    go_simp
    go_at_call 16
    refine (NX1.out _).mono ?_
    rintro e w3 ⟨rfl, hb3⟩
    try go_wp2_with fail
    refine hK.out _ _ (s6 (hS.2.2.2.2.2.on hb3)) (fun hS => ?_)
    clear hK K
    try simp only [Act.put, la, lb, lc]
    refine tkY 12 (v := ?_) rfl (by kernel_rfl) (fun _ _ _ h => h) (fun w hw => ?_) hS ?_
    rotate_left
    · go_simp; try with_reducible rfl
    try simp only [Act.put, la, lb, lc]
    refine tkY 8 (v := ?_) rfl (by kernel_rfl) (fun _ _ _ h => h) (fun w hw => ?_) hS ?_
    rotate_left
    · go_simp; try with_reducible rfl
    try simp only [Act.put, la, lb, lc]
    refine tkY 9 (v := ?_) rfl (by kernel_rfl) (fun _ _ _ h => h) (fun w hw => ?_) hS ?_
    rotate_left
    · go_simp; try with_reducible rfl
    try simp only [Act.put, la, lb, lc]
    cases i1
    · refine tkN 13 rfl (by kernel_rfl) (fun _ _ _ h => h) hS ?_
      try simp only [Act.put, la, lb, lc]
      refine tkN 14 rfl (by kernel_rfl) (fun _ _ _ h => h) hS ?_
      try simp only [Act.put, la, lb, lc]
      refine tkN 15 rfl (by kernel_rfl) (fun _ _ _ h => h) hS ?_
      try simp only [Act.put, la, lb, lc]
      refine tkY 16 (v := ?_) rfl (by kernel_rfl) (fun _ _ _ h => h) (fun w hw => ?_) hS ?_
      rotate_left
      · go_simp; try with_reducible rfl
      try simp only [Act.put, la, lb, lc]
      refine tkY 17 (v := ?_) rfl (by kernel_rfl) (fun _ _ _ h => h) (fun w hw => ?_) hS ?_
      rotate_left
      · go_simp; try with_reducible rfl
      try simp only [Act.put, la, lb, lc]
      refine tkY 18 (v := ?_) rfl (by kernel_rfl) (fun _ _ _ h => h) (fun w hw => ?_) hS ?_
      rotate_left
      · go_simp; try with_reducible rfl
      try simp only [Act.put, la, lb, lc]
      refine tkY 19 (v := ?_) rfl (by kernel_rfl) (fun _ _ _ h => h) (fun w hw => ?_) hS ?_
      rotate_left
      · go_simp; try with_reducible rfl
      try simp only [Act.put, la, lb, lc]
      refine tkY 20 (v := ?_) rfl (by kernel_rfl) (fun _ _ _ h => h) (fun w hw => ?_) hS ?_
      rotate_left
      · go_simp; try with_reducible rfl
      try simp only [Act.put, la, lb, lc]
      refine tk1 21 rfl (by kernel_rfl) (by kernel_rfl) fun K hK => ?_
      obtain ⟨uu, huu⟩ := hS.2.2.2.2.2.has
      have hfz := hS.2.2.2.2.1
      go_simp
      refine hK.out _ _ (s6 (hS.2.2.2.2.2.set _)) (fun hS9 => ?_)
      refine wpAnyH_done (by kernel_rfl) ?_ _
      go_wp2
      exact bodyPost_ret (v := .agg #[.iface 111 (.agg #[x, y, .bool true, .bool false])]) (by first | (simp [results, Tryz.results19, go_sem, hS.2.2.2.2.2.res]; done) | (simp [results, Tryz.results19, go_sem, R6.res G4]; done)) rfl ⟨rfl, hS9.2.2.2.2.2.below⟩
    · refine tkY 13 (v := ?_) rfl (by kernel_rfl) (fun _ _ _ h => h) (fun w hw => ?_) hS ?_
      rotate_left
      · go_simp; try with_reducible rfl
      try simp only [Act.put, la, lb, lc]
      refine tk1 14 rfl (by kernel_rfl) (by kernel_rfl) fun K hK => ?_
      go_simp
      go_at_call 16
      refine (NY1.out _).mono ?_
      rintro e w3 ⟨rfl, hb3⟩
      try go_wp2_with fail
      refine hK.out _ _ (s6 (hS.2.2.2.2.2.on hb3)) (fun hS => ?_)
      clear hK K
      try simp only [Act.put, la, lb, lc]
      refine tkY 15 (v := ?_) rfl (by kernel_rfl) (fun _ _ _ h => h) (fun w hw => ?_) hS ?_
      rotate_left
      · go_simp; try with_reducible rfl
      try simp only [Act.put, la, lb, lc]
      refine tkY 16 (v := ?_) rfl (by kernel_rfl) (fun _ _ _ h => h) (fun w hw => ?_) hS ?_
      rotate_left
      · go_simp; try with_reducible rfl
      try simp only [Act.put, la, lb, lc]
      refine tkY 17 (v := ?_) rfl (by kernel_rfl) (fun _ _ _ h => h) (fun w hw => ?_) hS ?_
      rotate_left
      · go_simp; try with_reducible rfl
      try simp only [Act.put, la, lb, lc]
      refine tkY 18 (v := ?_) rfl (by kernel_rfl) (fun _ _ _ h => h) (fun w hw => ?_) hS ?_
      rotate_left
      · go_simp; try with_reducible rfl
      try simp only [Act.put, la, lb, lc]
      refine tkY 19 (v := ?_) rfl (by kernel_rfl) (fun _ _ _ h => h) (fun w hw => ?_) hS ?_
      rotate_left
      · go_simp; try with_reducible rfl
      try simp only [Act.put, la, lb, lc]
      refine tkY 20 (v := ?_) rfl (by kernel_rfl) (fun _ _ _ h => h) (fun w hw => ?_) hS ?_
      rotate_left
      · go_simp; try with_reducible rfl
      try simp only [Act.put, la, lb, lc]
      refine tk1 21 rfl (by kernel_rfl) (by kernel_rfl) fun K hK => ?_
      obtain ⟨uu, huu⟩ := hS.2.2.2.2.2.has
      have hfz := hS.2.2.2.2.1
      go_simp
      refine hK.out _ _ (s6 (hS.2.2.2.2.2.set _)) (fun hS9 => ?_)
      refine wpAnyH_done (by kernel_rfl) ?_ _
      go_wp2
      exact bodyPost_ret (v := .agg #[.iface 111 (.agg #[x, y, .bool true, .bool false])]) (by first | (simp [results, Tryz.results19, go_sem, hS.2.2.2.2.2.res]; done) | (simp [results, Tryz.results19, go_sem, R6.res G4]; done)) rfl ⟨rfl, hS9.2.2.2.2.2.below⟩
end Go.Proofs.YthmogphlnjpakaaGreatDoor
