/-
  TimefunMakes: the contract and the row's form, lifted.
-/
import Derived.Test.YteaebpmgbpnbeaaGreatDoorHl
namespace Go.Proofs.YteaebpmgbpnbeaaGreatDoor
open Go Go.Pe Go.RowKit Go.ChangeShapes Go.WideShapes Go.ChangeAt

set_option maxRecDepth 100000 in
theorem timefunMakes_contract (H : Type) (enc : TypeId × Value → H) (W : World) (base : Nat) (args : Array Value) (ds gs : List (DataW H)) (before : List MemPlace)
    (hval : ∀ (j : Nat) t v, Tryz.f7.params[j]? = some t → args[j]? = some v → Value.okWide Tryz.prog W .any base t v)
    (hW : DataW.Whole enc Tryz.prog Tryz.f7.params.toList Rows.timefunMakesSpec.vars false W args.toList ds gs before) (hL : laidMetH Tryz.prog Rows.timefunMakesRow.laid W) (hs : W.ShapedOpen Tryz.prog) :
    Calls Tryz.prog 7 args W fun e W' => ∃ v, e = .returned v ∧ Rows.timefunMakesSpec.post enc Tryz.prog Tryz.f7 false true false false W args v W' := by
  have hW' := hW
  obtain ⟨p, q, hA0, hV, rfl, hfz, hnd⟩ := hW
  have hA : DataW.TrodAll enc Tryz.prog W 0 (fun _ => true) true Tryz.f7.params.toList args.toList ds p := hA0
  rw [Tryz.params7] at hA hval
  obtain ⟨v0, vs0, d0, ds0, p0, q0, hargs, rfl, rfl, h0, r0⟩ := trodAll_cons hA
  obtain ⟨v1, vs1, d1, ds1, p1, q1, rfl, rfl, rfl, h1, r1⟩ := trodAll_cons r0
  obtain ⟨v2, vs2, d2, ds2, p2, q2, rfl, rfl, rfl, h2, r2⟩ := trodAll_cons r1
  obtain ⟨v3, vs3, d3, ds3, p3, q3, rfl, rfl, rfl, h3, r3⟩ := trodAll_cons r2
  obtain ⟨v4, vs4, d4, ds4, p4, q4, rfl, rfl, rfl, h4, r4⟩ := trodAll_cons r3
  obtain ⟨rfl, rfl, rfl⟩ := trodAll_nil r4
  obtain rfl : args = #[v0, v1, v2, v3, v4] := by cases args; simp_all
  obtain ⟨x0a, x0b, x0c, x0d, x0e, x0f, rfl⟩ := open_raw (hval 0 _ v0 rfl rfl) h0
  obtain ⟨x1, rfl, _, _, w1⟩ := ChangeShapes.open_int Tryz.underlying3 (hval 1 _ v1 rfl rfl) h1
  obtain ⟨x2, rfl, _, _, w2⟩ := ChangeShapes.open_int Tryz.underlying3 (hval 2 _ v2 rfl rfl) h2
  obtain ⟨x3, rfl, _, _, w3⟩ := ChangeShapes.open_int Tryz.underlying3 (hval 3 _ v3 rfl rfl) h3
  obtain ⟨x4, rfl, _, _, w4⟩ := ChangeShapes.open_int Tryz.underlying3 (hval 4 _ v4 rfl rfl) h4
  have hT := pow_tab (by kernel_rfl) hL
  refine (makes_calls hs hT x0a x0b x0c x0d x0e x0f x1 (int_wf w1) x2 (int_wf w2) x3 (int_wf w3) x4 (int_wf w4)).mono fun e W' ⟨he, hb⟩ => ?_
  exact ⟨_, he, post_law hW' rfl rfl laid_out (by kernel_rfl) (by kernel_rfl) Tryz.underlying4 hb⟩

set_option maxRecDepth 100000 in
theorem timefunMakes_laid_met (os : Os) : laidMet Tryz.prog Rows.timefunMakesRow.laid ((laidWorld os).forCall (fun _ _ => 0) ⟨#[], #[.agg #[.int .i64 0, .int .i64 0, .int .i64 0, .int .i64 0, .int .i64 0, .bool false], .int .i64 0, .int .i64 0, .int .i64 0, .int .i64 0], []⟩).memory :=
  laidMet_of_run' 8 (by kernel_rfl) (by kernel_rfl)

set_option maxRecDepth 100000 in
theorem timefunMakes_lifted (os : Os) (started : os.Started) (H : Type) (enc : TypeId × Value → H) (F : Stop.Interp) :
    ReturnsInHanded {} Tryz.checked os 7 .any ((OpenSpec.ofChange Rows.timefunMakesSpec).preRow enc Tryz.prog Tryz.f7 Rows.timefunMakesRow.domain false Rows.timefunMakesRow.laid)
      (((OpenSpec.ofChange Rows.timefunMakesSpec).at F).post enc Tryz.prog Tryz.f7 false true false false) := by
  refine returnsInHanded_of_row (C := Tryz.checked) (s := OpenSpec.ofChange Rows.timefunMakesSpec) own started (by kernel_rfl) Tryz.func7
    (witness_row_at (enc := enc) (C := Tryz.checked) false (laidWorld os) #[.agg #[.int .i64 0, .int .i64 0, .int .i64 0, .int .i64 0, .int .i64 0, .bool false], .int .i64 0, .int .i64 0, .int .i64 0, .int .i64 0] rfl (by kernel_rfl) (by kernel_rfl) (by kernel_rfl)
      (OpenSpec.preRow_of_cond 8 (x := ([.agg [.lit (.int .i64 0), .lit (.int .i64 0), .lit (.int .i64 0), .lit (.int .i64 0), .lit (.int .i64 0), .lit (.bool false)], .lit (.int .i64 0), .lit (.int .i64 0), .lit (.int .i64 0), .lit (.int .i64 0)], [], [])) (by kernel_rfl) (by kernel_rfl) (fun k hk => by cases hk) (by kernel_rfl) (timefunMakes_laid_met os))) ?_
  intro W base args ds gs before hval hW _ _ _ hL hs _
  exact timefunMakes_contract H enc W base args ds gs before hval hW hL hs

end Go.Proofs.YteaebpmgbpnbeaaGreatDoor
