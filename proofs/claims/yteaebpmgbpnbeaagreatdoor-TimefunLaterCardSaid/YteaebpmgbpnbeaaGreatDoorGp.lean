/-
  TimefunLater: the contract and the row's form, lifted.
-/
import Derived.Test.YteaebpmgbpnbeaaGreatDoorGl
namespace Go.Proofs.YteaebpmgbpnbeaaGreatDoor
open Go Go.Pe Go.RowKit Go.ChangeShapes Go.WideShapes Go.ChangeAt

set_option maxRecDepth 100000 in
theorem timefunLater_contract (H : Type) (enc : TypeId × Value → H) (W : World) (base : Nat) (args : Array Value) (ds gs : List (DataW H)) (before : List MemPlace)
    (hval : ∀ (j : Nat) t v, Tryz.f4.params[j]? = some t → args[j]? = some v → Value.okWide Tryz.prog W .any base t v)
    (hW : DataW.Whole enc Tryz.prog Tryz.f4.params.toList Rows.timefunLaterSpec.vars false W args.toList ds gs before) (hL : laidMetH Tryz.prog Rows.timefunLaterRow.laid W) (hs : W.ShapedOpen Tryz.prog) :
    Calls Tryz.prog 4 args W fun e W' => ∃ v, e = .returned v ∧ Rows.timefunLaterSpec.post enc Tryz.prog Tryz.f4 false true false false W args v W' := by
  have hW' := hW
  obtain ⟨p, q, hA0, hV, rfl, hfz, hnd⟩ := hW
  have hA : DataW.TrodAll enc Tryz.prog W 0 (fun _ => true) true Tryz.f4.params.toList args.toList ds p := hA0
  rw [Tryz.params4] at hA hval
  obtain ⟨v0, vs0, d0, ds0, p0, q0, hargs, rfl, rfl, h0, r0⟩ := trodAll_cons hA
  obtain ⟨v1, vs1, d1, ds1, p1, q1, rfl, rfl, rfl, h1, r1⟩ := trodAll_cons r0
  obtain ⟨v2, vs2, d2, ds2, p2, q2, rfl, rfl, rfl, h2, r2⟩ := trodAll_cons r1
  obtain ⟨rfl, rfl, rfl⟩ := trodAll_nil r2
  obtain rfl : args = #[v0, v1, v2] := by cases args; simp_all
  obtain ⟨x0a, x0b, x0c, x0d, x0e, x0f, rfl⟩ := open_raw (hval 0 _ v0 rfl rfl) h0
  obtain ⟨x1a, x1b, x1c, x1d, x1e, x1f, rfl⟩ := open_raw (hval 1 _ v1 rfl rfl) h1
  obtain ⟨x2, rfl, _, _, w2⟩ := ChangeShapes.open_int Tryz.underlying3 (hval 2 _ v2 rfl rfl) h2
  have hT := pow_tab (by kernel_rfl) hL
  refine (later_calls hs hT x0a x0b x0c x0d x0e x0f x1a x1b x1c x1d x1e x1f x2 (int_wf w2)).mono fun e W' ⟨he, hb⟩ => ?_
  exact ⟨_, he, post_law hW' rfl rfl laid_out (by kernel_rfl) (by kernel_rfl) Tryz.underlying4 hb⟩

set_option maxRecDepth 100000 in
theorem timefunLater_laid_met (os : Os) : laidMet Tryz.prog Rows.timefunLaterRow.laid ((laidWorld os).forCall (fun _ _ => 0) ⟨#[], #[.agg #[.int .i64 0, .int .i64 0, .int .i64 0, .int .i64 0, .int .i64 0, .bool false], .agg #[.int .i64 0, .int .i64 0, .int .i64 0, .int .i64 0, .int .i64 0, .bool false], .int .i64 0], []⟩).memory :=
  laidMet_of_run' 8 (by kernel_rfl) (by kernel_rfl)

set_option maxRecDepth 100000 in
theorem timefunLater_lifted (os : Os) (started : os.Started) (H : Type) (enc : TypeId × Value → H) (F : Stop.Interp) :
    ReturnsInHanded {} Tryz.checked os 4 .any ((OpenSpec.ofChange Rows.timefunLaterSpec).preRow enc Tryz.prog Tryz.f4 Rows.timefunLaterRow.domain false Rows.timefunLaterRow.laid)
      (((OpenSpec.ofChange Rows.timefunLaterSpec).at F).post enc Tryz.prog Tryz.f4 false true false false) := by
  refine returnsInHanded_of_row (C := Tryz.checked) (s := OpenSpec.ofChange Rows.timefunLaterSpec) own started (by kernel_rfl) Tryz.func4
    (witness_row_at (enc := enc) (C := Tryz.checked) false (laidWorld os) #[.agg #[.int .i64 0, .int .i64 0, .int .i64 0, .int .i64 0, .int .i64 0, .bool false], .agg #[.int .i64 0, .int .i64 0, .int .i64 0, .int .i64 0, .int .i64 0, .bool false], .int .i64 0] rfl (by kernel_rfl) (by kernel_rfl) (by kernel_rfl)
      (OpenSpec.preRow_of_cond 8 (x := ([.agg [.lit (.int .i64 0), .lit (.int .i64 0), .lit (.int .i64 0), .lit (.int .i64 0), .lit (.int .i64 0), .lit (.bool false)], .agg [.lit (.int .i64 0), .lit (.int .i64 0), .lit (.int .i64 0), .lit (.int .i64 0), .lit (.int .i64 0), .lit (.bool false)], .lit (.int .i64 0)], [], [])) (by kernel_rfl) (by kernel_rfl) (fun k hk => by cases hk) (by kernel_rfl) (timefunLater_laid_met os))) ?_
  intro W base args ds gs before hval hW _ _ _ hL hs _
  exact timefunLater_contract H enc W base args ds gs before hval hW hL hs

end Go.Proofs.YteaebpmgbpnbeaaGreatDoor
