/-
  TimefunSpans: the contract and the row's form, lifted.
-/
import Derived.Test.YtdbjbmdaekgbhaaGreatDoorWs
import Derived.Test.YtdbjbmdaekgbhaaGreatDoorVt
import Derived.SizedLaws
namespace Go.Proofs.YtdbjbmdaekgbhaaGreatDoor
open Go Go.Pe Go.RowKit Go.ChangeShapes Go.WideShapes Go.ChangeAt

set_option maxRecDepth 1000000 in
theorem timefunSpans_laidMet (os : Os) (args : Array Value) : laidMet Tryz.prog Rows.timefunSpansRow.laid ((laidWorldE os).forCall (fun _ _ => 0) ⟨#[], args, []⟩).memory :=
  (LaidIn.of_run (l := Rows.timefunSpansRow.laid) laidAtE 10 (by kernel_rfl) (by kernel_rfl) (by kernel_rfl) (by kernel_rfl)).met

set_option maxRecDepth 100000 in
theorem timefunSpans_contract (H : Type) (enc : TypeId × Value → H) (W : World) (base : Nat) (args : Array Value) (ds gs : List (DataW H)) (before : List MemPlace)
    (hval : ∀ (j : Nat) t v, Tryz.f3.params[j]? = some t → args[j]? = some v → Value.okWide Tryz.prog W .any base t v)
    (hW : DataW.Whole enc Tryz.prog Tryz.f3.params.toList Rows.timefunSpansSpec.vars false W args.toList ds gs before) (hL : laidMetH Tryz.prog Rows.timefunSpansRow.laid W) (hs : W.ShapedOpen Tryz.prog) :
    Calls Tryz.prog 3 args W fun e W' => ∃ v, e = .returned v ∧ Rows.timefunSpansSpec.post enc Tryz.prog Tryz.f3 false true false false W args v W' := by
  have hW' := hW
  obtain ⟨p, q, hA0, hV, rfl, hfz, hnd⟩ := hW
  have hA : DataW.TrodAll enc Tryz.prog W 0 (fun _ => true) true Tryz.f3.params.toList args.toList ds p := hA0
  rw [Tryz.params3] at hA hval
  obtain ⟨v0, vs0, d0, ds0, p0, q0, hargs, rfl, rfl, h0, r0⟩ := trodAll_cons hA
  obtain ⟨v1, vs1, d1, ds1, p1, q1, rfl, rfl, rfl, h1, r1⟩ := trodAll_cons r0
  obtain ⟨v2, vs2, d2, ds2, p2, q2, rfl, rfl, rfl, h2, r2⟩ := trodAll_cons r1
  obtain ⟨rfl, rfl, rfl⟩ := trodAll_nil r2
  obtain rfl : args = #[v0, v1, v2] := by cases args; simp_all
  obtain ⟨x0, rfl, _, _, w0⟩ := ChangeShapes.open_int Tryz.underlying3 (hval 0 _ v0 rfl rfl) h0
  obtain ⟨x1, rfl, _, _, w1⟩ := ChangeShapes.open_int Tryz.underlying3 (hval 1 _ v1 rfl rfl) h1
  obtain ⟨x2a, x2b, x2c, x2d, rfl, w2b, w2c, w2d⟩ := open_raw02 (hval 2 _ v2 rfl rfl) h2
  have hT := pow_tab (by kernel_rfl) hL
  refine (spans_calls hs hT x0 x1 x2a x2b x2c x2d w2b w2c).mono fun e W' ⟨he, hb⟩ => ?_
  exact ⟨_, he, post_law hW' rfl rfl laid_out (by kernel_rfl) (by kernel_rfl) Tryz.underlying4 hb⟩

set_option maxRecDepth 100000 in
theorem timefunSpans_lifted (os : Os) (started : os.Started) (H : Type) (enc : TypeId × Value → H) (F : Stop.Interp) :
    ReturnsInHanded {} Tryz.checked os 3 .any ((OpenSpec.ofChange Rows.timefunSpansSpec).preRow enc Tryz.prog Tryz.f3 Rows.timefunSpansRow.domain false Rows.timefunSpansRow.laid)
      (((OpenSpec.ofChange Rows.timefunSpansSpec).at F).post enc Tryz.prog Tryz.f3 false true false false) := by
  refine returnsInHanded_of_row (C := Tryz.checked) (s := OpenSpec.ofChange Rows.timefunSpansSpec) own started (by kernel_rfl) Tryz.func3
    (witness_row_atRef (enc := enc) (C := Tryz.checked) false (laidWorldE os) #[.int .i64 0, .int .i64 0, .agg #[.bool false, .int .u64 0, .int .u64 0, .int .i64 0]] rfl (by kernel_rfl) (by kernel_rfl) (by kernel_rfl)
      (OpenSpec.preRow_of_cond 8 (x := ([.lit (.int .i64 0), .lit (.int .i64 0), .agg [.lit (.bool false), .agg [.lit (.int .u64 0), .lit (.int .u64 0)], .lit (.int .i64 0)]], [], [])) (by kernel_rfl) (by kernel_rfl) (fun k hk => by cases hk) (by kernel_rfl) (timefunSpans_laidMet os _))) ?_
  intro W base args ds gs before hval hW _ _ _ hL hs _
  exact timefunSpans_contract H enc W base args ds gs before hval hW hL hs

end Go.Proofs.YtdbjbmdaekgbhaaGreatDoor
