/-
  ValueApart: the contract and the row's form, lifted.
-/
import Derived.Test.YtdbjbmdaekgbhaaGreatDoorAq
import Derived.Test.YtdbjbmdaekgbhaaGreatDoorVt
import Derived.SizedLaws
namespace Go.Proofs.YtdbjbmdaekgbhaaGreatDoor
open Go Go.Pe Go.RowKit Go.ChangeShapes Go.WideShapes Go.ChangeAt

set_option maxRecDepth 1000000 in
theorem valueApart_laidMet (os : Os) (args : Array Value) : laidMet Tryz.prog Rows.valueApartRow.laid ((laidWorldE os).forCall (fun _ _ => 0) ⟨#[], args, []⟩).memory :=
  (LaidIn.of_run (l := Rows.valueApartRow.laid) laidAtE 10 (by kernel_rfl) (by kernel_rfl) (by kernel_rfl) (by kernel_rfl)).met

set_option maxRecDepth 100000 in
theorem valueApart_contract (H : Type) (enc : TypeId × Value → H) (W : World) (base : Nat) (args : Array Value) (ds gs : List (DataW H)) (before : List MemPlace)
    (hval : ∀ (j : Nat) t v, Tryz.f7.params[j]? = some t → args[j]? = some v → Value.okWide Tryz.prog W .any base t v)
    (hW : DataW.Whole enc Tryz.prog Tryz.f7.params.toList Rows.valueApartSpec.vars false W args.toList ds gs before) (hsz : (DataW.weightsEach Tryz.prog (Tryz.f7.params.toList ++ (OpenSpec.ofChange Rows.valueApartSpec).bare.plain.varTypes Tryz.prog) (ds ++ gs)).all (· ≤ reachBytes) = true) (hL : laidMetH Tryz.prog Rows.valueApartRow.laid W) (hs : W.ShapedOpen Tryz.prog) :
    Calls Tryz.prog 7 args W fun e W' => ∃ v, e = .returned v ∧ Rows.valueApartSpec.post enc Tryz.prog Tryz.f7 false true false false W args v W' := by
  have hW' := hW
  obtain ⟨p, q, hA0, hV, rfl, hfz, hnd⟩ := hW
  have hA : DataW.TrodAll enc Tryz.prog W 0 (fun _ => true) true Tryz.f7.params.toList args.toList ds p := hA0
  rw [Tryz.params7] at hA hval
  obtain ⟨v0, vs0, d0, ds0, p0, q0, hargs, rfl, rfl, h0, r0⟩ := trodAll_cons hA
  obtain ⟨v1, vs1, d1, ds1, p1, q1, rfl, rfl, rfl, h1, r1⟩ := trodAll_cons r0
  obtain ⟨v2, vs2, d2, ds2, p2, q2, rfl, rfl, rfl, h2, r2⟩ := trodAll_cons r1
  obtain ⟨rfl, rfl, rfl⟩ := trodAll_nil r2
  obtain rfl : args = #[v0, v1, v2] := by cases args; simp_all
  obtain ⟨x0a, x0b, x0c, x0d, x0e, x0f, rfl⟩ := open_raw (hval 0 _ v0 rfl rfl) h0
  obtain ⟨x1a, x1b, x1c, x1d, rfl, w1b, w1c, w1d⟩ := open_raw02 (hval 1 _ v1 rfl rfl) h1
  obtain ⟨x2, rfl, e2, _, _⟩ := ChangeMaps.open_string Tryz.underlying9 (hval 2 _ v2 rfl rfl) h2
  have w2 : x2.data.toList.length ≤ reachBytes := sized_string hsz (j := 2) (t := 9) (bytes := x2.data.toList) (by rw [Tryz.params7]; rfl) (by rw [e2]; rfl)
  have hM : laidMet Tryz.prog Rows.valueApartRow.laid W := cast (by kernel_rfl) hL
  have hT := pow_tab (by kernel_rfl) hL
  have hE := err_at hM (by kernel_rfl)
  have hU := utf8_at hM (List.mem_of_getElem? (i := 6) rfl) (List.mem_of_getElem? (i := 3) rfl)
  refine (apart_calls hs hT hE hU x0a x0b x0c x0d x0e x1b x1c x1d x0f x1a w1b w1c x2 (by rw [Array.length_toList] at w2; exact w2)).mono fun e W' ⟨he, hb⟩ => ?_
  exact ⟨_, he, post_law hW' rfl rfl laid_out (by kernel_rfl) (by kernel_rfl) Tryz.underlying4 hb⟩

set_option maxRecDepth 100000 in
theorem valueApart_lifted (os : Os) (started : os.Started) (H : Type) (enc : TypeId × Value → H) (F : Stop.Interp) :
    ReturnsInHanded {} Tryz.checked os 7 .any ((OpenSpec.ofChange Rows.valueApartSpec).preRow enc Tryz.prog Tryz.f7 Rows.valueApartRow.domain false Rows.valueApartRow.laid)
      (((OpenSpec.ofChange Rows.valueApartSpec).at F).post enc Tryz.prog Tryz.f7 false true false false) := by
  refine returnsInHanded_of_row (C := Tryz.checked) (s := OpenSpec.ofChange Rows.valueApartSpec) own started (by kernel_rfl) Tryz.func7
    (witness_row_atRef (enc := enc) (C := Tryz.checked) false (laidWorldE os) #[.agg #[.int .i64 0, .int .i64 0, .int .i64 0, .int .i64 0, .int .i64 0, .bool false], .agg #[.bool false, .int .u64 0, .int .u64 0, .int .i64 0], .string ⟨#[]⟩] rfl (by kernel_rfl) (by kernel_rfl) (by kernel_rfl)
      (OpenSpec.preRow_of_cond 8 (x := ([.agg [.lit (.int .i64 0), .lit (.int .i64 0), .lit (.int .i64 0), .lit (.int .i64 0), .lit (.int .i64 0), .lit (.bool false)], .agg [.lit (.bool false), .agg [.lit (.int .u64 0), .lit (.int .u64 0)], .lit (.int .i64 0)], .lit (.string [])], [], [])) (by kernel_rfl) (by kernel_rfl) (fun k hk => by cases hk) (by kernel_rfl) (valueApart_laidMet os _))) ?_
  intro W base args ds gs before hval hW _ _ hsz hL hs _
  exact valueApart_contract H enc W base args ds gs before hval hW hsz hL hs

end Go.Proofs.YtdbjbmdaekgbhaaGreatDoor
