/-
  ParseNames: the contract and the row's form, lifted.
-/
import Derived.Test.YtapmcocefoccdaaGreatDoorKn
import Derived.Test.YtapmcocefoccdaaGreatDoorQg
namespace Go.Proofs.YtapmcocefoccdaaGreatDoor
open Go Go.Pe Go.RowKit Go.ChangeShapes Go.WideShapes Go.ChangeAt

set_option maxRecDepth 1000000 in
theorem parseNames_laidMet (os : Os) (args : Array Value) : laidMet Tryz.prog Rows.parseNamesRow.laid ((laidWorld os).forCall (fun _ _ => 0) ⟨#[], args, []⟩).memory :=
  (LaidIn.of_run (l := Rows.parseNamesRow.laid) laidAt 10 (by kernel_rfl) (by kernel_rfl) (by kernel_rfl) (by kernel_rfl)).met

set_option maxRecDepth 100000 in
theorem parseNames_contract (H : Type) (enc : TypeId × Value → H) (W : World) (base : Nat) (args : Array Value) (ds gs : List (DataW H)) (before : List MemPlace)
    (hval : ∀ (j : Nat) t v, Tryz.f4.params[j]? = some t → args[j]? = some v → Value.okWide Tryz.prog W .any base t v)
    (hW : DataW.Whole enc Tryz.prog Tryz.f4.params.toList Rows.parseNamesSpec.vars false W args.toList ds gs before) (hL : laidMetH Tryz.prog Rows.parseNamesRow.laid W) (hs : W.ShapedOpen Tryz.prog) :
    Calls Tryz.prog 4 args W fun e W' => ∃ v, e = .returned v ∧ Rows.parseNamesSpec.post enc Tryz.prog Tryz.f4 false true false false W args v W' := by
  have hW' := hW
  obtain ⟨p, q, hA0, hV, rfl, hfz, hnd⟩ := hW
  have hA : DataW.TrodAll enc Tryz.prog W 0 (fun _ => true) true Tryz.f4.params.toList args.toList ds p := hA0
  rw [Tryz.params4] at hA hval
  obtain ⟨v0, vs0, d0, ds0, p0, q0, hargs, rfl, rfl, h0, r0⟩ := trodAll_cons hA
  obtain ⟨v1, vs1, d1, ds1, p1, q1, rfl, rfl, rfl, h1, r1⟩ := trodAll_cons r0
  obtain ⟨v2, vs2, d2, ds2, p2, q2, rfl, rfl, rfl, h2, r2⟩ := trodAll_cons r1
  obtain ⟨rfl, rfl, rfl⟩ := trodAll_nil r2
  obtain rfl : args = #[v0, v1, v2] := by cases args; simp_all
  obtain ⟨x0, rfl, _, _, w0⟩ := ChangeShapes.open_int Tryz.underlying5 (hval 0 _ v0 rfl rfl) h0
  obtain ⟨x1, rfl, _, _, w1⟩ := ChangeShapes.open_int Tryz.underlying5 (hval 1 _ v1 rfl rfl) h1
  obtain ⟨x2, rfl⟩ := okWide_bool Tryz.underlying4 (hval 2 _ v2 rfl rfl)
  have hM : laidMet Tryz.prog Rows.parseNamesRow.laid W := cast (by kernel_rfl) hL
  have A := atU_of hs hM hL (by kernel_rfl) (by kernel_rfl) (List.mem_of_getElem? (i := 6) rfl) (List.mem_of_getElem? (i := 3) rfl)
  refine (names_calls hs A x0 x1 x2 (u8_nonneg w0) (u8_nonneg w1)).mono fun e W' ⟨he, hb⟩ => ?_
  exact ⟨_, he, post_law hW' rfl rfl laid_out (by kernel_rfl) (by kernel_rfl) Tryz.underlying4 hb⟩

set_option maxRecDepth 100000 in
theorem parseNames_lifted (os : Os) (started : os.Started) (H : Type) (enc : TypeId × Value → H) (F : Stop.Interp) :
    ReturnsInHanded {} Tryz.checked os 4 .any ((OpenSpec.ofChange Rows.parseNamesSpec).preRow enc Tryz.prog Tryz.f4 Rows.parseNamesRow.domain false Rows.parseNamesRow.laid)
      (((OpenSpec.ofChange Rows.parseNamesSpec).at F).post enc Tryz.prog Tryz.f4 false true false false) := by
  refine returnsInHanded_of_row (C := Tryz.checked) (s := OpenSpec.ofChange Rows.parseNamesSpec) own started (by kernel_rfl) Tryz.func4
    (witness_row_atRef (enc := enc) (C := Tryz.checked) false (laidWorld os) #[.int .u8 0, .int .u8 0, .bool false] rfl (by kernel_rfl) (by kernel_rfl) (by kernel_rfl)
      (OpenSpec.preRow_of_cond 8 (x := ([.lit (.int .u8 0), .lit (.int .u8 0), .lit (.bool false)], [], [])) (by kernel_rfl) (by kernel_rfl) (fun k hk => by cases hk) (by kernel_rfl) (parseNames_laidMet os _))) ?_
  intro W base args ds gs before hval hW _ _ _ hL hs _
  exact parseNames_contract H enc W base args ds gs before hval hW hL hs

end Go.Proofs.YtapmcocefoccdaaGreatDoor
