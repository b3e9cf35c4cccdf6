/-
  CheckTables: the contract and the row's form, lifted.
-/
import Derived.Test.YtamkkkkonigglaaGreatDoorCp
import Derived.Test.YtamkkkkonigglaaGreatDoorQf
import Derived.SizedLaws
namespace Go.Proofs.YtamkkkkonigglaaGreatDoor
open Go Go.Pe Go.RowKit Go.ChangeShapes Go.WideShapes Go.ChangeAt

set_option maxRecDepth 1000000 in
theorem checkTables_laidMet (os : Os) (args : Array Value) : laidMet Tryz.prog Rows.checkTablesRow.laid ((laidWorld os).forCall (fun _ _ => 0) ⟨#[], args, []⟩).memory :=
  (LaidIn.of_run (l := Rows.checkTablesRow.laid) laidAt 10 (by kernel_rfl) (by kernel_rfl) (by kernel_rfl) (by kernel_rfl)).met

set_option maxRecDepth 100000 in
theorem checkTables_contract (H : Type) (enc : TypeId × Value → H) (W : World) (base : Nat) (args : Array Value) (ds gs : List (DataW H)) (before : List MemPlace)
    (hval : ∀ (j : Nat) t v, Tryz.f3.params[j]? = some t → args[j]? = some v → Value.okWide Tryz.prog W .any base t v)
    (hW : DataW.Whole enc Tryz.prog Tryz.f3.params.toList Rows.checkTablesSpec.vars false W args.toList ds gs before) (hsz : (DataW.weightsEach Tryz.prog (Tryz.f3.params.toList ++ (OpenSpec.ofChange Rows.checkTablesSpec).bare.plain.varTypes Tryz.prog) (ds ++ gs)).all (· ≤ reachBytes) = true) (hL : laidMetH Tryz.prog Rows.checkTablesRow.laid W) (hs : W.ShapedOpen Tryz.prog) :
    Calls Tryz.prog 3 args W fun e W' => ∃ v, e = .returned v ∧ Rows.checkTablesSpec.post enc Tryz.prog Tryz.f3 false true false false W args v W' := by
  have hW' := hW
  obtain ⟨p, q, hA0, hV, rfl, hfz, hnd⟩ := hW
  have hA : DataW.TrodAll enc Tryz.prog W 0 (fun _ => true) true Tryz.f3.params.toList args.toList ds p := hA0
  rw [Tryz.params3] at hA hval
  obtain ⟨v0, vs0, d0, ds0, p0, q0, hargs, rfl, rfl, h0, r0⟩ := trodAll_cons hA
  obtain ⟨v1, vs1, d1, ds1, p1, q1, rfl, rfl, rfl, h1, r1⟩ := trodAll_cons r0
  obtain ⟨v2, vs2, d2, ds2, p2, q2, rfl, rfl, rfl, h2, r2⟩ := trodAll_cons r1
  obtain ⟨v3, vs3, d3, ds3, p3, q3, rfl, rfl, rfl, h3, r3⟩ := trodAll_cons r2
  obtain ⟨rfl, rfl, rfl⟩ := trodAll_nil r3
  obtain rfl : args = #[v0, v1, v2, v3] := by cases args; simp_all
  obtain ⟨x0, rfl, e0, _, _⟩ := ChangeMaps.open_string Tryz.underlying9 (hval 0 _ v0 rfl rfl) h0
  have w0 : x0.data.toList.length ≤ reachBytes := sized_string hsz (j := 0) (t := 9) (bytes := x0.data.toList) (by rw [Tryz.params3]; rfl) (by rw [e0]; rfl)
  obtain ⟨x1, rfl, _, _, w1⟩ := ChangeShapes.open_int Tryz.underlying5 (hval 1 _ v1 rfl rfl) h1
  obtain ⟨x2, rfl, _, _, w2⟩ := ChangeShapes.open_int Tryz.underlying5 (hval 2 _ v2 rfl rfl) h2
  obtain ⟨x3, rfl, e3, _, _⟩ := ChangeMaps.open_string Tryz.underlying9 (hval 3 _ v3 rfl rfl) h3
  have w3 : x3.data.toList.length ≤ reachBytes := sized_string hsz (j := 3) (t := 9) (bytes := x3.data.toList) (by rw [Tryz.params3]; rfl) (by rw [e3]; rfl)
  have hM : laidMet Tryz.prog Rows.checkTablesRow.laid W := cast (by kernel_rfl) hL
  have A := at_of hs hM hL (by kernel_rfl) (by kernel_rfl)
  refine (tables_calls hs A x0 x3 (u8_nonneg w1) (u8_nonneg w2)).mono fun e W' ⟨he, hb⟩ => ?_
  exact ⟨_, he, post_law hW' rfl rfl laid_out (by kernel_rfl) (by kernel_rfl) Tryz.underlying4 hb⟩

set_option maxRecDepth 100000 in
theorem checkTables_lifted (os : Os) (started : os.Started) (H : Type) (enc : TypeId × Value → H) (F : Stop.Interp) :
    ReturnsInHanded {} Tryz.checked os 3 .any ((OpenSpec.ofChange Rows.checkTablesSpec).preRow enc Tryz.prog Tryz.f3 Rows.checkTablesRow.domain false Rows.checkTablesRow.laid)
      (((OpenSpec.ofChange Rows.checkTablesSpec).at F).post enc Tryz.prog Tryz.f3 false true false false) := by
  refine returnsInHanded_of_row (C := Tryz.checked) (s := OpenSpec.ofChange Rows.checkTablesSpec) own started (by kernel_rfl) Tryz.func3
    (witness_row_atRef (enc := enc) (C := Tryz.checked) false (laidWorld os) #[.string ⟨#[]⟩, .int .u8 0, .int .u8 0, .string ⟨#[]⟩] rfl (by kernel_rfl) (by kernel_rfl) (by kernel_rfl)
      (OpenSpec.preRow_of_cond 8 (x := ([.lit (.string []), .lit (.int .u8 0), .lit (.int .u8 0), .lit (.string [])], [], [])) (by kernel_rfl) (by kernel_rfl) (fun k hk => by cases hk) (by kernel_rfl) (checkTables_laidMet os _))) ?_
  intro W base args ds gs before hval hW _ _ hsz hL hs _
  exact checkTables_contract H enc W base args ds gs before hval hW hsz hL hs

end Go.Proofs.YtamkkkkonigglaaGreatDoor
