/-
  ValueReads: the contract and the row's form, lifted.
-/
import Derived.Test.YtdbjbmdaekgbhaaGreatDoorXx
import Derived.Test.YtdbjbmdaekgbhaaGreatDoorVt
import Derived.SizedLaws
namespace Go.Proofs.YtdbjbmdaekgbhaaGreatDoor
open Go Go.Pe Go.RowKit Go.ChangeShapes Go.WideShapes Go.ChangeAt

set_option maxRecDepth 1000000 in
theorem valueReads_laidMet (os : Os) (args : Array Value) : laidMet Tryz.prog Rows.valueReadsUptoRow.laid ((laidWorldE os).forCall (fun _ _ => 0) ⟨#[], args, []⟩).memory :=
  (LaidIn.of_run (l := Rows.valueReadsUptoRow.laid) laidAtE 10 (by kernel_rfl) (by kernel_rfl) (by kernel_rfl) (by kernel_rfl)).met

set_option maxRecDepth 100000 in
theorem valueReads_contract (H : Type) (enc : TypeId × Value → H) (W : World) (base : Nat) (args : Array Value) (ds gs : List (DataW H)) (before : List MemPlace)
    (hval : ∀ (j : Nat) t v, Tryz.f6.params[j]? = some t → args[j]? = some v → Value.okWide Tryz.prog W .any base t v)
    (hW : DataW.Whole enc Tryz.prog Tryz.f6.params.toList Rows.valueReadsSpec.vars false W args.toList ds gs before) (hsz : (DataW.weightsEach Tryz.prog (Tryz.f6.params.toList ++ (Rows.OpenSpec.upto Rows.valueReadsSpec).bare.plain.varTypes Tryz.prog) (ds ++ gs)).all (· ≤ reachBytes) = true) (hk : Rows.uptoSmall H (ds ++ gs) = true) (hL : laidMetH Tryz.prog Rows.valueReadsUptoRow.laid W) (hs : W.ShapedOpen Tryz.prog) :
    Calls Tryz.prog 6 args W fun e W' => ∃ v, e = .returned v ∧ Rows.valueReadsSpec.post enc Tryz.prog Tryz.f6 false true false false W args v W' := by
  have hW' := hW
  obtain ⟨p, q, hA0, hV, rfl, hfz, hnd⟩ := hW
  have hA : DataW.TrodAll enc Tryz.prog W 0 (fun _ => true) true Tryz.f6.params.toList args.toList ds p := hA0
  rw [Tryz.params6] at hA hval
  obtain ⟨v0, vs0, d0, ds0, p0, q0, hargs, rfl, rfl, h0, r0⟩ := trodAll_cons hA
  obtain ⟨v1, vs1, d1, ds1, p1, q1, rfl, rfl, rfl, h1, r1⟩ := trodAll_cons r0
  obtain ⟨rfl, rfl, rfl⟩ := trodAll_nil r1
  obtain rfl : args = #[v0, v1] := by cases args; simp_all
  obtain ⟨x0, rfl, _, _, w0⟩ := ChangeShapes.open_int Tryz.underlying5 (hval 0 _ v0 rfl rfl) h0
  obtain ⟨x1, rfl, e1, _, _⟩ := ChangeMaps.open_string Tryz.underlying9 (hval 1 _ v1 rfl rfl) h1
  have w1 : x1.data.toList.length ≤ reachBytes := sized_string hsz (j := 1) (t := 9) (bytes := x1.data.toList) (by rw [Tryz.params6]; rfl) (by rw [e1]; rfl)
  have hk2 := of_decide_eq_true hk
  rw [e1] at hk2
  simp only [List.cons_append, List.nil_append, Rows.uptoBulkAll, Rows.uptoBulk] at hk2
  have hM : laidMet Tryz.prog Rows.valueReadsUptoRow.laid W := cast (by kernel_rfl) hL
  have hT := pow_tab (by kernel_rfl) hL
  have hE := err_at hM (by kernel_rfl)
  have hU := utf8_at hM (List.mem_of_getElem? (i := 6) rfl) (List.mem_of_getElem? (i := 3) rfl)
  refine (reads_calls hs hT (firm_of hs hT hM (by kernel_rfl) (by kernel_rfl)) hE hU (u8_nonneg w0) (by show x1.data.toList.length ≤ 1048576; omega)).mono fun e W' ⟨he, hb⟩ => ?_
  exact ⟨_, he, post_law hW' rfl rfl laid_out (by kernel_rfl) (by kernel_rfl) Tryz.underlying4 hb⟩

set_option maxRecDepth 100000 in
theorem valueReads_lifted (os : Os) (started : os.Started) (H : Type) (enc : TypeId × Value → H) (F : Stop.Interp) :
    ReturnsInHanded {} Tryz.checked os 6 .any ((Rows.OpenSpec.upto Rows.valueReadsSpec).preRow enc Tryz.prog Tryz.f6 Rows.valueReadsUptoRow.domain false Rows.valueReadsUptoRow.laid)
      (((Rows.OpenSpec.upto Rows.valueReadsSpec).at F).post enc Tryz.prog Tryz.f6 false true false false) := by
  refine returnsInHanded_of_row (C := Tryz.checked) (s := Rows.OpenSpec.upto Rows.valueReadsSpec) own started (by kernel_rfl) Tryz.func6
    (witness_row_atRef (enc := enc) (C := Tryz.checked) false (laidWorldE os) #[.int .u8 0, .string ⟨#[]⟩] rfl (by kernel_rfl) (by kernel_rfl) (by kernel_rfl)
      (OpenSpec.preRow_of_cond 8 (x := ([.lit (.int .u8 0), .lit (.string [])], [], [])) (by kernel_rfl) (by kernel_rfl) (fun k hk => by cases hk; kernel_rfl) (by kernel_rfl) (valueReads_laidMet os _))) ?_
  intro W base args ds gs before hval hW _ hcond hsz hL hs _
  exact valueReads_contract H enc W base args ds gs before hval hW hsz (hcond _ rfl) hL hs

end Go.Proofs.YtdbjbmdaekgbhaaGreatDoor
