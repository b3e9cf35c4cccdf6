/-
  The package's sentinels at a law's beginning.
  ValueKinds: the contract and the row's form, lifted.
-/
import Derived.Test.YthmogphlnjpakaaGreatDoorYa
import Derived.Test.YthmogphlnjpakaaGreatDoorEl1
import Derived.Shelf.Vars
import Derived.Test.YthmogphlnjpakaaGreatDoorYw1
import Derived.SizedLaws

namespace Go.Proofs.YthmogphlnjpakaaGreatDoor
open Go Go.Pe Go.RowKit Go.ChangeShapes Go.WideShapes Go.ChangeAt
theorem gRan : Tryz.prog.globalNamed "strconv.ErrRange" = some 7 := by kernel_rfl
theorem gRanType : (Tryz.prog.globals[7]?).map (·.type) = some 203 := by kernel_rfl
theorem firm_of {W : World} (hs : W.ShapedOpen Tryz.prog) (hT : Lib.TabIs Tryz.prog W "internal/strconv.uint64pow10" .u64 pow10s) {l : List (String × DataW Unit)} (h : laidMet Tryz.prog l W)
    (h1 : (l.filter fun x => x.1 == "strconv.ErrSyntax") = [("strconv.ErrSyntax", Rows.laid_strconv_ErrSyntax)]) (h2 : (l.filter fun x => x.1 == "strconv.ErrRange") = [("strconv.ErrRange", Rows.laid_strconv_ErrRange)]) : Firm W := by
  have B := begun_of hs hT
  refine ⟨⟨B.low, ?_, ?_, ?_⟩, B⟩
  · have k := h.filter fun x => x.1 == "strconv.ErrSyntax"
    rw [h1] at k
    obtain ⟨a, s, hv, _⟩ := laid_sentinel k gSyn gSynType Tryz.underlying203 rowErr Tryz.underlying334 Tryz.underlying336 rfl rfl Tryz.underlying9 cellsErr cellsStr
    exact ⟨_, _, hv⟩
  · have k := h.filter fun x => x.1 == "strconv.ErrRange"
    rw [h2] at k
    obtain ⟨a, s, hv, _⟩ := laid_sentinel k gRan gRanType Tryz.underlying203 rowErr Tryz.underlying334 Tryz.underlying336 rfl rfl Tryz.underlying9 cellsErr cellsStr
    exact ⟨_, _, hv⟩
  · exact cell_of_shapedOpen_int (t := 3) (zero := #[.int .i64 0]) hs (by decide +kernel) (by kernel_rfl) rfl (by kernel_rfl) (by kernel_rfl) Tryz.underlying3
end Go.Proofs.YthmogphlnjpakaaGreatDoor

namespace Go.Proofs.YthmogphlnjpakaaGreatDoor
open Go Go.Pe Go.RowKit Go.ChangeShapes Go.WideShapes Go.ChangeAt
set_option maxRecDepth 1000000 in
theorem valueKinds_laidMet (os : Os) (args : Array Value) : laidMet Tryz.prog Rows.valueKindsUptoRow.laid ((laidWorldE os).forCall (fun _ _ => 0) ⟨#[], args, []⟩).memory :=
  (LaidIn.of_run (l := Rows.valueKindsUptoRow.laid) laidAtE 10 (by kernel_rfl) (by kernel_rfl) (by kernel_rfl) (by kernel_rfl)).met
set_option maxRecDepth 100000 in
theorem valueKinds_contract (H : Type) (enc : TypeId × Value → H) (W : World) (base : Nat) (args : Array Value) (ds gs : List (DataW H)) (before : List MemPlace)
    (hval : ∀ (j : Nat) t v, Tryz.f5.params[j]? = some t → args[j]? = some v → Value.okWide Tryz.prog W .any base t v)
    (hW : DataW.Whole enc Tryz.prog Tryz.f5.params.toList Rows.valueKindsSpec.vars false W args.toList ds gs before) (hk : Rows.uptoSmall H (ds ++ gs) = true) (hL : laidMetH Tryz.prog Rows.valueKindsUptoRow.laid W) (hs : W.ShapedOpen Tryz.prog) :
    Calls Tryz.prog 5 args W fun e W' => ∃ v, e = .returned v ∧ Rows.valueKindsSpec.post enc Tryz.prog Tryz.f5 false true false false W args v W' := by
  have hW' := hW
  obtain ⟨p, q, hA0, hV, rfl, hfz, hnd⟩ := hW
  have hA : DataW.TrodAll enc Tryz.prog W 0 (fun _ => true) true Tryz.f5.params.toList args.toList ds p := hA0
  rw [Tryz.params5] at hA hval
  obtain ⟨v0, vs0, d0, ds0, p0, q0, hargs, rfl, rfl, h0, r0⟩ := trodAll_cons hA
  obtain ⟨v1, vs1, d1, ds1, p1, q1, rfl, rfl, rfl, h1, r1⟩ := trodAll_cons r0
  obtain ⟨rfl, rfl, rfl⟩ := trodAll_nil r1
  obtain rfl : args = #[v0, v1] := by cases args; simp_all
  obtain ⟨x1, rfl, _, _, w1⟩ := ChangeShapes.open_int Tryz.underlying3 (hval 1 _ v1 rfl rfl) h1
  have hk2 := of_decide_eq_true hk
  simp only [List.cons_append, List.nil_append, Rows.uptoBulkAll, Rows.uptoBulk] at hk2
  obtain ⟨D0, hD0⟩ := open_dat (hval 0 _ v0 rfl rfl) h0 (by omega)
  have hM : laidMet Tryz.prog Rows.valueKindsUptoRow.laid W := cast (by kernel_rfl) hL
  have hT := pow_tab (by kernel_rfl) hL
  have hE := err_at hM (by kernel_rfl)
  have hU := utf8_at hM (List.mem_of_getElem? (i := 6) rfl) (List.mem_of_getElem? (i := 3) rfl)
  refine (kinds_calls ⟨hs, hT, firm_of hs hT hM (by kernel_rfl) (by kernel_rfl), hU⟩ hE _ _ hD0 x1).mono fun e W' ⟨he, hb⟩ => ?_
  exact ⟨_, he, post_law hW' rfl rfl laid_out (by kernel_rfl) (by kernel_rfl) Tryz.underlying4 hb⟩
set_option maxRecDepth 100000 in
theorem valueKinds_lifted (os : Os) (started : os.Started) (H : Type) (enc : TypeId × Value → H) (F : Stop.Interp) :
    ReturnsInHanded {} Tryz.checked os 5 .any ((Rows.OpenSpec.upto Rows.valueKindsSpec).preRow enc Tryz.prog Tryz.f5 Rows.valueKindsUptoRow.domain false Rows.valueKindsUptoRow.laid)
      (((Rows.OpenSpec.upto Rows.valueKindsSpec).at F).post enc Tryz.prog Tryz.f5 false true false false) := by
  refine returnsInHanded_of_row (C := Tryz.checked) (s := Rows.OpenSpec.upto Rows.valueKindsSpec) own started (by kernel_rfl) Tryz.func5
    (witness_row_atRef (enc := enc) (C := Tryz.checked) false (laidWorldE os) #[.agg #[.int .i64 0, .string ⟨#[]⟩, .slice none 0 0, .slice none 0 0, .bool false, .bool false], .int .i64 0] rfl (by kernel_rfl) (by kernel_rfl) (by kernel_rfl)
      (OpenSpec.preRow_of_cond 8 (x := ([.agg [.lit (.int .i64 0), .lit (.string []), .nil, .nil, .agg [.lit (.bool false), .lit (.bool false)]], .lit (.int .i64 0)], [], [])) (by kernel_rfl) (by kernel_rfl) (fun k hk => by cases hk; kernel_rfl) (by kernel_rfl) (valueKinds_laidMet os _))) ?_
  intro W base args ds gs before hval hW _ hcond _ hL hs _
  exact valueKinds_contract H enc W base args ds gs before hval hW (hcond _ rfl) hL hs
end Go.Proofs.YthmogphlnjpakaaGreatDoor
