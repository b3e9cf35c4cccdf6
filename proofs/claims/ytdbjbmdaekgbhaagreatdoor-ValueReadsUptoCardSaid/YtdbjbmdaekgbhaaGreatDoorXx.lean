/-
  A world at which a law begins, where its row lists the errors' variables.
-/
import Derived.Test.YtdbjbmdaekgbhaaGreatDoorXw
import Derived.Test.YtdbjbmdaekgbhaaGreatDoorVt
import Derived.Shelf.Vars
namespace Go.Proofs.YtdbjbmdaekgbhaaGreatDoor
open Go Go.Pe Go.RowKit Go.ChangeShapes Go.WideShapes Go.ChangeAt

theorem gRan : Tryz.prog.globalNamed "strconv.ErrRange" = some 6 := by kernel_rfl
theorem gRanType : (Tryz.prog.globals[6]?).map (·.type) = some 197 := by kernel_rfl
theorem firm_of {W : World} (hs : W.ShapedOpen Tryz.prog) (hT : Lib.TabIs Tryz.prog W "internal/strconv.uint64pow10" .u64 pow10s) {l : List (String × DataW Unit)} (h : laidMet Tryz.prog l W)
    (h1 : (l.filter fun x => x.1 == "strconv.ErrSyntax") = [("strconv.ErrSyntax", Rows.laid_strconv_ErrSyntax)]) (h2 : (l.filter fun x => x.1 == "strconv.ErrRange") = [("strconv.ErrRange", Rows.laid_strconv_ErrRange)]) : Firm W := by
  have B := begun_of hs hT
  refine ⟨⟨B.low, ?_, ?_, ?_⟩, B⟩
  · have k := h.filter fun x => x.1 == "strconv.ErrSyntax"
    rw [h1] at k
    obtain ⟨a, s, hv, _⟩ := laid_sentinel k gSyn gSynType Tryz.underlying197 rowErr Tryz.underlying316 Tryz.underlying318 rfl rfl Tryz.underlying9 cellsErr cellsStr
    exact ⟨_, _, hv⟩
  · have k := h.filter fun x => x.1 == "strconv.ErrRange"
    rw [h2] at k
    obtain ⟨a, s, hv, _⟩ := laid_sentinel k gRan gRanType Tryz.underlying197 rowErr Tryz.underlying316 Tryz.underlying318 rfl rfl Tryz.underlying9 cellsErr cellsStr
    exact ⟨_, _, hv⟩
  · exact cell_of_shapedOpen_int (t := 3) (zero := #[.int .i64 0]) hs (by decide +kernel) (by kernel_rfl) rfl (by kernel_rfl) (by kernel_rfl) Tryz.underlying3
theorem u8_nonneg {n : Int} (h : (Lit.int .u8 n).wf = true) : 0 ≤ n := by
  have h1 : (decide (IntKind.min .u8 ≤ n) && decide (n ≤ IntKind.max .u8)) = true := h
  have e1 : IntKind.min .u8 = 0 := by decide
  rw [e1] at h1
  simp only [Bool.and_eq_true, decide_eq_true_eq] at h1
  exact h1.1
end Go.Proofs.YtdbjbmdaekgbhaaGreatDoor
