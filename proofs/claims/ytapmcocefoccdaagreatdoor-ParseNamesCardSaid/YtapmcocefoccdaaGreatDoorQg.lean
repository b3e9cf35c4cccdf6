/-
  The tables of UTF-8, where a row lists them.
-/
import Derived.Test.YtapmcocefoccdaaGreatDoorQb
import Derived.Test.YtapmcocefoccdaaGreatDoorQf
import Derived.Lib.LaidU8T
namespace Go.Proofs.YtapmcocefoccdaaGreatDoor
open Go Go.Pe Go.RowKit Go.ChangeShapes Go.WideShapes Go.ChangeAt Go.Shelf

def uren : Go.Shelf.Ren := ⟨fun n => n, fun | 5 => 5 | 119 => 118 | 138 => 120 | 139 => 121 | n => n, fun | 3 => 0 | 4 => 1 | n => n⟩

theorem firstSame : Rows.laid_unicode_utf8_first = Lib.firstData := by kernel_rfl
theorem acceptSame : (Rows.laid_unicode_utf8_acceptRanges : DataW Unit) = Lib.acceptData := by kernel_rfl

theorem utf8_at {W : World} {l : List (String × DataW Unit)} (h : laidMet Tryz.prog l W) (h1 : ("unicode/utf8.first", Rows.laid_unicode_utf8_first) ∈ l) (h2 : ("unicode/utf8.acceptRanges", Rows.laid_unicode_utf8_acceptRanges) ∈ l) :
    Lib.Utf8Tabs 0 1 W := by
  rw [firstSame] at h1
  rw [acceptSame] at h2
  exact utf8Tabs_of_readsT (ρ := uren) ⟨Tryz.underlying5, Tryz.underlying118, Tryz.underlying120, Tryz.underlying121⟩
    ⟨by kernel_rfl, by kernel_rfl, by kernel_rfl, by kernel_rfl, by kernel_rfl, by kernel_rfl, by kernel_rfl⟩ (Lib.laidMet.reads h h1) (Lib.laidMet.reads h h2)

/-- What holds in every world of a row that lists these tables. -/
theorem atU_of {W : World} {l : List (String × DataW Unit)} (hs : W.ShapedOpen Tryz.prog) (h : laidMet Tryz.prog l W) (hH : laidMetH Tryz.prog l W)
    (hl : (l.filter fun x => x.1 == "internal/strconv.uint64pow10") = [("internal/strconv.uint64pow10", Rows.laid_internal_strconv_uint64pow10)]) (hl2 : (l.filter fun x => x.1 == "strconv.ErrSyntax") = [("strconv.ErrSyntax", Rows.laid_strconv_ErrSyntax)])
    (h1 : ("unicode/utf8.first", Rows.laid_unicode_utf8_first) ∈ l) (h2 : ("unicode/utf8.acceptRanges", Rows.laid_unicode_utf8_acceptRanges) ∈ l) : AtU W :=
  ⟨at_of hs h hH hl hl2, utf8_at h h1 h2⟩

end Go.Proofs.YtapmcocefoccdaaGreatDoor
