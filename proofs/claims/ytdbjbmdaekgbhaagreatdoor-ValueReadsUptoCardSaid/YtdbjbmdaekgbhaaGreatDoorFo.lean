/-
  A law's arguments, opened; what is given at its beginning.
-/
import Derived.Test.YtdbjbmdaekgbhaaGreatDoorEl
import Derived.Test.YtdbjbmdaekgbhaaGreatDoorFa
namespace Go.Proofs.YtdbjbmdaekgbhaaGreatDoor
open Go Go.Pe Go.RowKit Go.ChangeShapes Go.WideShapes Go.ChangeAt

theorem begun_of {W : World} (hs : W.ShapedOpen Tryz.prog) (hT : Lib.TabIs Tryz.prog W "internal/strconv.uint64pow10" .u64 pow10s) : Begun W :=
  ⟨hT, (rel_start (P := Tryz.prog) (h := []) hs low fun k b hb => by simp [getBlk] at hb).gsz⟩

end Go.Proofs.YtdbjbmdaekgbhaaGreatDoor
