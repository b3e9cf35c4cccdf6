/-
  A law's arguments, opened; what is given at its beginning.
-/
import Derived.Test.YtdbjbmdaekgbhaaGreatDoorEl
import Derived.Test.YtdbjbmdaekgbhaaGreatDoorFz
namespace Go.Proofs.YtdbjbmdaekgbhaaGreatDoor
open Go Go.Pe Go.RowKit Go.ChangeShapes Go.WideShapes Go.ChangeAt

theorem begun_of {W : World} (hs : W.ShapedOpen Tryz.prog) (hT : Lib.TabIs Tryz.prog W "internal/strconv.uint64pow10" .u64 pow10s) : Begun W :=
  ⟨hT, (rel_start (P := Tryz.prog) (h := []) hs low fun k b hb => by simp [getBlk] at hb).gsz⟩

theorem cellsRaw : Tryz.prog.cellsOf 92 = 6 := by kernel_rfl
theorem cellsInt : Tryz.prog.cellsOf 3 = 1 := by kernel_rfl
theorem cellsBool : Tryz.prog.cellsOf 4 = 1 := by kernel_rfl

set_option maxRecDepth 100000 in
/-- A moment's numbers, opened. -/
theorem open_raw {H : Type} {enc : TypeId × Value → H} {w : World} {sp : Nat → Bool} {hd : Bool} {r : Reach} {b0 : Nat} {v : Value} {d : DataW H} {p : List MemPlace}
    (hv : Value.okWide Tryz.prog w r b0 92 v) (h : DataW.Trod enc Tryz.prog w 0 sp hd 92 v d p) :
    ∃ (y m d s o : Int) (z : Bool), v = .agg #[.int .i64 y, .int .i64 m, .int .i64 d, .int .i64 s, .int .i64 o, .bool z] := by
  obtain ⟨cs, rfl, hsz, hf⟩ := open_cells Tryz.underlying92 hv h
  obtain ⟨c0, c1, c2, c3, c4, c5, rfl⟩ := array6 (hsz.trans cellsRaw)
  obtain ⟨_, _, g0⟩ := hf 0 _ rfl
  obtain ⟨_, _, g1⟩ := hf 1 _ rfl
  obtain ⟨_, _, g2⟩ := hf 2 _ rfl
  obtain ⟨_, _, g3⟩ := hf 3 _ rfl
  obtain ⟨_, _, g4⟩ := hf 4 _ rfl
  obtain ⟨_, _, g5⟩ := hf 5 _ rfl
  obtain ⟨y, e0, _⟩ := DataW.trod_int Tryz.underlying3 g0
  obtain ⟨m, e1, _⟩ := DataW.trod_int Tryz.underlying3 g1
  obtain ⟨d, e2, _⟩ := DataW.trod_int Tryz.underlying3 g2
  obtain ⟨s, e3, _⟩ := DataW.trod_int Tryz.underlying3 g3
  obtain ⟨o, e4, _⟩ := DataW.trod_int Tryz.underlying3 g4
  obtain ⟨z, e5, _⟩ := DataW.trod_bool Tryz.underlying4 g5
  cases e0
  cases e1
  cases e2
  cases e3
  cases e4
  cases e5
  exact ⟨y, m, d, s, o, z, rfl⟩

end Go.Proofs.YtdbjbmdaekgbhaaGreatDoor
