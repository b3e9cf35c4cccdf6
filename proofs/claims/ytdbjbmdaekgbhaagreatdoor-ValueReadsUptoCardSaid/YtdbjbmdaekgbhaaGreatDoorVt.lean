/-
  The errors' variables where a row lists them; a world for the witness; numbers that are handed over, opened.
-/
import Derived.Test.YtdbjbmdaekgbhaaGreatDoorFo
import Derived.Test.YtdbjbmdaekgbhaaGreatDoorVs
import Derived.Test.YtdbjbmdaekgbhaaGreatDoorWa
import Derived.Test.YtdbjbmdaekgbhaaGreatDoorVa
import Derived.Deep.DeepWitnessRowRef
import Derived.Lib.LaidIn
import Derived.Stop.LaidErr
namespace Go.Proofs.YtdbjbmdaekgbhaaGreatDoor
open Go Go.Pe Go.RowKit Go.ChangeShapes Go.WideShapes Go.ChangeAt

theorem gSyn : Tryz.prog.globalNamed "strconv.ErrSyntax" = some 5 := by kernel_rfl
theorem gSynType : (Tryz.prog.globals[5]?).map (·.type) = some 197 := by kernel_rfl
theorem cellsErr : Tryz.prog.cellsOf 318 = 1 := by kernel_rfl
theorem cellsStr : Tryz.prog.cellsOf 9 = 1 := by kernel_rfl
theorem starErr : "*" ++ "errors.errorString" = "*errors.errorString" := by decide
theorem rowErr (u : TypeId) (h : Tryz.prog.typeName? 3 u = some "*errors.errorString") : u = 316 :=
  typeName_ptr_named (nm := "errors.errorString") (by rw [starErr]; kernel_rfl) (by kernel_rfl) (by decide) u (by rw [starErr]; exact h)

/-- The error's variable holds a pointer, where a row lists it. -/
theorem err_at {W : World} {l : List (String × DataW Unit)} (h : laidMet Tryz.prog l W) (hl : (l.filter fun x => x.1 == "strconv.ErrSyntax") = [("strconv.ErrSyntax", Rows.laid_strconv_ErrSyntax)]) : ErrAt W := by
  have h1 := h.filter fun x => x.1 == "strconv.ErrSyntax"
  rw [hl] at h1
  obtain ⟨a, s, hv, _⟩ := laid_sentinel h1 gSyn gSynType Tryz.underlying197 rowErr Tryz.underlying316 Tryz.underlying318 rfl rfl Tryz.underlying9 cellsErr cellsStr
  unfold World.var? at hv
  rw [gSyn] at hv
  simp only [Option.bind_some] at hv
  split at hv
  · rename_i cs t fr hw
    cases hv
    exact ⟨a, _, t, fr, hw, rfl⟩
  · cases hv

def putVar (h : Array Obj) (g : Nat) (cs : Array Value) : Array Obj := h.modify g fun
  | .cells _ t frozen => .cells cs t frozen
  | o => o
def withTabE (h : Array Obj) (g : Nat) (d : DataW Unit) : Array Obj := putVar h g (flat d).toArray

noncomputable abbrev N0 : Nat := (World.settled Tryz.prog default).heap.size
def errBlks : Array Obj := #[.cells #[.string ⟨#[118, 97, 108, 117, 101, 32, 111, 117, 116, 32, 111, 102, 32, 114, 97, 110, 103, 101]⟩] 318 (0, 0), .cells #[.string ⟨#[105, 110, 118, 97, 108, 105, 100, 32, 115, 121, 110, 116, 97, 120]⟩] 318 (0, 0)]

/-- The tables' cells. -/
noncomputable def putTabs (h : Array Obj) : Array Obj :=
  let h := withTabE h 0 Rows.laid_unicode_utf8_first
  let h := withTabE h 1 Rows.laid_unicode_utf8_acceptRanges
  let h := withTabE h 7 Rows.laid_internal_strconv_uint64pow10
  let h := withTabE h 8 Rows.laid_math_bits_deBruijn32tab
  let h := withTabE h 9 Rows.laid_math_bits_deBruijn64tab
  h

/-- A world for the witness: the settled one, the tables and the two errors as their initialisers lay them. -/
noncomputable def laidWorldE (os : Os) : World :=
  { World.holding Tryz.prog os ⟨errBlks, #[], []⟩ with
    heap := putVar (putVar (putTabs (World.holding Tryz.prog os ⟨errBlks, #[], []⟩).heap) 6 #[.iface 316 (.pointer (some ⟨(World.settled Tryz.prog os).heap.size, 0, none⟩))])
      5 #[.iface 316 (.pointer (some ⟨(World.settled Tryz.prog os).heap.size + 1, 0, none⟩))] }

/-- Those of its blocks that lists lead to. -/
noncomputable def laidAtE : List Nat :=
  0 ::
  1 ::
  5 :: 6 :: 7 ::
  8 ::
  9 ::
  [N0, N0 + 1]

end Go.Proofs.YtdbjbmdaekgbhaaGreatDoor
