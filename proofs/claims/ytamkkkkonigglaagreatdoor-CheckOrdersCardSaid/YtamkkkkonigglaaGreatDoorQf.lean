/-
  What a row's list gives; a law's contract out of its run; a world for the witness.
-/
import Derived.Test.YtamkkkkonigglaaGreatDoorQa
import Derived.Test.YtamkkkkonigglaaGreatDoorCards
import Derived.Test.YtamkkkkonigglaaGreatDoorTie
import Derived.WalkKit
import Derived.ProofKit
import Derived.OpenShut
import Derived.Deep.DeepHandedRow
import Derived.Deep.DeepWitnessRowRef
import Derived.Lib.LaidTab
import Derived.Lib.LaidIn
import Derived.LaidSub
import Derived.Stop.LaidErr
namespace Go.Proofs.YtamkkkkonigglaaGreatDoor
open Go Go.Pe Go.RowKit Go.ChangeShapes Go.WideShapes Go.ChangeAt

theorem own : ownKnob Tryz.prog.godebug = none := by kernel_rfl
theorem gPowType : (Tryz.prog.globals[7]?).map (·.type) = some 248 := by kernel_rfl
theorem cellsPow : Tryz.prog.cellsOf 248 = 20 := by kernel_rfl
theorem cellsU64 : Tryz.prog.cellsOf 139 = 1 := by kernel_rfl
theorem laid_out : laidOutB Tryz.prog = true := by kernel_rfl
theorem low : decide (Tryz.prog.globals.size < (begin Tryz.prog (fun _ _ => 0) default).world.heap.size) = true := by kernel_rfl

/-- What a row's list gives: the table's cells hold its numbers. -/
theorem pow_tab {W : World} {l : List (String × DataW Unit)} (hl : (l.filter fun x => x.1 == "internal/strconv.uint64pow10") = [("internal/strconv.uint64pow10", Rows.laid_internal_strconv_uint64pow10)]) (h : laidMetH Tryz.prog l W) :
    Lib.TabIs Tryz.prog W "internal/strconv.uint64pow10" .u64 pow10s := by
  have h1 := h.filter fun x => x.1 == "internal/strconv.uint64pow10"
  rw [hl] at h1
  exact Lib.tabIs_of_head (rest := []) gPow gPowType Tryz.underlying248 Tryz.underlying139 cellsU64 cellsPow h1

theorem gSyn : Tryz.prog.globalNamed "strconv.ErrSyntax" = some 3 := by kernel_rfl
theorem gSynType : (Tryz.prog.globals[3]?).map (·.type) = some 119 := by kernel_rfl
theorem cellsErr : Tryz.prog.cellsOf 246 = 1 := by kernel_rfl
theorem cellsStr : Tryz.prog.cellsOf 9 = 1 := by kernel_rfl
theorem starErr : "*" ++ "errors.errorString" = "*errors.errorString" := by decide
theorem rowErr (u : TypeId) (h : Tryz.prog.typeName? 3 u = some "*errors.errorString") : u = 244 :=
  typeName_ptr_named (nm := "errors.errorString") (by rw [starErr]; kernel_rfl) (by kernel_rfl) (by decide) u (by rw [starErr]; exact h)

/-- The error's variable holds a pointer, where a row lists it. -/
theorem err_at {W : World} {l : List (String × DataW Unit)} (h : laidMet Tryz.prog l W) (hl : (l.filter fun x => x.1 == "strconv.ErrSyntax") = [("strconv.ErrSyntax", Rows.laid_strconv_ErrSyntax)]) : ErrAt W := by
  have h1 := h.filter fun x => x.1 == "strconv.ErrSyntax"
  rw [hl] at h1
  obtain ⟨a, s, hv, _⟩ := laid_sentinel h1 gSyn gSynType Tryz.underlying119 rowErr Tryz.underlying244 Tryz.underlying246 rfl rfl Tryz.underlying9 cellsErr cellsStr
  unfold World.var? at hv
  rw [gSyn] at hv
  simp only [Option.bind_some] at hv
  split at hv
  · rename_i cs t fr hw
    cases hv
    exact ⟨a, _, t, fr, hw, rfl⟩
  · cases hv

theorem size_of {W : World} (hs : W.ShapedOpen Tryz.prog) : Tryz.prog.globals.size ≤ W.heap.size := by
  obtain ⟨o, o0, h1, _⟩ := hs.2 Tryz.prog.globals.size (Nat.le_refl _) (of_decide_eq_true low)
  exact Nat.le_of_lt (Array.getElem?_eq_some_iff.1 h1).1

/-- What holds in every world of a row. -/
theorem at_of {W : World} {l : List (String × DataW Unit)} (hs : W.ShapedOpen Tryz.prog) (h : laidMet Tryz.prog l W) (hH : laidMetH Tryz.prog l W)
    (hl : (l.filter fun x => x.1 == "internal/strconv.uint64pow10") = [("internal/strconv.uint64pow10", Rows.laid_internal_strconv_uint64pow10)]) (hl2 : (l.filter fun x => x.1 == "strconv.ErrSyntax") = [("strconv.ErrSyntax", Rows.laid_strconv_ErrSyntax)]) : AtP W :=
  ⟨size_of hs, pow_tab hl hH, err_at h hl2⟩

/-- What is reckoned of a law over no blocks (hidden in a structure, so that no elaborator looks into it). -/
structure Run0 (E : Env) (d : Nat) (f : FuncId) (args : List Value) : Prop where
  out : funcK E d f args [] Tryz.prog.globals.size fun u _ _ mw => u = .bool true ∧ Tryz.prog.globals.size ≤ mw

/-- The cells of a table's data. -/
def flat : DataW Unit → List Value
  | .lit (.int k n) => [.int k n]
  | .agg l => flats l
  | _ => []
  where flats : List (DataW Unit) → List Value
    | [] => []
    | d :: l => flat d ++ flats l

def putVar (h : Array Obj) (g : Nat) (cs : Array Value) : Array Obj := h.modify g fun
  | .cells _ t frozen => .cells cs t frozen
  | o => o
def withTab (h : Array Obj) (g : Nat) (d : DataW Unit) : Array Obj := putVar h g (flat d).toArray

noncomputable abbrev N0 : Nat := (World.settled Tryz.prog default).heap.size
def errBlks : Array Obj := #[.cells #[.string ⟨#[118, 97, 108, 117, 101, 32, 111, 117, 116, 32, 111, 102, 32, 114, 97, 110, 103, 101]⟩] 246 (0, 0), .cells #[.string ⟨#[105, 110, 118, 97, 108, 105, 100, 32, 115, 121, 110, 116, 97, 120]⟩] 246 (0, 0)]

/-- The tables' cells. -/
noncomputable def putTabs (h : Array Obj) : Array Obj :=
  let h := withTab h 0 Rows.laid_unicode_utf8_first
  let h := withTab h 1 Rows.laid_unicode_utf8_acceptRanges
  let h := withTab h 7 Rows.laid_internal_strconv_uint64pow10
  let h := withTab h 8 Rows.laid_math_bits_deBruijn32tab
  let h := withTab h 9 Rows.laid_math_bits_deBruijn64tab
  h

/-- A world for the witness: the settled one, the tables and the two errors as their initialisers lay them. -/
noncomputable def laidWorld (os : Os) : World :=
  { World.holding Tryz.prog os ⟨errBlks, #[], []⟩ with
    heap := putVar (putVar (putTabs (World.holding Tryz.prog os ⟨errBlks, #[], []⟩).heap) 4 #[.iface 244 (.pointer (some ⟨(World.settled Tryz.prog os).heap.size, 0, none⟩))])
      3 #[.iface 244 (.pointer (some ⟨(World.settled Tryz.prog os).heap.size + 1, 0, none⟩))] }

/-- Those of its blocks that lists lead to. -/
noncomputable def laidAt : List Nat :=
  0 ::
  1 ::
  3 :: 4 :: 7 ::
  8 ::
  9 ::
  [N0, N0 + 1]

end Go.Proofs.YtamkkkkonigglaaGreatDoor
