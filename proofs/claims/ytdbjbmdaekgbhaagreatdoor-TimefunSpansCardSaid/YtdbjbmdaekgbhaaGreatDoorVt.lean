/-
  The errors' variables where a row lists them; a world for the witness; numbers that are handed over, opened.
-/
import Derived.Test.YtdbjbmdaekgbhaaGreatDoorFo
import Derived.Test.YtdbjbmdaekgbhaaGreatDoorVs
import Derived.Test.YtdbjbmdaekgbhaaGreatDoorWa
import Derived.Test.YtdbjbmdaekgbhaaGreatDoorVa
import Derived.Deep.DeepWitnessRowRef
import Derived.Lib.LaidIn
import Derived.Stop.LaidErr
namespace Go.Proofs.YtdbjbmdaekgbhaaGreatDoor
open Go Go.Pe Go.RowKit Go.ChangeShapes Go.WideShapes Go.ChangeAt

theorem gSyn : Tryz.prog.globalNamed "strconv.ErrSyntax" = some 5 := by kernel_rfl
theorem gSynType : (Tryz.prog.globals[5]?).map (·.type) = some 197 := by kernel_rfl
theorem cellsErr : Tryz.prog.cellsOf 318 = 1 := by kernel_rfl
theorem cellsStr : Tryz.prog.cellsOf 9 = 1 := by kernel_rfl
theorem starErr : "*" ++ "errors.errorString" = "*errors.errorString" := by decide
theorem rowErr (u : TypeId) (h : Tryz.prog.typeName? 3 u = some "*errors.errorString") : u = 316 :=
  typeName_ptr_named (nm := "errors.errorString") (by rw [starErr]; kernel_rfl) (by kernel_rfl) (by decide) u (by rw [starErr]; exact h)

/-- The error's variable holds a pointer, where a row lists it. -/
theorem err_at {W : World} {l : List (String × DataW Unit)} (h : laidMet Tryz.prog l W) (hl : (l.filter fun x => x.1 == "strconv.ErrSyntax") = [("strconv.ErrSyntax", Rows.laid_strconv_ErrSyntax)]) : ErrAt W := by
  have h1 := h.filter fun x => x.1 == "strconv.ErrSyntax"
  rw [hl] at h1
  obtain ⟨a, s, hv, _⟩ := laid_sentinel h1 gSyn gSynType Tryz.underlying197 rowErr Tryz.underlying316 Tryz.underlying318 rfl rfl Tryz.underlying9 cellsErr cellsStr
  unfold World.var? at hv
  rw [gSyn] at hv
  simp only [Option.bind_some] at hv
  split at hv
  · rename_i cs t fr hw
    cases hv
    exact ⟨a, _, t, fr, hw, rfl⟩
  · cases hv

def putVar (h : Array Obj) (g : Nat) (cs : Array Value) : Array Obj := h.modify g fun
  | .cells _ t frozen => .cells cs t frozen
  | o => o
def withTabE (h : Array Obj) (g : Nat) (d : DataW Unit) : Array Obj := putVar h g (flat d).toArray

noncomputable abbrev N0 : Nat := (World.settled Tryz.prog default).heap.size
def errBlks : Array Obj := #[.cells #[.string ⟨#[118, 97, 108, 117, 101, 32, 111, 117, 116, 32, 111, 102, 32, 114, 97, 110, 103, 101]⟩] 318 (0, 0), .cells #[.string ⟨#[105, 110, 118, 97, 108, 105, 100, 32, 115, 121, 110, 116, 97, 120]⟩] 318 (0, 0)]

/-- The tables' cells. -/
noncomputable def putTabs (h : Array Obj) : Array Obj :=
  let h := withTabE h 0 Rows.laid_unicode_utf8_first
  let h := withTabE h 1 Rows.laid_unicode_utf8_acceptRanges
  let h := withTabE h 7 Rows.laid_internal_strconv_uint64pow10
  let h := withTabE h 8 Rows.laid_math_bits_deBruijn32tab
  let h := withTabE h 9 Rows.laid_math_bits_deBruijn64tab
  h

/-- A world for the witness: the settled one, the tables and the two errors as their initialisers lay them. -/
noncomputable def laidWorldE (os : Os) : World :=
  { World.holding Tryz.prog os ⟨errBlks, #[], []⟩ with
    heap := putVar (putVar (putTabs (World.holding Tryz.prog os ⟨errBlks, #[], []⟩).heap) 6 #[.iface 316 (.pointer (some ⟨(World.settled Tryz.prog os).heap.size, 0, none⟩))])
      5 #[.iface 316 (.pointer (some ⟨(World.settled Tryz.prog os).heap.size + 1, 0, none⟩))] }

/-- Those of its blocks that lists lead to. -/
noncomputable def laidAtE : List Nat :=
  0 ::
  1 ::
  5 :: 6 :: 7 ::
  8 ::
  9 ::
  [N0, N0 + 1]

theorem cellsRaw02 : Tryz.prog.cellsOf 26 = 4 := by kernel_rfl
theorem cellsWideU : Tryz.prog.cellsOf 24 = 2 := by kernel_rfl

theorem array4 {α : Type} {cs : Array α} (h : cs.size = 4) : ∃ c0 c1 c2 c3, cs = #[c0, c1, c2, c3] := by
  obtain ⟨l⟩ := cs
  match l, h with
  | [c0, c1, c2, c3], _ => exact ⟨c0, c1, c2, c3, rfl⟩

theorem u64_wf {n : Int} (h : (Lit.int .u64 n).wf = true) : u64 n := by
  have h1 : (decide (IntKind.min .u64 ≤ n) && decide (n ≤ IntKind.max .u64)) = true := h
  have e1 : IntKind.min .u64 = 0 := by decide
  have e2 : IntKind.max .u64 = 18446744073709551615 := by decide
  rw [e1, e2] at h1
  simp only [Bool.and_eq_true, decide_eq_true_eq] at h1
  unfold u64
  omega

/-- The fields of a struct, read as data. -/
theorem trod_fields {H : Type} {enc : TypeId × Value → H} {P : Program} {w : World} {sp : Nat → Bool} {hd : Bool} {t : TypeId} {fs : Array Field} {l : List Value} {n : Nat} {y : DataW H × List MemPlace} (hs : P.underlying t = some (.struct fs))
    (hf : DataW.trod enc P w 0 sp hd n t l = some y) : ∀ (i : Nat) (f : Field), fs[i]? = some f → ∃ n y, DataW.trod enc P w 0 sp hd n f.type ((l.drop f.offset).take (P.cellsOf f.type)) = some y := by
  obtain ⟨xs, n, _, _, _, hlen, hx⟩ := DataW.trod_struct hs hf
  intro i f hi
  have := hx i f hi
  have hlt : i < xs.length := by
    rw [hlen]
    exact (Array.getElem?_eq_some_iff.1 hi).1
  rw [List.getElem?_eq_getElem hlt] at this
  exact ⟨n, _, this⟩

set_option maxRecDepth 100000 in
/-- A number's parts, opened. -/
theorem open_raw02 {H : Type} {enc : TypeId × Value → H} {w : World} {sp : Nat → Bool} {hd : Bool} {r : Reach} {b0 : Nat} {v : Value} {d : DataW H} {p : List MemPlace}
    (hv : Value.okWide Tryz.prog w r b0 26 v) (h : DataW.Trod enc Tryz.prog w 0 sp hd 26 v d p) : ∃ b hi lo e, v = decC b hi lo e ∧ u64 hi ∧ u64 lo ∧ rng e := by
  obtain ⟨cs, rfl, hsz, hf⟩ := open_cells Tryz.underlying26 hv h
  obtain ⟨c0, c1, c2, c3, rfl⟩ := array4 (hsz.trans cellsRaw02)
  obtain ⟨_, _, g0⟩ := hf 0 _ rfl
  obtain ⟨_, _, g1⟩ := hf 1 _ rfl
  obtain ⟨_, _, g3⟩ := hf 2 _ rfl
  have g1' := trod_fields Tryz.underlying24 g1
  obtain ⟨_, _, k0⟩ := g1' 0 _ rfl
  obtain ⟨_, _, k1⟩ := g1' 1 _ rfl
  obtain ⟨b, e0, _⟩ := DataW.trod_bool Tryz.underlying4 g0
  obtain ⟨hi, e1, _, w1⟩ := DataW.trod_int Tryz.underlying22 k0
  obtain ⟨lo, e2, _, w2⟩ := DataW.trod_int Tryz.underlying22 k1
  obtain ⟨e, e3, _, w3⟩ := DataW.trod_int Tryz.underlying3 g3
  cases e0
  cases e1
  cases e2
  cases e3
  exact ⟨b, hi, lo, e, rfl, u64_wf w1, u64_wf w2, int_wf w3⟩

end Go.Proofs.YtdbjbmdaekgbhaaGreatDoor
