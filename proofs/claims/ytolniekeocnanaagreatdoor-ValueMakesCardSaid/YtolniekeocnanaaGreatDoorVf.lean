/-
  What a row's list gives; a world for the witness; structs opened; ValueMakes: the contract and the row's form, lifted.
-/
import Derived.Test.YtolniekeocnanaaGreatDoorVe
import Derived.Deep.DeepWitnessRowRef
import Derived.Lib.LaidIn
import Derived.Stop.LaidErr
namespace Go.Proofs.YtolniekeocnanaaGreatDoor
open Go Go.Pe Go.RowKit Go.ChangeShapes Go.WideShapes Go.ChangeAt

theorem gSyn : Tryz.prog.globalNamed "strconv.ErrSyntax" = some 5 := by kernel_rfl
theorem gSynType : (Tryz.prog.globals[5]?).map (·.type) = some 301 := by kernel_rfl
theorem cellsErr : Tryz.prog.cellsOf 410 = 1 := by kernel_rfl
theorem cellsStr : Tryz.prog.cellsOf 9 = 1 := by kernel_rfl
theorem starErr : "*" ++ "errors.errorString" = "*errors.errorString" := by decide
theorem rowErr (u : TypeId) (h : Tryz.prog.typeName? 3 u = some "*errors.errorString") : u = 408 :=
  typeName_ptr_named (nm := "errors.errorString") (by rw [starErr]; kernel_rfl) (by kernel_rfl) (by decide) u (by rw [starErr]; exact h)

/-- The error's variable holds a pointer, where a row lists it. -/
theorem err_at {W : World} {l : List (String × DataW Unit)} (h : laidMet Tryz.prog l W) (hl : (l.filter fun x => x.1 == "strconv.ErrSyntax") = [("strconv.ErrSyntax", Rows.laid_strconv_ErrSyntax)]) : ErrAt W := by
  have h1 := h.filter fun x => x.1 == "strconv.ErrSyntax"
  rw [hl] at h1
  obtain ⟨a, s, hv, _⟩ := laid_sentinel h1 gSyn gSynType Tryz.underlying301 rowErr Tryz.underlying408 Tryz.underlying410 rfl rfl Tryz.underlying9 cellsErr cellsStr
  unfold World.var? at hv
  rw [gSyn] at hv
  simp only [Option.bind_some] at hv
  split at hv
  · rename_i cs t fr hw
    cases hv
    exact ⟨a, _, t, fr, hw, rfl⟩
  · cases hv

theorem firstSame : Rows.laid_unicode_utf8_first = Lib.firstData := by kernel_rfl
theorem acceptSame : (Rows.laid_unicode_utf8_acceptRanges : DataW Unit) = Lib.acceptData := by kernel_rfl

theorem utf8_at {W : World} {l : List (String × DataW Unit)} (h : laidMet Tryz.prog l W) (h1 : ("unicode/utf8.first", Rows.laid_unicode_utf8_first) ∈ l) (h2 : ("unicode/utf8.acceptRanges", Rows.laid_unicode_utf8_acceptRanges) ∈ l) : Utf8At W := by
  rw [firstSame] at h1
  rw [acceptSame] at h2
  exact utf8Tabs_of_readsT (U8Types.of196 Tryz.lays196) ⟨by kernel_rfl, by kernel_rfl, by kernel_rfl, by kernel_rfl, by kernel_rfl, by kernel_rfl, by kernel_rfl⟩ (Lib.laidMet.reads h h1) (Lib.laidMet.reads h h2)

noncomputable abbrev N0 : Nat := (World.settled Tryz.prog default).heap.size
def putVar (h : Array Obj) (g : Nat) (cs : Array Value) : Array Obj := h.modify g fun
  | .cells _ t frozen => .cells cs t frozen
  | o => o

/-- A world for the witness: the settled one, the tables and the two errors as their initialisers lay them. -/
noncomputable def laidWorldV (os : Os) : World :=
  { World.holding Tryz.prog os ⟨#[.cells #[.string ⟨#[118, 97, 108, 117, 101, 32, 111, 117, 116, 32, 111, 102, 32, 114, 97, 110, 103, 101]⟩] 410, .cells #[.string ⟨#[105, 110, 118, 97, 108, 105, 100, 32, 115, 121, 110, 116, 97, 120]⟩] 410], #[], []⟩ with
    heap := putVar (putVar (withTab (withTab (withTab (withTab (withTab (World.holding Tryz.prog os ⟨#[.cells #[.string ⟨#[118, 97, 108, 117, 101, 32, 111, 117, 116, 32, 111, 102, 32, 114, 97, 110, 103, 101]⟩] 410, .cells #[.string ⟨#[105, 110, 118, 97, 108, 105, 100, 32, 115, 121, 110, 116, 97, 120]⟩] 410], #[], []⟩).heap
      0 Rows.laid_unicode_utf8_first) 1 Rows.laid_unicode_utf8_acceptRanges) 7 Rows.laid_internal_strconv_uint64pow10) 8 Rows.laid_math_bits_deBruijn32tab) 9 Rows.laid_math_bits_deBruijn64tab)
      6 #[.iface 408 (.pointer (some ⟨(World.settled Tryz.prog os).heap.size, 0, none⟩))]) 5 #[.iface 408 (.pointer (some ⟨(World.settled Tryz.prog os).heap.size + 1, 0, none⟩))] }

set_option maxRecDepth 1000000 in
theorem laidV_met (os : Os) (args : Array Value) : laidMet Tryz.prog Rows.valueMakesRow.laid ((laidWorldV os).forCall (fun _ _ => 0) ⟨#[], args, []⟩).memory :=
  (LaidIn.of_run (l := Rows.valueMakesRow.laid) [0, 1, 5, 6, 7, 8, 9, N0, N0 + 1] 10 (by kernel_rfl) (by kernel_rfl) (by kernel_rfl) (by kernel_rfl)).met

/-- The fields of a struct, read as data. -/
theorem trod_fields {H : Type} {enc : TypeId × Value → H} {P : Program} {w : World} {sp : Nat → Bool} {hd : Bool} {t : TypeId} {fs : Array Field} {l : List Value} {n : Nat} {y : DataW H × List MemPlace} (hs : P.underlying t = some (.struct fs))
    (hf : DataW.trod enc P w 0 sp hd n t l = some y) : ∀ (i : Nat) (f : Field), fs[i]? = some f → ∃ n y, DataW.trod enc P w 0 sp hd n f.type ((l.drop f.offset).take (P.cellsOf f.type)) = some y := by
  obtain ⟨xs, n, _, _, _, hlen, hx⟩ := DataW.trod_struct hs hf
  intro i f hi
  have := hx i f hi
  have hlt : i < xs.length := by
    rw [hlen]
    exact (Array.getElem?_eq_some_iff.1 hi).1
  rw [List.getElem?_eq_getElem hlt] at this
  exact ⟨n, _, this⟩

theorem cellsDec : Tryz.prog.cellsOf 28 = 4 := by kernel_rfl
theorem cellsDate : Tryz.prog.cellsOf 50 = 3 := by kernel_rfl
theorem cellsTime : Tryz.prog.cellsOf 52 = 3 := by kernel_rfl
theorem cellsWide : Tryz.prog.cellsOf 24 = 2 := by kernel_rfl

theorem array4 {α : Type} {cs : Array α} (h : cs.size = 4) : ∃ c0 c1 c2 c3, cs = #[c0, c1, c2, c3] := by
  obtain ⟨l⟩ := cs
  match l, h with
  | [c0, c1, c2, c3], _ => exact ⟨c0, c1, c2, c3, rfl⟩
theorem array3 {α : Type} {cs : Array α} (h : cs.size = 3) : ∃ c0 c1 c2, cs = #[c0, c1, c2] := by
  obtain ⟨l⟩ := cs
  match l, h with
  | [c0, c1, c2], _ => exact ⟨c0, c1, c2, rfl⟩

section
variable {H : Type} {enc : TypeId × Value → H} {w : World} {sp : Nat → Bool} {hd : Bool} {r : Reach} {b0 : Nat} {v : Value} {d : DataW H} {p : List MemPlace}
set_option maxRecDepth 100000 in
theorem open_dec (hv : Value.okWide Tryz.prog w r b0 28 v) (h : DataW.Trod enc Tryz.prog w 0 sp hd 28 v d p) : ∃ b hi lo e, v = decC b hi lo e := by
  obtain ⟨cs, rfl, hsz, hf⟩ := open_cells Tryz.underlying28 hv h
  obtain ⟨c0, c1, c2, c3, rfl⟩ := array4 (hsz.trans cellsDec)
  obtain ⟨_, _, g0⟩ := hf 0 _ rfl
  obtain ⟨_, _, g1⟩ := hf 1 _ rfl
  obtain ⟨_, _, g3⟩ := hf 2 _ rfl
  have g1' := trod_fields Tryz.underlying24 g1
  obtain ⟨_, _, k0⟩ := g1' 0 _ rfl
  obtain ⟨_, _, k1⟩ := g1' 1 _ rfl
  obtain ⟨b, e0, _⟩ := DataW.trod_bool Tryz.underlying4 g0
  obtain ⟨hi, e1, _⟩ := DataW.trod_int Tryz.underlying22 k0
  obtain ⟨lo, e2, _⟩ := DataW.trod_int Tryz.underlying22 k1
  obtain ⟨e, e3, _⟩ := DataW.trod_int Tryz.underlying3 g3
  cases e0
  cases e1
  cases e2
  cases e3
  exact ⟨b, hi, lo, e, rfl⟩

set_option maxRecDepth 100000 in
theorem open_date (hv : Value.okWide Tryz.prog w r b0 50 v) (h : DataW.Trod enc Tryz.prog w 0 sp hd 50 v d p) : ∃ y m d, v = dateC y m d := by
  obtain ⟨cs, rfl, hsz, hf⟩ := open_cells Tryz.underlying50 hv h
  obtain ⟨c0, c1, c2, rfl⟩ := array3 (hsz.trans cellsDate)
  obtain ⟨_, _, g0⟩ := hf 0 _ rfl
  obtain ⟨_, _, g1⟩ := hf 1 _ rfl
  obtain ⟨_, _, g2⟩ := hf 2 _ rfl
  obtain ⟨y, e0, _⟩ := DataW.trod_int Tryz.underlying3 g0
  obtain ⟨m, e1, _⟩ := DataW.trod_int Tryz.underlying3 g1
  obtain ⟨d, e2, _⟩ := DataW.trod_int Tryz.underlying3 g2
  cases e0
  cases e1
  cases e2
  exact ⟨y, m, d, rfl⟩

set_option maxRecDepth 100000 in
theorem open_time (hv : Value.okWide Tryz.prog w r b0 52 v) (h : DataW.Trod enc Tryz.prog w 0 sp hd 52 v d p) : ∃ s z o, v = timeC s z o := by
  obtain ⟨cs, rfl, hsz, hf⟩ := open_cells Tryz.underlying52 hv h
  obtain ⟨c0, c1, c2, rfl⟩ := array3 (hsz.trans cellsTime)
  obtain ⟨_, _, g0⟩ := hf 0 _ rfl
  obtain ⟨_, _, g1⟩ := hf 1 _ rfl
  obtain ⟨_, _, g2⟩ := hf 2 _ rfl
  obtain ⟨s, e0, _⟩ := DataW.trod_int Tryz.underlying3 g0
  obtain ⟨z, e1, _⟩ := DataW.trod_bool Tryz.underlying4 g1
  obtain ⟨o, e2, _⟩ := DataW.trod_int Tryz.underlying3 g2
  cases e0
  cases e1
  cases e2
  exact ⟨s, z, o, rfl⟩
end

set_option maxRecDepth 100000 in
theorem valueMakes_contract (H : Type) (enc : TypeId × Value → H) (W : World) (base : Nat) (args : Array Value) (ds gs : List (DataW H)) (before : List MemPlace)
    (hval : ∀ (j : Nat) t v, Tryz.f4.params[j]? = some t → args[j]? = some v → Value.okWide Tryz.prog W .any base t v)
    (hW : DataW.Whole enc Tryz.prog Tryz.f4.params.toList Rows.valueMakesSpec.vars false W args.toList ds gs before) (hL : laidMetH Tryz.prog Rows.valueMakesRow.laid W) (hs : W.ShapedOpen Tryz.prog) :
    Calls Tryz.prog 4 args W fun e W' => ∃ v, e = .returned v ∧ Rows.valueMakesSpec.post enc Tryz.prog Tryz.f4 false true false false W args v W' := by
  have hW' := hW
  obtain ⟨p, q, hA0, hV, rfl, hfz, hnd⟩ := hW
  have hA : DataW.TrodAll enc Tryz.prog W 0 (fun _ => true) true Tryz.f4.params.toList args.toList ds p := hA0
  rw [Tryz.params4] at hA hval
  obtain ⟨v0, vs0, d0, ds0, p0, q0, hargs, rfl, rfl, h0, r0⟩ := trodAll_cons hA
  obtain ⟨v1, vs1, d1, ds1, p1, q1, rfl, rfl, rfl, h1, r1⟩ := trodAll_cons r0
  obtain ⟨v2, vs2, d2, ds2, p2, q2, rfl, rfl, rfl, h2, r2⟩ := trodAll_cons r1
  obtain ⟨v3, vs3, d3, ds3, p3, q3, rfl, rfl, rfl, h3, r3⟩ := trodAll_cons r2
  obtain ⟨v4, vs4, d4, ds4, p4, q4, rfl, rfl, rfl, h4, r4⟩ := trodAll_cons r3
  obtain ⟨v5, vs5, d5, ds5, p5, q5, rfl, rfl, rfl, h5, r5⟩ := trodAll_cons r4
  obtain ⟨rfl, rfl, rfl⟩ := trodAll_nil r5
  obtain rfl : args = #[v0, v1, v2, v3, v4, v5] := by cases args; simp_all
  obtain ⟨b, hi, lo, e, rfl⟩ := open_dec (hval 0 _ v0 rfl rfl) h0
  obtain ⟨y, m, dd, rfl⟩ := open_date (hval 1 _ v1 rfl rfl) h1
  obtain ⟨s, z, o, rfl⟩ := open_time (hval 2 _ v2 rfl rfl) h2
  obtain ⟨x, rfl, _, _, wx⟩ := ChangeMaps.open_string Tryz.underlying9 (hval 3 _ v3 rfl rfl) h3
  obtain ⟨n, rfl, _, _, wn⟩ := ChangeShapes.open_int Tryz.underlying3 (hval 4 _ v4 rfl rfl) h4
  obtain ⟨t, rfl⟩ := okWide_bool Tryz.underlying4 (hval 5 _ v5 rfl rfl)
  have hT := pow_tab (by kernel_rfl) hL
  have hM : laidMet Tryz.prog Rows.valueMakesRow.laid W := cast (by kernel_rfl) hL
  have hE := err_at hM (by kernel_rfl)
  have hU := utf8_at hM (.tail _ (.tail _ (.tail _ (.tail _ (.tail _ (.tail _ (.head _))))))) (.tail _ (.tail _ (.tail _ (.head _))))
  refine (vmakes_calls hs hT hE hU b hi lo e y m dd s z o x n t (int_wf wn) (by unfold maxLen at wx; omega)).mono fun e W' ⟨he, hb⟩ => ?_
  exact ⟨_, he, post_law hW' rfl rfl laid_out (by kernel_rfl) (by kernel_rfl) Tryz.underlying4 hb⟩

set_option maxRecDepth 100000 in
theorem valueMakes_lifted (os : Os) (started : os.Started) (H : Type) (enc : TypeId × Value → H) (F : Stop.Interp) :
    ReturnsInHanded {} Tryz.checked os 4 .any ((OpenSpec.ofChange Rows.valueMakesSpec).preRow enc Tryz.prog Tryz.f4 Rows.valueMakesRow.domain false Rows.valueMakesRow.laid)
      (((OpenSpec.ofChange Rows.valueMakesSpec).at F).post enc Tryz.prog Tryz.f4 false true false false) := by
  refine returnsInHanded_of_row (C := Tryz.checked) (s := OpenSpec.ofChange Rows.valueMakesSpec) own started (by kernel_rfl) Tryz.func4
    (witness_row_atRef (enc := enc) (C := Tryz.checked) false (laidWorldV os) #[.agg #[.bool false, .int .u64 0, .int .u64 0, .int .i64 0], .agg #[.int .i64 0, .int .i64 0, .int .i64 0], .agg #[.int .i64 0, .bool false, .int .i64 0], .string ⟨#[]⟩, .int .i64 0, .bool false] rfl (by kernel_rfl) (by kernel_rfl) (by kernel_rfl)
      (OpenSpec.preRow_of_cond 8 (x := ([.agg [.lit (.bool false), .agg [.lit (.int .u64 0), .lit (.int .u64 0)], .lit (.int .i64 0)], .agg [.lit (.int .i64 0), .lit (.int .i64 0), .lit (.int .i64 0)], .agg [.lit (.int .i64 0), .lit (.bool false), .lit (.int .i64 0)], .lit (.string []), .lit (.int .i64 0), .lit (.bool false)], [], [])) (by kernel_rfl) (by kernel_rfl) (fun k hk => by cases hk) (by kernel_rfl) (laidV_met os _))) ?_
  intro W base args ds gs before hval hW _ _ _ hL hs _
  exact valueMakes_contract H enc W base args ds gs before hval hW hL hs

end Go.Proofs.YtolniekeocnanaaGreatDoor
