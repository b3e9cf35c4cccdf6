/-
  utf8.ValidString: the shelf's contract, laid at this translation by names; what it tells of a text.
-/
import Derived.Shelf.Unicode.ValidAny
import Derived.Test.YtdbjbmdaekgbhaaGreatDoorFa
import Derived.Test.YtdbjbmdaekgbhaaGreatDoorPeP1
import Derived.Lib.LaidU8T
namespace Go.Proofs.YtdbjbmdaekgbhaaGreatDoor
open Go Go.Pe Go.RowKit Go.Shelf

def vren : Go.Shelf.Ren := ⟨fun | 196 => 49 | 259 => 134 | n => n,
  fun | 0 => 0 | 3 => 3 | 4 => 4 | 5 => 5 | 9 => 9 | 12 => 12 | 46 => 173 | 53 => 22 | 119 => 169 | 138 => 171 | 139 => 172 | n => n, fun | 3 => 0 | 4 => 1 | n => n⟩
theorem lays196 : Go.Proofs.Lays.n196 Tryz.prog vren := {
  mixed := by kernel_rfl
  f196 := Tryz.func49.trans (congrArg some (by kernel_rfl))
  f259 := Tryz.func134.trans (congrArg some (by kernel_rfl))
  t0 := Tryz.underlying0
  a0 := Tryz.isAgg0
  z0 := Tryz.sizeOf0
  v0 := Tryz.zeroValue0
  t3 := Tryz.underlying3
  a3 := Tryz.isAgg3
  z3 := Tryz.sizeOf3
  v3 := Tryz.zeroValue3
  t4 := Tryz.underlying4
  a4 := Tryz.isAgg4
  z4 := Tryz.sizeOf4
  v4 := Tryz.zeroValue4
  t5 := Tryz.underlying5
  a5 := Tryz.isAgg5
  z5 := Tryz.sizeOf5
  v5 := Tryz.zeroValue5
  t9 := Tryz.underlying9
  a9 := Tryz.isAgg9
  z9 := Tryz.sizeOf9
  v9 := Tryz.zeroValue9
  t12 := Tryz.underlying12
  a12 := Tryz.isAgg12
  z12 := Tryz.sizeOf12
  v12 := Tryz.zeroValue12
  t46 := Tryz.underlying173
  a46 := Tryz.isAgg173
  z46 := Tryz.sizeOf173
  v46 := Tryz.zeroValue173
  t53 := Tryz.underlying22
  a53 := Tryz.isAgg22
  z53 := Tryz.sizeOf22
  v53 := Tryz.zeroValue22
  t119 := Tryz.underlying169
  a119 := Tryz.isAgg169
  z119 := Tryz.sizeOf169
  t138 := Tryz.underlying171
  a138 := Tryz.isAgg171
  z138 := Tryz.sizeOf171
  v138 := Tryz.zeroValue171
  t139 := Tryz.underlying172
  a139 := Tryz.isAgg172
  z139 := Tryz.sizeOf172
  v139 := Tryz.zeroValue172
  g3 := by kernel_rfl
  g4 := by kernel_rfl }

theorem ltN {a b : Nat} (h : Nat.ble (a + 1) b = true) : a < b := Nat.le_of_ble_eq_true h

theorem utf8_below {g3 g4 : Nat} {base w : World} (h : Lib.Utf8Tabs g3 g4 base) (hb : Below base.heap.size base w) (h3 : g3 < base.heap.size) (h4 : g4 < base.heap.size) : Lib.Utf8Tabs g3 g4 w := by
  have key : ∀ g off, g < base.heap.size → w.cell? ⟨g, off, none⟩ = base.cell? ⟨g, off, none⟩ := fun g off hg => by
    unfold World.cell?
    rw [hb.block g hg]
  refine ⟨fun c hc => ?_, fun i hi => ?_⟩
  · rw [key _ _ h3]; exact h.1 c hc
  · rw [key _ _ h4, key _ _ h4]; exact h.2 i hi

def Utf8At (w : World) : Prop := Lib.Utf8Tabs 0 1 w

theorem valid_totA {base : World} (hlow : Tryz.prog.globals.size ≤ base.heap.size) (hU : Utf8At base) (s : ByteArray) (hs : s.size ≤ 9223372036854775807) (E : Env) (hP : E.P = Tryz.prog) (h : Heap) (n : Nat) :
    FuncSem E base 49 [.string s] h n (.bool (Lib.validD s.data.toList)) h n big := by
  have hE' : EnvOk (env []) base := env_ok (rules := []) (fun _ h => by cases h)
  refine (FuncSem.ofContract (E := env []) hE' (fn := Tryz.f49) Tryz.func49 (by kernel_rfl) (pure1 (by kernel_rfl)) (by kernel_rfl) fun w hb => ?_).env hP
  have h3 : 0 < base.heap.size := Nat.lt_of_lt_of_le (ltN (by kernel_rfl)) hlow
  have h4 : 1 < base.heap.size := Nat.lt_of_lt_of_le (ltN (by kernel_rfl)) hlow
  exact (Any.utf8_ValidString lays196 s w hs (utf8_below hU hb h3 h4) : Calls Tryz.prog 49 #[.string s] w _)

theorem valid_tot {base : World} (hlow : Tryz.prog.globals.size ≤ base.heap.size) (hU : Utf8At base) (s : ByteArray) (hs : s.size ≤ 9223372036854775807) : Tot base 49 [.string s] (.bool (Lib.validD s.data.toList)) := fun E hP h _ m =>
  valid_totA hlow hU s hs E hP h m

theorem firstSame : Rows.laid_unicode_utf8_first = Lib.firstData := by kernel_rfl
theorem acceptSame : (Rows.laid_unicode_utf8_acceptRanges : DataW Unit) = Lib.acceptData := by kernel_rfl

theorem utf8_at {W : World} {l : List (String × DataW Unit)} (h : laidMet Tryz.prog l W) (h1 : ("unicode/utf8.first", Rows.laid_unicode_utf8_first) ∈ l) (h2 : ("unicode/utf8.acceptRanges", Rows.laid_unicode_utf8_acceptRanges) ∈ l) : Utf8At W := by
  rw [firstSame] at h1
  rw [acceptSame] at h2
  exact utf8Tabs_of_readsT (U8Types.of196 lays196) ⟨by kernel_rfl, by kernel_rfl, by kernel_rfl, by kernel_rfl, by kernel_rfl, by kernel_rfl, by kernel_rfl⟩ (Lib.laidMet.reads h h1) (Lib.laidMet.reads h h2)

end Go.Proofs.YtdbjbmdaekgbhaaGreatDoor
