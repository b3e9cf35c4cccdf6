/-
  From what is reckoned to a law's contract; the tables; a world for the witness.
  A law's arguments, opened; what is given at its beginning.
  What readers and texts come to, in one place.
  CheckOrders: the plain law (lists of names; no program in sight).
  Types as data, and when a value of the program is one (api.Type); which may be. Plain, but for the world's cells.
  Plain data (api.Datum), as data; when a value of the program is one; an argument is read as one.
  Values (value.Value), as data; when an interface's cell is one.
  The errors' variables where a row lists them; a world for the witness; numbers that are handed over, opened.
-/
import Derived.Test.YthmogphlnjpakaaGreatDoorEf1
import Derived.Test.YthmogphlnjpakaaGreatDoorCards
import Derived.Test.YthmogphlnjpakaaGreatDoorTie
import Derived.WalkKit
import Derived.ProofKit
import Derived.OpenShut
import Derived.Deep.DeepHandedRow
import Derived.Lib.LaidTab
import Derived.LaidSub
import Derived.Test.YthmogphlnjpakaaGreatDoorXo1
import Derived.Test.YthmogphlnjpakaaGreatDoorXu
import Derived.Test.YthmogphlnjpakaaGreatDoorWc1
import Derived.Test.YthmogphlnjpakaaGreatDoorVs1
import Derived.Lib.Strings
import Derived.Below
import Derived.Laws.Rows
import Derived.Test.YthmogphlnjpakaaGreatDoorRows
import Derived.SliceStrings
import Derived.Test.YthmogphlnjpakaaGreatDoorWa1
import Derived.Deep.DeepWitnessRowRef
import Derived.Lib.LaidIn
import Derived.Stop.LaidErr

namespace Go.Proofs.YthmogphlnjpakaaGreatDoor
open Go Go.Pe Go.RowKit Go.ChangeShapes Go.WideShapes Go.ChangeAt
theorem own : ownKnob Tryz.prog.godebug = none := by kernel_rfl
theorem gPow : Tryz.prog.globalNamed "internal/strconv.uint64pow10" = some 5 := by kernel_rfl
theorem gPowType : (Tryz.prog.globals[5]?).map (·.type) = some 323 := by kernel_rfl
theorem cellsPow : Tryz.prog.cellsOf 323 = 20 := by kernel_rfl
theorem cellsU64 : Tryz.prog.cellsOf 84 = 1 := by kernel_rfl
theorem laid_out : laidOutB Tryz.prog = true := by kernel_rfl
theorem low : decide (Tryz.prog.globals.size < (begin Tryz.prog (fun _ _ => 0) default).world.heap.size) = true := by kernel_rfl
theorem pow_tab {W : World} {l : List (String × DataW Unit)} (hl : (l.filter fun x => x.1 == "internal/strconv.uint64pow10") = [("internal/strconv.uint64pow10", Rows.laid_internal_strconv_uint64pow10)]) (h : laidMetH Tryz.prog l W) :
    Lib.TabIs Tryz.prog W "internal/strconv.uint64pow10" .u64 pow10s := by
  have h1 := h.filter fun x => x.1 == "internal/strconv.uint64pow10"
  rw [hl] at h1
  exact Lib.tabIs_of_head (rest := []) gPow gPowType Tryz.underlying323 Tryz.underlying84 cellsU64 cellsPow h1
def flat : DataW Unit → List Value
  | .lit (.int k n) => [.int k n]
  | .agg l => flats l
  | _ => []
  where flats : List (DataW Unit) → List Value
    | [] => []
    | d :: l => flat d ++ flats l
end Go.Proofs.YthmogphlnjpakaaGreatDoor

namespace Go.Proofs.YthmogphlnjpakaaGreatDoor
open Go Go.Pe Go.RowKit Go.ChangeShapes Go.WideShapes Go.ChangeAt
theorem begun_of {W : World} (hs : W.ShapedOpen Tryz.prog) (hT : Lib.TabIs Tryz.prog W "internal/strconv.uint64pow10" .u64 pow10s) : Begun W :=
  ⟨hT, (rel_start (P := Tryz.prog) (h := []) hs low fun k b hb => by simp [getBlk] at hb).gsz⟩
end Go.Proofs.YthmogphlnjpakaaGreatDoor

namespace Go.Proofs.YthmogphlnjpakaaGreatDoor
open Go Go.Pe Go.RowKit
theorem rdays_tot {base : World} {s : ByteArray} (hs : strLen s ≤ 1048576) : ∃ (n : Int) (ok : Bool), (-9007199254740992 ≤ n ∧ n ≤ 9007199254740992) ∧ Tot base 138 [.string s] (.tuple #[.int .i64 n, .bool ok]) := by
  obtain ⟨v, ⟨r0, r1, rfl, hf⟩, ht⟩ := totA_of (base := base) (envK_ok (rulesTk_ok base)) (findL_ok (l := []) rfl fun _ h => nomatch h) rfl (rdays_hk _ hs) (fun v ⟨_, _, hv, _⟩ => by subst hv; kernel_rfl) (List.forall_mem_cons.2 ⟨by kernel_rfl, fun _ h => nomatch h⟩)
  exact ⟨r0, r1, hf, ht.tot⟩
theorem rmonths_tot {base : World} {s : ByteArray} (hs : strLen s ≤ 1048576) : ∃ (n : Int) (ok : Bool), (-9007199254740992 ≤ n ∧ n ≤ 9007199254740992) ∧ Tot base 139 [.string s] (.tuple #[.int .i64 n, .bool ok]) := by
  obtain ⟨v, ⟨r0, r1, rfl, hf⟩, ht⟩ := totA_of (base := base) (envK_ok (rulesTk_ok base)) (findL_ok (l := []) rfl fun _ h => nomatch h) rfl (rmonths_hk _ hs) (fun v ⟨_, _, hv, _⟩ => by subst hv; kernel_rfl) (List.forall_mem_cons.2 ⟨by kernel_rfl, fun _ h => nomatch h⟩)
  exact ⟨r0, r1, hf, ht.tot⟩
theorem nsigned_tot {base : World} (B : Stood base) {s : ByteArray} (hs : strLen s ≤ 1048576) : ∃ (n : Bool) (a b e : Int) (ok : Bool), decOk n a b e ∧ Tot base 106 [.string s] (.tuple #[decC n a b e, .bool ok]) := by
  obtain ⟨v, ⟨r0, r1, r2, r3, r4, rfl, hf⟩, ht⟩ := totA_of (base := base) (envW_ok (rulesSg_ok B)) (findL_ok (l := []) rfl fun _ h => nomatch h) rfl (nsigned_hk s (by omega)) (fun v ⟨_, _, _, _, _, hv, _⟩ => by subst hv; kernel_rfl) (List.forall_mem_cons.2 ⟨by kernel_rfl, fun _ h => nomatch h⟩)
  exact ⟨r0, r1, r2, r3, r4, hf, ht.tot⟩
end Go.Proofs.YthmogphlnjpakaaGreatDoor

namespace Go.Ord
def fnd : List ByteArray → ByteArray → Nat → Int
  | [], _, _ => -1
  | x :: l, t, j => if x = t then (j : Int) else fnd l t (j + 1)
def fndAt (N : List ByteArray) (t : ByteArray) (j : Nat) : Int := fnd (N.drop j) t j
theorem fndAt_end (N : List ByteArray) (t : ByteArray) : fndAt N t N.length = -1 := by
  unfold fndAt
  rw [List.drop_length]
  rfl
theorem fndAt_step (N : List ByteArray) (t : ByteArray) (j : Nat) (h : j < N.length) : fndAt N t j = if N.getD j ByteArray.empty = t then (j : Int) else fndAt N t (j + 1) := by
  unfold fndAt
  rw [List.drop_eq_getElem_cons h]
  have e : N.getD j ByteArray.empty = N[j] := by simp [List.getD, List.getElem?_eq_getElem h]
  rw [e]
  rfl
theorem same_of {t s : ByteArray} (h : (t.toList == s.toList) = true) : s = t := by
  rw [Lib.toList_data, Lib.toList_data, beq_iff_eq] at h
  exact (ByteArray.ext (Array.toList_inj.1 h)).symm
theorem apart_of {t s : ByteArray} (h : (t.toList == s.toList) = false) : s ≠ t := by
  rintro rfl
  rw [beq_self_eq_true] at h
  cases h
end Go.Ord

namespace Go.Typ
open Go Go.Ord Go.RowKit
inductive Ty where
  | nul
  | mk (kind : Int) (n : Nat) (item : Nat → Ty) (names : List ByteArray)
def Strs (w : World) (A : Option Addr) (N : List ByteArray) : Prop := ∀ j, j < N.length → ∃ b off, A = some ⟨b, off, none⟩ ∧ b < w.heap.size ∧ w.cell? ⟨b, off + j, none⟩ = some (.string (N.getD j ByteArray.empty))
theorem Strs.all {w : World} {A : Option Addr} {N : List ByteArray} (h : Strs w A N) (h0 : 0 < N.length) : ∃ b off, A = some ⟨b, off, none⟩ ∧ b < w.heap.size ∧ ∀ j, j < N.length → w.cell? ⟨b, off + j, none⟩ = some (.string (N.getD j ByteArray.empty)) := by
  obtain ⟨b, off, rfl, hb, _⟩ := h 0 h0
  refine ⟨b, off, rfl, hb, fun j hj => ?_⟩
  obtain ⟨b', off', e, _, hc⟩ := h j hj
  cases e
  exact hc
theorem Strs.keep {w w' : World} {A : Option Addr} {N : List ByteArray} (hc : Strs w A N) (h : Below w.heap.size w w') : Strs w' A N := fun j hj => by
  obtain ⟨b, off, e, hb, hcell⟩ := hc j hj
  exact ⟨b, off, e, Nat.lt_of_lt_of_le hb h.size, (h.cell (by exact hb)).trans hcell⟩
theorem getD_take {N : List ByteArray} {j k : Nat} (h : j < k) : (N.take k).getD j ByteArray.empty = N.getD j ByteArray.empty := by simp [List.getD, h]
theorem Strs.take {w : World} {A : Option Addr} {N : List ByteArray} (hc : Strs w A N) (k : Nat) : Strs w A (N.take k) := fun j hj => by
  rw [List.length_take] at hj
  obtain ⟨b, off, e, hb, hcell⟩ := hc j (by omega)
  exact ⟨b, off, e, hb, by rw [getD_take (by omega)]; exact hcell⟩
def IsTy (w : World) : Ty → Value → Prop
  | .nul, _ => False
  | .mk k n f N, v => ∃ A c A' c', v = .agg #[.int .i64 k, .slice A n c, .slice A' N.length c'] ∧ n ≤ c ∧ c ≤ 9223372036854775807 ∧ N.length ≤ c' ∧ c' ≤ 9223372036854775807 ∧ Strs w A' N ∧
      ∀ j, j < n → ∃ b off c0 c1 c2, A = some ⟨b, off, none⟩ ∧ b < w.heap.size ∧ w.cell? ⟨b, off + j * 3, none⟩ = some c0 ∧ w.cell? ⟨b, off + j * 3 + 1, none⟩ = some c1 ∧ w.cell? ⟨b, off + j * 3 + 2, none⟩ = some c2 ∧ IsTy w (f j) (.agg #[c0, c1, c2])
theorem IsTy.keep {w w' : World} (h : Below w.heap.size w w') : ∀ (T : Ty) (v : Value), IsTy w T v → IsTy w' T v := by
  intro T
  induction T with
  | nul => exact fun _ h => h
  | mk k n f N ih =>
    intro v hv
    obtain ⟨A, c, A', c', rfl, h1, h2, g1, g2, h3, h4⟩ := hv
    refine ⟨A, c, A', c', rfl, h1, h2, g1, g2, h3.keep h, fun j hj => ?_⟩
    obtain ⟨b, off, c0, c1, c2, e, hb, k0, k1, k2, k3⟩ := h4 j hj
    exact ⟨b, off, c0, c1, c2, e, Nat.lt_of_lt_of_le hb h.size, (h.cell (by exact hb)).trans k0, (h.cell (by exact hb)).trans k1, (h.cell (by exact hb)).trans k2, ih j _ k3⟩
def allB (n : Nat) (p : Nat → Bool) : Bool := (List.range n).all p
theorem allB_true {n : Nat} {p : Nat → Bool} : allB n p = true ↔ ∀ j, j < n → p j = true := by simp [allB]
theorem allB_of {n : Nat} {p : Nat → Bool} (h : ∀ j, j < n → p j = true) : allB n p = true := allB_true.2 h
theorem allB_no {n j : Nat} {p : Nat → Bool} (hj : j < n) (h : p j = false) : allB n p = false := by
  rw [Bool.eq_false_iff]
  intro e
  rw [allB_true.1 e j hj] at h
  cases h
def dupAt (N : List ByteArray) (k : Nat) : Bool := decide (0 ≤ fndAt (N.take k) (N.getD k ByteArray.empty) 0)
def distinct (N : List ByteArray) : Bool := allB N.length fun k => !dupAt N k
end Go.Typ

namespace Go.Typ
open Go Go.Ord Go.RowKit
inductive Dat where
  | nul
  | mk (kind : Int) (text : ByteArray) (n : Nat) (item : Nat → Dat) (names : List ByteArray) (i0 i1 : Bool)
def Dat.kind : Dat → Int
  | .nul => 0
  | .mk k _ _ _ _ _ _ => k
def IsDat (w : World) : Dat → Value → Prop
  | .nul, _ => False
  | .mk k s n f N i0 i1, v => ∃ A c A' c', v = .agg #[.int .i64 k, .string s, .slice A n c, .slice A' N.length c', .bool i0, .bool i1] ∧ s.size ≤ 1048576 ∧ n ≤ 1048576 ∧ N.length ≤ 1048576 ∧ n ≤ c ∧ c ≤ 9223372036854775807 ∧ N.length ≤ c' ∧ c' ≤ 9223372036854775807 ∧ (∀ x ∈ N, x.size ≤ 1048576) ∧ Strs w A' N ∧
      ∀ j, j < n → ∃ b off c0 c1 c2 c3 c4 c5, A = some ⟨b, off, none⟩ ∧ b < w.heap.size ∧ w.cell? ⟨b, off + j * 6, none⟩ = some c0 ∧ w.cell? ⟨b, off + j * 6 + 1, none⟩ = some c1 ∧ w.cell? ⟨b, off + j * 6 + 2, none⟩ = some c2 ∧ w.cell? ⟨b, off + j * 6 + 3, none⟩ = some c3 ∧ w.cell? ⟨b, off + j * 6 + 4, none⟩ = some c4 ∧ w.cell? ⟨b, off + j * 6 + 5, none⟩ = some c5 ∧ IsDat w (f j) (.agg #[c0, c1, c2, c3, c4, c5])
def DatRow (w : World) (A : Option Addr) (n : Nat) (f : Nat → Dat) : Prop :=
  ∀ j, j < n → ∃ b off c0 c1 c2 c3 c4 c5, A = some ⟨b, off, none⟩ ∧ b < w.heap.size ∧ w.cell? ⟨b, off + j * 6, none⟩ = some c0 ∧ w.cell? ⟨b, off + j * 6 + 1, none⟩ = some c1 ∧ w.cell? ⟨b, off + j * 6 + 2, none⟩ = some c2 ∧ w.cell? ⟨b, off + j * 6 + 3, none⟩ = some c3 ∧ w.cell? ⟨b, off + j * 6 + 4, none⟩ = some c4 ∧ w.cell? ⟨b, off + j * 6 + 5, none⟩ = some c5 ∧ IsDat w (f j) (.agg #[c0, c1, c2, c3, c4, c5])
theorem IsDat.keep {w w' : World} (h : Below w.heap.size w w') : ∀ (D : Dat) (v : Value), IsDat w D v → IsDat w' D v := by
  intro D
  induction D with
  | nul => exact fun _ h => h
  | mk k s n f N i0 i1 ih =>
    intro v hv
    obtain ⟨A, c, A', c', rfl, h1, h2, h3, g1, g2, g3, g4, h4, h5, h6⟩ := hv
    refine ⟨A, c, A', c', rfl, h1, h2, h3, g1, g2, g3, g4, h4, h5.keep h, fun j hj => ?_⟩
    obtain ⟨b, off, c0, c1, c2, c3, c4, c5, e, hb, k0, k1, k2, k3, k4, k5, k6⟩ := h6 j hj
    exact ⟨b, off, c0, c1, c2, c3, c4, c5, e, Nat.lt_of_lt_of_le hb h.size, (h.cell (by exact hb)).trans k0, (h.cell (by exact hb)).trans k1, (h.cell (by exact hb)).trans k2, (h.cell (by exact hb)).trans k3, (h.cell (by exact hb)).trans k4, (h.cell (by exact hb)).trans k5, ih j _ k6⟩
theorem DatRow.keep {w w' : World} {A : Option Addr} {n : Nat} {f : Nat → Dat} (hr : DatRow w A n f) (h : Below w.heap.size w w') : DatRow w' A n f := fun j hj => by
  obtain ⟨b, off, c0, c1, c2, c3, c4, c5, e, hb, k0, k1, k2, k3, k4, k5, k6⟩ := hr j hj
  exact ⟨b, off, c0, c1, c2, c3, c4, c5, e, Nat.lt_of_lt_of_le hb h.size, (h.cell (by exact hb)).trans k0, (h.cell (by exact hb)).trans k1, (h.cell (by exact hb)).trans k2, (h.cell (by exact hb)).trans k3, (h.cell (by exact hb)).trans k4, (h.cell (by exact hb)).trans k5, IsDat.keep h _ _ k6⟩
theorem add_plain (b off i : Nat) : Addr.add ⟨b, off, none⟩ i = ⟨b, off + i, none⟩ := by
  unfold Addr.add
  split
  · rename_i h
    rw [h]
    rfl
  · rfl
end Go.Typ
namespace Go.Proofs.YthmogphlnjpakaaGreatDoor
open Go Go.Ord Go.Typ Go.RowKit Go.ChangeShapes Go.WideShapes Go.ChangeAt
theorem bulk_mem {H : Type} {d : DataW H} {l : List (DataW H)} (h : d ∈ l) : Rows.uptoBulk d ≤ Rows.uptoBulkAll l := by
  induction l with
  | nil => cases h
  | cons x l ih =>
    simp only [Rows.uptoBulkAll]
    rcases List.mem_cons.1 h with rfl | h
    · omega
    · have := ih h
      omega
theorem bulk_pos {H : Type} (d : DataW H) : 1 ≤ Rows.uptoBulk d := by
  cases d with
  | lit l => cases l <;> simp [Rows.uptoBulk]
  | _ => simp [Rows.uptoBulk]
theorem bulk_len {H : Type} (l : List (DataW H)) : l.length ≤ Rows.uptoBulkAll l := by
  induction l with
  | nil => simp
  | cons x l ih =>
    simp only [Rows.uptoBulkAll, List.length_cons]
    have := bulk_pos x
    omega
section
variable {H : Type} {enc : TypeId × Value → H} {w : World} {base : Nat} {spare : Nat → Bool} {held : Bool}
set_option maxRecDepth 1000000 in
theorem open_strs_cell {fuel : Nat} {u : Value} {x : DataW H × List MemPlace} (h : DataW.trod enc Tryz.prog w base spare held fuel 23 [u] = some x) (hx : Rows.uptoBulk x.1 ≤ 1048576) :
    ∃ (A : Option Addr) (N : List ByteArray) (c : Nat), u = .slice A N.length c ∧ N.length ≤ 1048576 ∧ N.length ≤ c ∧ c ≤ 9223372036854775807 ∧ (∀ s ∈ N, s.size ≤ 1048576) ∧ Strs w A N := by
  rcases open_strings Tryz.underlying23 Tryz.underlying9 (by kernel_rfl) h with ⟨hcs, _⟩ | ⟨a, len, cap, ss, hcs, _, hl, hm, hz, rfl, hcell, _⟩
  · obtain rfl : u = .slice none 0 0 := by simpa using hcs
    exact ⟨none, [], 0, rfl, by simp, by simp, by omega, (fun s hs => by cases hs), fun j hj => absurd hj (by simp)⟩
  · obtain rfl : u = .slice (some a) len cap := by simpa using hcs
    have hlen : len ≤ ss.length := by rw [hz]; split <;> omega
    have ht : (ss.take len).length = len := by rw [List.length_take]; omega
    simp only [Rows.uptoBulk] at hx
    have hb : (strs (H := H) (ss.take len)).length ≤ Rows.uptoBulkAll (strs (H := H) (ss.take len)) := bulk_len _
    unfold maxLen at hm
    refine ⟨some a, ss.take len, cap, by rw [ht], ?_, by omega, by omega, fun s hs => ?_, fun j hj => ?_⟩
    · have e : (strs (H := H) (ss.take len)).length = (ss.take len).length := by simp [strs]
      rw [e] at hb
      omega
    · have hmem : (DataW.lit (.string s.data.toList) : DataW H) ∈ strs (ss.take len) := List.mem_map.2 ⟨s, hs, rfl⟩
      have := bulk_mem hmem
      simp only [Rows.uptoBulk, Array.length_toList] at this
      have e : s.data.size = s.size := rfl
      omega
    · rw [ht] at hj
      have hc := hcell j (by omega)
      obtain ⟨b, off, spot⟩ := a
      have hspot : spot = none := by simpa [Addr.add] using World.cell?_spot (hcell 0 (by omega))
      subst hspot
      rw [Typ.add_plain] at hc
      refine ⟨b, off, rfl, block_lt_of_cell hc, ?_⟩
      rw [hc]
      simp [List.getD, hj]
theorem cellsDat : Tryz.prog.cellsOf 35 = 6 := by kernel_rfl
theorem open_dats_of {fuel : Nat} (ih : ∀ m, m < fuel → ∀ (cs : List Value) (x : DataW H × List MemPlace), DataW.trod enc Tryz.prog w base spare held m 35 cs = some x → Rows.uptoBulk x.1 ≤ 1048576 → ∃ D, IsDat w D (.agg ⟨cs⟩))
    {u : Value} {x : DataW H × List MemPlace} (h : DataW.trod enc Tryz.prog w base spare held fuel 22 [u] = some x) (hx : Rows.uptoBulk x.1 ≤ 1048576) :
    ∃ (A : Option Addr) (n : Nat) (f : Nat → Dat) (c : Nat), u = .slice A n c ∧ n ≤ 1048576 ∧ n ≤ c ∧ c ≤ 9223372036854775807 ∧ DatRow w A n f := by
  rcases DataW.trod_slice Tryz.underlying22 h with ⟨hcs, _⟩ | ⟨a, len, cap, elems, rest, n, rfl, hcs, rfl, hb, hl, hm, hlen, hel, _, _⟩
  · obtain rfl : u = .slice none 0 0 := by simpa using hcs
    exact ⟨none, 0, (fun _ => .nul), 0, rfl, by omega, by omega, by omega, fun j hj => absurd hj (by omega)⟩
  · obtain rfl : u = .slice (some a) len cap := by simpa using hcs
    rw [cellsDat] at hel
    simp only [Rows.uptoBulk] at hx
    have hbl := bulk_len (elems.map (·.1))
    rw [List.length_map, hlen] at hbl
    have key : ∀ i, i < len → ∃ (cs : List Value) (D : Dat), w.cells? base (a.add (i * 6)) 6 = some cs ∧ IsDat w D (.agg ⟨cs⟩) := by
      intro i hi
      have h1 := hel i hi
      have hget : elems[i]? = some (elems[i]'(by omega)) := List.getElem?_eq_getElem (by omega)
      rw [hget, Option.bind_eq_some_iff] at h1
      obtain ⟨cs, hcs', ht⟩ := h1
      have hmem : (elems[i]'(by omega)).1 ∈ elems.map (·.1) := List.mem_map.2 ⟨_, List.getElem_mem _, rfl⟩
      have := bulk_mem hmem
      obtain ⟨D, hD⟩ := ih n (by omega) cs _ ht (by omega)
      exact ⟨cs, D, hcs', hD⟩
    obtain ⟨b, off, spot⟩ := a
    have hspot : 0 < len → spot = none := fun h0 => by
      obtain ⟨cs, D, hcs', _⟩ := key 0 h0
      obtain ⟨_, hcl, hat⟩ := World.cells?_some hcs'
      have h1 := hat 0 (by omega)
      rw [List.getElem?_eq_getElem (by omega)] at h1
      simpa [Addr.add] using World.cell?_spot h1
    refine ⟨some ⟨b, off, spot⟩, len, fun i => if hi : i < len then Classical.choose (Classical.choose_spec (key i hi)) else .nul, cap, rfl, by omega, by omega, by unfold maxLen at hm; omega, fun j hj => ?_⟩
    obtain rfl := hspot (by omega)
    have hs := Classical.choose_spec (Classical.choose_spec (key j hj))
    obtain ⟨_, hcl, hat⟩ := World.cells?_some hs.1
    have hD := hs.2
    dsimp only
    rw [dif_pos hj]
    generalize Classical.choose (Classical.choose_spec (key j hj)) = D at hD ⊢
    generalize Classical.choose (key j hj) = cs at hcl hat hD
    simp only [Typ.add_plain] at hat
    match cs, hcl with
    | [c0, c1, c2, c3, c4, c5], _ =>
      have k0 : w.cell? ⟨b, off + j * 6, none⟩ = some c0 := hat 0 (by omega)
      exact ⟨b, off, c0, c1, c2, c3, c4, c5, rfl, block_lt_of_cell k0, k0, hat 1 (by omega), hat 2 (by omega), hat 3 (by omega), hat 4 (by omega), hat 5 (by omega), hD⟩
theorem u_Dat : ∃ f0 f1 f2 f3 f4 : Field, Tryz.prog.underlying 35 = some (.struct #[f0, f1, f2, f3, f4]) ∧ (f0.type, f0.offset) = (33, 0) ∧ (f1.type, f1.offset) = (9, 1) ∧ (f2.type, f2.offset) = (22, 2) ∧ (f3.type, f3.offset) = (23, 3) ∧ (f4.type, f4.offset) = (24, 4) :=
  ⟨_, _, _, _, _, Tryz.underlying35, rfl, rfl, rfl, rfl, rfl⟩
theorem cells1 : Tryz.prog.cellsOf 33 = 1 ∧ Tryz.prog.cellsOf 9 = 1 ∧ Tryz.prog.cellsOf 22 = 1 ∧ Tryz.prog.cellsOf 23 = 1 ∧ Tryz.prog.cellsOf 24 = 2 ∧ Tryz.prog.cellsOf 4 = 1 := by
  refine ⟨?_, ?_, ?_, ?_, ?_, ?_⟩ <;> kernel_rfl
set_option maxRecDepth 1000000 in
theorem open_dat_cells : ∀ (fuel : Nat) (cs : List Value) (x : DataW H × List MemPlace), DataW.trod enc Tryz.prog w base spare held fuel 35 cs = some x → Rows.uptoBulk x.1 ≤ 1048576 → ∃ D, IsDat w D (.agg ⟨cs⟩) := by
  intro fuel
  induction fuel using Nat.strongRecOn with
  | _ fuel ih =>
    intro cs x h hx
    obtain ⟨f0, f1, f2, f3, f4, hu, e0, e1, e2, e3, e4⟩ := u_Dat
    obtain ⟨c0k, c1k, c2k, c3k, c4k, c5k⟩ := cells1
    obtain ⟨xs, n, rfl, rfl, hl, hxl, hg⟩ := DataW.trod_struct hu h
    rw [cellsDat] at hl
    simp only [Prod.mk.injEq] at e0 e1 e2 e3 e4
    match cs, hl, xs, hxl with
    | [v0, v1, v2, v3, v4, v5], _, [y0, y1, y2, y3, y4], _ =>
      have g0 := hg 0 f0 rfl
      have g1 := hg 1 f1 rfl
      have g2 := hg 2 f2 rfl
      have g3 := hg 3 f3 rfl
      have g4 := hg 4 f4 rfl
      rw [e0.1, e0.2, c0k] at g0
      rw [e1.1, e1.2, c1k] at g1
      rw [e2.1, e2.2, c2k] at g2
      rw [e3.1, e3.2, c3k] at g3
      rw [e4.1, e4.2, c4k] at g4
      simp only [List.drop_zero, List.drop_succ_cons, List.take_succ_cons, List.take_zero, List.getElem?_cons_zero, List.getElem?_cons_succ] at g0 g1 g2 g3 g4
      simp only [List.map_cons, List.map_nil, Rows.uptoBulk, Rows.uptoBulkAll] at hx
      obtain ⟨k, hk, _, _⟩ := DataW.trod_int Tryz.underlying33 g0
      obtain ⟨s, hs, hy1, _⟩ := DataW.trod_string Tryz.underlying9 g1
      obtain ⟨A, m, f, c, hv2, hm, hm1, hm2, hrow⟩ := open_dats_of (fun m hm => ih m (by omega)) g2 (by omega)
      obtain ⟨A', N, c', hv3, hN, hN1, hN2, hNs, hS⟩ := open_strs_cell g3 (by omega)
      obtain ⟨zs, q, rfl, _, _, hzl, hz⟩ := DataW.trod_array Tryz.underlying24 g4
      rw [c5k] at hz
      have hz0 := hz 0 (by omega)
      have hz1 := hz 1 (by omega)
      match zs, hzl with
      | [z0, z1], _ =>
        simp only [Nat.zero_mul, Nat.one_mul, List.drop_zero, List.drop_succ_cons, List.take_succ_cons, List.take_zero, List.getElem?_cons_zero, List.getElem?_cons_succ] at hz0 hz1
        obtain ⟨b0, hb0, _⟩ := DataW.trod_bool Tryz.underlying4 hz0
        obtain ⟨b1, hb1, _⟩ := DataW.trod_bool Tryz.underlying4 hz1
        simp only [List.cons.injEq, and_true] at hk hs hb0 hb1
        subst hk hs hv2 hv3 hb0 hb1
        rw [hy1] at hx
        simp only [Rows.uptoBulk, Array.length_toList] at hx
        have hsz : s.data.size = s.size := rfl
        exact ⟨.mk k s m f N b0 b1, A, c, A', c', rfl, by omega, hm, hN, hm1, hm2, hN1, hN2, hNs, hS, hrow⟩
set_option maxRecDepth 1000000 in
theorem open_dat {b0 : Nat} {r : Reach} {v : Value} {d : DataW H} {p : List MemPlace} (hv : Value.okWide Tryz.prog w r b0 35 v) (h : DataW.Trod enc Tryz.prog w base spare held 35 v d p) (hx : Rows.uptoBulk d ≤ 1048576) : ∃ D, IsDat w D v := by
  obtain ⟨f0, f1, f2, f3, f4, hu, _⟩ := u_Dat
  obtain ⟨cs, rfl, _⟩ := okWide_struct hu hv
  obtain ⟨fuel, hf⟩ := h
  obtain ⟨D, hD⟩ := open_dat_cells fuel _ _ hf hx
  exact ⟨D, hD⟩
end
end Go.Proofs.YthmogphlnjpakaaGreatDoor

namespace Go.Typ
open Go Go.Ord Go.RowKit
inductive Val where
  | nul
  | leaf (t : Nat) (x : Value)
  | list (n : Nat) (f : Nat → Val)
  | ctx (N : List ByteArray) (f : Nat → Val)
  | range (a b : Val) (i0 i1 : Bool)
  | func (t : Nat) (y : Value) (n : Int)
end Go.Typ
namespace Go.Proofs.YthmogphlnjpakaaGreatDoor
open Go Go.Ord Go.Typ Go.RowKit
inductive LeafOk : Int → Nat → Value → Prop where
  | bool (b : Bool) : LeafOk 2 181 (.bool b)
  | num (b : Bool) (hi lo e : Int) : LeafOk 3 176 (.agg #[.bool b, .int .u64 hi, .int .u64 lo, .int .i64 e])
  | text (s : ByteArray) : LeafOk 4 144 (.string s)
  | day (y m d : Int) : LeafOk 5 184 (.agg #[.int .i64 y, .int .i64 m, .int .i64 d])
  | time (s : Int) (z : Bool) (o : Int) : LeafOk 6 186 (.agg #[.int .i64 s, .bool z, .int .i64 o])
  | instant (y m d s : Int) (z : Bool) (o : Int) : LeafOk 7 188 (.agg #[.int .i64 y, .int .i64 m, .int .i64 d, .int .i64 s, .bool z, .int .i64 o])
  | days (n : Int) : LeafOk 8 190 (.int .i64 n)
  | months (n : Int) : LeafOk 9 192 (.int .i64 n)
def IsVal (w : World) : Val → Value → Prop
  | .nul, x => x = .nilIface
  | .leaf t y, x => x = .iface t y ∧ ∃ k, LeafOk k t y
  | .list n f, x => ∃ A c, x = .iface 95 (.slice A n c) ∧ n ≤ 1048576 ∧ n ≤ c ∧ c ≤ 9223372036854775807 ∧ ∀ j, j < n → ∃ b off y, A = some ⟨b, off, none⟩ ∧ b < w.heap.size ∧ w.cell? ⟨b, off + j, none⟩ = some y ∧ IsVal w (f j) y
  | .ctx N f, x => ∃ A c A' c', x = .iface 101 (.agg #[.slice A N.length c, .slice A' N.length c']) ∧ N.length ≤ 1048576 ∧ N.length ≤ c ∧ c ≤ 9223372036854775807 ∧ N.length ≤ c' ∧ c' ≤ 9223372036854775807 ∧ Strs w A N ∧ ∀ j, j < N.length → ∃ b off y, A' = some ⟨b, off, none⟩ ∧ b < w.heap.size ∧ w.cell? ⟨b, off + j, none⟩ = some y ∧ IsVal w (f j) y
  | .range a b i0 i1, x => ∃ y z, x = .iface 111 (.agg #[y, z, .bool i0, .bool i1]) ∧ IsVal w a y ∧ IsVal w b z
  | .func t y n, x => x = .iface 138 (.agg #[.iface t y, .int .i64 n])
def ValRow (w : World) (A : Option Addr) (n : Nat) (f : Nat → Val) : Prop := ∀ j, j < n → ∃ b off y, A = some ⟨b, off, none⟩ ∧ b < w.heap.size ∧ w.cell? ⟨b, off + j, none⟩ = some y ∧ IsVal w (f j) y
theorem IsVal.keep {w w' : World} (h : Below w.heap.size w w') : ∀ (V : Val) (x : Value), IsVal w V x → IsVal w' V x := by
  intro V
  induction V with
  | nul => exact fun _ h => h
  | leaf t y => exact fun _ h => h
  | func t y n => exact fun _ h => h
  | list n f ih =>
    intro x hx
    obtain ⟨A, c, rfl, hn, g1, g2, hr⟩ := hx
    refine ⟨A, c, rfl, hn, g1, g2, fun j hj => ?_⟩
    obtain ⟨b, off, y, e, hb, hc, hv⟩ := hr j hj
    exact ⟨b, off, y, e, Nat.lt_of_lt_of_le hb h.size, (h.cell (by exact hb)).trans hc, ih j y hv⟩
  | ctx N f ih =>
    intro x hx
    obtain ⟨A, c, A', c', rfl, hn, g1, g2, g3, g4, hS, hr⟩ := hx
    refine ⟨A, c, A', c', rfl, hn, g1, g2, g3, g4, hS.keep h, fun j hj => ?_⟩
    obtain ⟨b, off, y, e, hb, hc, hv⟩ := hr j hj
    exact ⟨b, off, y, e, Nat.lt_of_lt_of_le hb h.size, (h.cell (by exact hb)).trans hc, ih j y hv⟩
  | range a b i0 i1 iha ihb =>
    intro x hx
    obtain ⟨y, z, rfl, ha, hb⟩ := hx
    exact ⟨y, z, rfl, iha y ha, ihb z hb⟩
theorem ValRow.keep {w w' : World} {A : Option Addr} {n : Nat} {f : Nat → Val} (hr : ValRow w A n f) (h : Below w.heap.size w w') : ValRow w' A n f := fun j hj => by
  obtain ⟨b, off, y, e, hb, hc, hv⟩ := hr j hj
  exact ⟨b, off, y, e, Nat.lt_of_lt_of_le hb h.size, (h.cell (by exact hb)).trans hc, IsVal.keep h _ _ hv⟩
def kindV : Val → Int
  | .nul => 1
  | .leaf t _ => if t = 181 then 2 else if t = 176 then 3 else if t = 144 then 4 else if t = 184 then 5 else if t = 186 then 6 else if t = 188 then 7 else if t = 190 then 8 else 9
  | .list _ _ => 10
  | .ctx _ _ => 11
  | .range _ _ _ _ => 12
  | .func _ _ _ => 13
theorem kindV_leaf {k : Int} {t : Nat} {y : Value} (h : LeafOk k t y) : kindV (.leaf t y) = k := by
  cases h <;> rfl
end Go.Proofs.YthmogphlnjpakaaGreatDoor

namespace Go.Proofs.YthmogphlnjpakaaGreatDoor
open Go Go.Pe Go.RowKit Go.ChangeShapes Go.WideShapes Go.ChangeAt
theorem gSyn : Tryz.prog.globalNamed "strconv.ErrSyntax" = some 6 := by kernel_rfl
theorem gSynType : (Tryz.prog.globals[6]?).map (·.type) = some 203 := by kernel_rfl
theorem cellsErr : Tryz.prog.cellsOf 336 = 1 := by kernel_rfl
theorem cellsStr : Tryz.prog.cellsOf 9 = 1 := by kernel_rfl
theorem starErr : "*" ++ "errors.errorString" = "*errors.errorString" := by decide
theorem rowErr (u : TypeId) (h : Tryz.prog.typeName? 3 u = some "*errors.errorString") : u = 334 :=
  typeName_ptr_named (nm := "errors.errorString") (by rw [starErr]; kernel_rfl) (by kernel_rfl) (by decide) u (by rw [starErr]; exact h)
theorem err_at {W : World} {l : List (String × DataW Unit)} (h : laidMet Tryz.prog l W) (hl : (l.filter fun x => x.1 == "strconv.ErrSyntax") = [("strconv.ErrSyntax", Rows.laid_strconv_ErrSyntax)]) : ErrAt W := by
  have h1 := h.filter fun x => x.1 == "strconv.ErrSyntax"
  rw [hl] at h1
  obtain ⟨a, s, hv, _⟩ := laid_sentinel h1 gSyn gSynType Tryz.underlying203 rowErr Tryz.underlying334 Tryz.underlying336 rfl rfl Tryz.underlying9 cellsErr cellsStr
  unfold World.var? at hv
  rw [gSyn] at hv
  simp only [Option.bind_some] at hv
  split at hv
  · rename_i cs t fr hw
    cases hv
    exact ⟨a, _, t, fr, hw, rfl⟩
  · cases hv
def putVar (h : Array Obj) (g : Nat) (cs : Array Value) : Array Obj := h.modify g fun
  | .cells _ t frozen => .cells cs t frozen
  | o => o
def withTabE (h : Array Obj) (g : Nat) (d : DataW Unit) : Array Obj := putVar h g (flat d).toArray
noncomputable abbrev N0 : Nat := (World.settled Tryz.prog default).heap.size
def errBlks : Array Obj := #[.cells #[.string ⟨#[118, 97, 108, 117, 101, 32, 111, 117, 116, 32, 111, 102, 32, 114, 97, 110, 103, 101]⟩] 336 (0, 0), .cells #[.string ⟨#[105, 110, 118, 97, 108, 105, 100, 32, 115, 121, 110, 116, 97, 120]⟩] 336 (0, 0)]
noncomputable def putTabs (h : Array Obj) : Array Obj :=
  let h := withTabE h 0 Rows.laid_unicode_utf8_first
  let h := withTabE h 1 Rows.laid_unicode_utf8_acceptRanges
  let h := withTabE h 5 Rows.laid_internal_strconv_uint64pow10
  let h := withTabE h 8 Rows.laid_math_bits_deBruijn32tab
  let h := withTabE h 9 Rows.laid_math_bits_deBruijn64tab
  h
noncomputable def laidWorldE (os : Os) : World :=
  { World.holding Tryz.prog os ⟨errBlks, #[], []⟩ with
    heap := putVar (putVar (putTabs (World.holding Tryz.prog os ⟨errBlks, #[], []⟩).heap) 7 #[.iface 334 (.pointer (some ⟨(World.settled Tryz.prog os).heap.size, 0, none⟩))])
      6 #[.iface 334 (.pointer (some ⟨(World.settled Tryz.prog os).heap.size + 1, 0, none⟩))] }
noncomputable def laidAtE : List Nat :=
  0 ::
  1 ::
  6 :: 7 :: 5 ::
  8 ::
  9 ::
  [N0, N0 + 1]
end Go.Proofs.YthmogphlnjpakaaGreatDoor
