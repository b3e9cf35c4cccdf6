/-
  Lists, contexts, ranges, functions: what they are.
  Ranges, functions and contexts: what they are.
  Contexts: what they are.
  value.Ordered, value.List, value.Range.
  Values whose blocks are of some kind: kept where those blocks stand.
-/
import Derived.Test.YthmogphlnjpakaaGreatDoorYb1
import Derived.Deep.QuietTactic
import Derived.BigQuiet
import Derived.BigRegion
import Derived.RegionTactic
import Derived.Deep.RegionWith
import Derived.Deep.RegionHeld3
import Derived.Test.YthmogphlnjpakaaGreatDoorEl1

namespace Go.Proofs.YthmogphlnjpakaaGreatDoor
open Go Go.Ord Go.Typ Go.RowKit
theorem isVal_one {w : World} {V : Val} {x : Value} (h : IsVal w V x) : x.oneCell' = true := by
  cases V with
  | nul =>
    obtain rfl : x = .nilIface := h
    rfl
  | leaf t y =>
    obtain ⟨rfl, _⟩ := h
    rfl
  | list n f =>
    obtain ⟨A, c, rfl, _⟩ := h
    rfl
  | ctx N f =>
    obtain ⟨A, c, A', c', rfl, _⟩ := h
    rfl
  | range a b i0 i1 =>
    obtain ⟨y, z, rfl, _⟩ := h
    rfl
  | func t y n =>
    obtain rfl : x = _ := h
    rfl
theorem row_cells {w : World} {A : Option Addr} {n : Nat} {f : Nat → Val} (h : ValRow w A n f) : ∃ xs : List Value, xs.length = n ∧ RowOf w A xs ∧ (∀ j, j < n → IsVal w (f j) (xs.getD j undef)) ∧ ∀ u ∈ xs, u.oneCell' = true := by
  have key : ∀ j, ∃ y, j < n → (∃ b off, A = some ⟨b, off, none⟩ ∧ b < w.heap.size ∧ w.cell? ⟨b, off + j, none⟩ = some y) ∧ IsVal w (f j) y := fun j => by
    by_cases hj : j < n
    · obtain ⟨b, off, y, h1, h2, h3, h4⟩ := h j hj
      exact ⟨y, fun _ => ⟨⟨b, off, h1, h2, h3⟩, h4⟩⟩
    · exact ⟨undef, fun hh => absurd hh hj⟩
  have hget : ∀ j, j < n → ((List.range n).map fun j => Classical.choose (key j)).getD j undef = Classical.choose (key j) := fun j hj => by simp [List.getD, hj]
  refine ⟨(List.range n).map fun j => Classical.choose (key j), by simp, fun j hj => ?_, fun j hj => ?_, fun u hu => ?_⟩
  · have hj' : j < n := by simpa using hj
    rw [hget j hj']
    exact (Classical.choose_spec (key j) hj').1
  · rw [hget j hj]
    exact (Classical.choose_spec (key j) hj).2
  · obtain ⟨j, hj, rfl⟩ := List.mem_map.1 hu
    exact isVal_one (Classical.choose_spec (key j) (List.mem_range.1 hj)).2
theorem strs_cells {w : World} {A : Option Addr} {N : List ByteArray} (h : Strs w A N) : RowOf w A (N.map .string) := fun j hj => by
  rw [List.length_map] at hj
  obtain ⟨b, off, h1, h2, h3⟩ := h j hj
  exact ⟨b, off, h1, h2, by rw [h3]; simp [List.getD, List.getElem?_eq_getElem hj]⟩
theorem cells_strs {w : World} {A : Option Addr} {N : List ByteArray} (h : RowOf w A (N.map .string)) : Strs w A N := fun j hj => by
  obtain ⟨b, off, h1, h2, h3⟩ := h j (by rw [List.length_map]; exact hj)
  exact ⟨b, off, h1, h2, by rw [h3]; simp [List.getD, List.getElem?_eq_getElem hj]⟩
def AsListOut (w : World) (xs : List Value) (e : Ending) (w' : World) : Prop := ∃ A c, e = .returned (.tuple #[.slice A xs.length c, .bool true]) ∧ xs.length ≤ c ∧ c ≤ 9223372036854775807 ∧ RowOf w' A xs ∧ Below w.heap.size w w'
set_option maxRecDepth 100000 in
theorem asList_yes (w : World) (A : Option Addr) (c n : Nat) (xs : List Value) (hn : xs.length = n) (hb : n ≤ 1048576) (h1 : ∀ u ∈ xs, u.oneCell' = true) (hr : RowOf w A xs) :
    Calls Tryz.prog 13 #[.agg #[.iface 95 (.slice A n c)]] w (AsListOut w xs) := by
  have ht := taList_yes
  have HR := Lib.hid hr
  have H1 := Lib.hid h1
  have HN := Lib.hid hn
  clear hr h1 hn
  go_enter Tryz.func13, Tryz.ntmps13
  go_wp2_with (go_at_call 64; refine (clone_val _ A c n xs HN.out hb H1.out (RowOf.keep HR.out (box_one _ _))).mono ?_; rintro e w' ⟨A', c', rfl, g1, g2, hrow, hb1⟩)
  go_ret2
  exact ⟨A', c', rfl, g1, g2, hrow, (box_one _ _).trans (hb1.mono (by simp))⟩
set_option maxRecDepth 100000 in
theorem asList_nil (w : World) : Calls Tryz.prog 13 #[.agg #[.nilIface]] w (AskOut w false) := by
  have ht := taList_nil
  go_enter Tryz.func13, Tryz.ntmps13
  go_wp2_with (go_at_call 64; refine (clone_val _ none 0 0 [] rfl (by omega) (fun u hu => by cases hu) (fun j hj => absurd hj (by simp))).mono ?_; rintro e w' ⟨A', c', rfl, g1, g2, hrow, hb1⟩)
  go_ret2
  exact ⟨_, rfl, (box_one _ _).trans (hb1.mono (by simp))⟩
set_option maxRecDepth 100000 in
theorem asList_no (w : World) (t : TypeId) (y : Value) (h : t ≠ 95) : Calls Tryz.prog 13 #[.agg #[.iface t y]] w (AskOut w false) := by
  have ht := taList_no t y h
  go_enter Tryz.func13, Tryz.ntmps13
  go_wp2_with (go_at_call 64; refine (clone_val _ none 0 0 [] rfl (by omega) (fun u hu => by cases hu) (fun j hj => absurd hj (by simp))).mono ?_; rintro e w' ⟨A', c', rfl, g1, g2, hrow, hb1⟩)
  go_ret2
  exact ⟨_, rfl, (box_one _ _).trans (hb1.mono (by simp))⟩
end Go.Proofs.YthmogphlnjpakaaGreatDoor

namespace Go.Proofs.YthmogphlnjpakaaGreatDoor
open Go Go.Ord Go.Typ Go.RowKit
theorem ret3_of {fn : Func} {w : World} {R : Ending → World → Prop} {P : Program} {a : Act} {t u v : Tmp} (h : fn.results = #[.tmp t, .tmp u, .tmp v]) (hd : a.defers = []) (hR : R (.returned (.tuple #[a.tmps.getD t undef, a.tmps.getD u undef, a.tmps.getD v undef])) w) :
    bodyPost P fn R .ret a w := bodyPost_ret (by simp [results, h]) hd hR
theorem below_drewN {B : Nat} {a w : World} (h : Below B a w) (n : Nat) : Below B a (w.drewN n) := ⟨h.os, h.tape, h.output, h.size, h.block⟩
def FuncOut (w : World) (t : TypeId) (y : Value) (n : Int) (e : Ending) (w' : World) : Prop := e = .returned (.tuple #[.iface t y, .int .i64 n, .bool true]) ∧ Below w.heap.size w w'
set_option maxRecDepth 100000 in
theorem asFunc_yes (w : World) (t : TypeId) (y : Value) (n : Int) : Calls Tryz.prog 31 #[.agg #[.iface 138 (.agg #[.iface t y, .int .i64 n])]] w (FuncOut w t y n) := by
  have ht := taFunc_yes
  go_enter Tryz.func31, Tryz.ntmps31
  go_wp2
  go_quiet (fail)
  go_wp2
  refine ret3_of rfl rfl ?_
  refine ⟨rfl, ?_⟩
  repeat (first | exact Below.refl _ _ | refine Below.drew ?_ | refine below_drewN ?_ _ | refine Below.alloc ?_ (by simp <;> omega) _ | refine Below.setCell ?_ (by simp <;> omega) _)
set_option maxRecDepth 100000 in
theorem asRange_y00 (w : World) (i0 i1 : Bool) : Calls Tryz.prog 20 #[.agg #[.iface 111 (.agg #[.nilIface, .nilIface, .bool i0, .bool i1])]] w (OneOut w (.tuple #[.agg #[.nilIface, .nilIface], .agg #[.bool i0, .bool i1], .bool true])) := by
  have ht := taRange_yes
  go_enter Tryz.func20, Tryz.ntmps20
  go_wp2
  go_region
  all_goals (try go_wp2)
  all_goals exact bodyPost_ret (v := .tuple #[.agg #[.nilIface, .nilIface], .agg #[.bool i0, .bool i1], .bool true]) (by simp [results, Tryz.results20, go_sem]) rfl ⟨rfl, by repeat (first | exact Below.refl _ _ | refine Below.drew ?_ | refine below_drewN ?_ _ | refine Below.alloc ?_ (by simp <;> omega) _ | refine Below.setCell ?_ (by simp <;> omega) _)⟩
set_option maxRecDepth 100000 in
theorem asRange_y01 (w : World) (t' : TypeId) (z : Value) (i0 i1 : Bool) : Calls Tryz.prog 20 #[.agg #[.iface 111 (.agg #[.nilIface, .iface t' z, .bool i0, .bool i1])]] w (OneOut w (.tuple #[.agg #[.nilIface, .iface t' z], .agg #[.bool i0, .bool i1], .bool true])) := by
  have ht := taRange_yes
  go_enter Tryz.func20, Tryz.ntmps20
  go_wp2
  go_region
  all_goals (try go_wp2)
  all_goals exact bodyPost_ret (v := .tuple #[.agg #[.nilIface, .iface t' z], .agg #[.bool i0, .bool i1], .bool true]) (by simp [results, Tryz.results20, go_sem]) rfl ⟨rfl, by repeat (first | exact Below.refl _ _ | refine Below.drew ?_ | refine below_drewN ?_ _ | refine Below.alloc ?_ (by simp <;> omega) _ | refine Below.setCell ?_ (by simp <;> omega) _)⟩
set_option maxRecDepth 100000 in
theorem asRange_y10 (w : World) (t : TypeId) (y : Value) (i0 i1 : Bool) : Calls Tryz.prog 20 #[.agg #[.iface 111 (.agg #[.iface t y, .nilIface, .bool i0, .bool i1])]] w (OneOut w (.tuple #[.agg #[.iface t y, .nilIface], .agg #[.bool i0, .bool i1], .bool true])) := by
  have ht := taRange_yes
  go_enter Tryz.func20, Tryz.ntmps20
  go_wp2
  go_region
  all_goals (try go_wp2)
  all_goals exact bodyPost_ret (v := .tuple #[.agg #[.iface t y, .nilIface], .agg #[.bool i0, .bool i1], .bool true]) (by simp [results, Tryz.results20, go_sem]) rfl ⟨rfl, by repeat (first | exact Below.refl _ _ | refine Below.drew ?_ | refine below_drewN ?_ _ | refine Below.alloc ?_ (by simp <;> omega) _ | refine Below.setCell ?_ (by simp <;> omega) _)⟩
set_option maxRecDepth 100000 in
theorem asRange_y11 (w : World) (t : TypeId) (y : Value) (t' : TypeId) (z : Value) (i0 i1 : Bool) : Calls Tryz.prog 20 #[.agg #[.iface 111 (.agg #[.iface t y, .iface t' z, .bool i0, .bool i1])]] w (OneOut w (.tuple #[.agg #[.iface t y, .iface t' z], .agg #[.bool i0, .bool i1], .bool true])) := by
  have ht := taRange_yes
  go_enter Tryz.func20, Tryz.ntmps20
  go_wp2
  go_region
  all_goals (try go_wp2)
  all_goals exact bodyPost_ret (v := .tuple #[.agg #[.iface t y, .iface t' z], .agg #[.bool i0, .bool i1], .bool true]) (by simp [results, Tryz.results20, go_sem]) rfl ⟨rfl, by repeat (first | exact Below.refl _ _ | refine Below.drew ?_ | refine below_drewN ?_ _ | refine Below.alloc ?_ (by simp <;> omega) _ | refine Below.setCell ?_ (by simp <;> omega) _)⟩
set_option maxRecDepth 100000 in
theorem asRange_nil (w : World) : Calls Tryz.prog 20 #[.agg #[.nilIface]] w (OneOut w (.tuple #[.agg #[.nilIface, .nilIface], .agg #[.bool false, .bool false], .bool false])) := by
  have ht := taRange_nil
  go_enter Tryz.func20, Tryz.ntmps20
  go_wp2
  go_region
  all_goals (try go_wp2)
  all_goals exact bodyPost_ret (v := .tuple #[.agg #[.nilIface, .nilIface], .agg #[.bool false, .bool false], .bool false]) (by simp [results, Tryz.results20, go_sem]) rfl ⟨rfl, by repeat (first | exact Below.refl _ _ | refine Below.drew ?_ | refine below_drewN ?_ _ | refine Below.alloc ?_ (by simp <;> omega) _ | refine Below.setCell ?_ (by simp <;> omega) _)⟩
set_option maxRecDepth 100000 in
theorem asRange_no (w : World) (t : TypeId) (y : Value) (h : t ≠ 111) : Calls Tryz.prog 20 #[.agg #[.iface t y]] w (OneOut w (.tuple #[.agg #[.nilIface, .nilIface], .agg #[.bool false, .bool false], .bool false])) := by
  have ht := taRange_no t y h
  go_enter Tryz.func20, Tryz.ntmps20
  go_wp2
  go_region
  all_goals (try go_wp2)
  all_goals exact bodyPost_ret (v := .tuple #[.agg #[.nilIface, .nilIface], .agg #[.bool false, .bool false], .bool false]) (by simp [results, Tryz.results20, go_sem]) rfl ⟨rfl, by repeat (first | exact Below.refl _ _ | refine Below.drew ?_ | refine below_drewN ?_ _ | refine Below.alloc ?_ (by simp <;> omega) _ | refine Below.setCell ?_ (by simp <;> omega) _)⟩
set_option maxRecDepth 100000 in
theorem asFunc_nil (w : World) : Calls Tryz.prog 31 #[.agg #[.nilIface]] w (Ask3Out w false) := by
  have ht := taFunc_nil
  go_enter Tryz.func31, Tryz.ntmps31
  go_wp2
  go_quiet (fail)
  go_wp2
  refine ret3_of rfl rfl ?_
  refine ⟨_, _, rfl, ?_⟩
  repeat (first | exact Below.refl _ _ | refine Below.drew ?_ | refine below_drewN ?_ _ | refine Below.alloc ?_ (by simp <;> omega) _ | refine Below.setCell ?_ (by simp <;> omega) _)
set_option maxRecDepth 100000 in
theorem asFunc_no (w : World) (t : TypeId) (y : Value) (h : t ≠ 138) : Calls Tryz.prog 31 #[.agg #[.iface t y]] w (Ask3Out w false) := by
  have ht := taFunc_no t y h
  go_enter Tryz.func31, Tryz.ntmps31
  go_wp2
  go_quiet (fail)
  go_wp2
  refine ret3_of rfl rfl ?_
  refine ⟨_, _, rfl, ?_⟩
  repeat (first | exact Below.refl _ _ | refine Below.drew ?_ | refine below_drewN ?_ _ | refine Below.alloc ?_ (by simp <;> omega) _ | refine Below.setCell ?_ (by simp <;> omega) _)
end Go.Proofs.YthmogphlnjpakaaGreatDoor

namespace Go.Proofs.YthmogphlnjpakaaGreatDoor
open Go Go.Ord Go.Typ Go.RowKit
structure CtxFacts (w : World) (A A' : Option Addr) (N : List ByteArray) (xs : List Value) (w' : World) : Prop where
  row1 : RowOf w' A (N.map .string)
  row2 : RowOf w' A' xs
  below : Below w.heap.size w w'
  size : w.heap.size + 2 ≤ w'.heap.size
theorem CtxFacts.drew {w : World} {A A' : Option Addr} {N : List ByteArray} {xs : List Value} {w' : World} (h : CtxFacts w A A' N xs w') : CtxFacts w A A' N xs w'.drew := ⟨fun j hj => h.1 j hj, fun j hj => h.2 j hj, h.3.drew, h.4⟩
theorem CtxFacts.on {w : World} {A A' : Option Addr} {N : List ByteArray} {xs : List Value} {w' w1 : World} (h : CtxFacts w A A' N xs w') (hb : Below w'.heap.size w' w1) : CtxFacts w A A' N xs w1 :=
  ⟨h.1.keep hb, h.2.keep hb, h.3.trans (hb.mono h.3.size), Nat.le_trans h.4 hb.size⟩
theorem CtxFacts.cell {w : World} {A A' : Option Addr} {N : List ByteArray} {xs : List Value} {w' w1 : World} (h : CtxFacts w A A' N xs w') (hb : Below w'.heap.size w' w1) {i : Nat} {v : Value} (hc : w'.cell? ⟨w.heap.size + 1, i, none⟩ = some v) : w1.cell? ⟨w.heap.size + 1, i, none⟩ = some v :=
  (hb.cell (by have := h.size; show w.heap.size + 1 < _; omega)).trans hc
def CtxOut (w : World) (N : List ByteArray) (xs : List Value) (e : Ending) (w' : World) : Prop :=
  ∃ A c A' c', e = .returned (.tuple #[.slice A N.length c, .slice A' xs.length c', .bool true]) ∧ Strs w' A N ∧ RowOf w' A' xs ∧ Below w.heap.size w w'
theorem oneStr {N : List ByteArray} : ∀ u ∈ N.map Value.string, u.oneCell' = true := fun u hu => by
  obtain ⟨x, _, rfl⟩ := List.mem_map.1 hu
  rfl
set_option maxRecDepth 100000 in
set_option maxHeartbeats 1600000 in
theorem asContext_yes (w : World) (A A' : Option Addr) (c c' n : Nat) (N : List ByteArray) (xs : List Value) (hN : N.length = n) (hx : xs.length = n) (hb : n ≤ 1048576) (h1 : ∀ u ∈ xs, u.oneCell' = true) (hr : RowOf w A (N.map .string)) (hr' : RowOf w A' xs) :
    Calls Tryz.prog 83 #[.agg #[.iface 101 (.agg #[.slice A n c, .slice A' n c'])]] w (CtxOut w N xs) := by
  have ht := taContext_yes
  have HR := Lib.hid hr
  have HR' := Lib.hid hr'
  have H1 := Lib.hid h1
  have HN := Lib.hid hN
  have HX := Lib.hid hx
  clear hr hr' h1 hN hx
  go_enter Tryz.func83, Tryz.ntmps83
  go_wp2_with fail
  have F0 : CtxFacts w A A' N xs ((w.alloc (.cells #[.iface 101 (.agg #[.slice A n c, .slice A' n c'])] 30)).alloc (.cells #[.slice A n c, .slice A' n c'] 101)) :=
    ⟨HR.out.keep (box_two _ _ _), HR'.out.keep (box_two _ _ _), box_two _ _ _, by simp⟩
  go_region_held3 (fun w' => w'.cell? ⟨w.heap.size + 1, 0, none⟩ = some (.slice A n c) ∧ w'.cell? ⟨w.heap.size + 1, 1, none⟩ = some (.slice A' n c') ∧ CtxFacts w A A' N xs w')
    ((go_split_ands; refine ⟨?_, ?_, ?_⟩ <;> first | assumption | exact CtxFacts.drew (by assumption) | exact CtxFacts.on (by assumption) (by assumption) | exact CtxFacts.cell (A := A) (A' := A') (N := N) (xs := xs) (by assumption) (by assumption) (by assumption) | go_keep))
    (first
      | (go_at_call 66; go_split_ands; refine (clone_str _ A c n (N.map .string) (by rw [List.length_map]; exact HN.out) hb oneStr (CtxFacts.row1 (w := w) (A' := A') (xs := xs) (by assumption))).mono ?_; rintro e w1 ⟨A1, c1, rfl, g1, g2, hrow1, hb1⟩)
      | (go_at_call 64; go_split_ands; refine (clone_val _ A' c' n xs HX.out hb H1.out (CtxFacts.row2 (w := w) (A := A) (N := N) (by assumption))).mono ?_; rintro e w1 ⟨A2, c2, rfl, g1, g2, hrow2, hb2⟩))
  all_goals (try go_wp2)
  all_goals
    go_split_ands
    refine ret3_of rfl rfl ?_
    exact ⟨A1, c1, A2, c2, rfl, cells_strs (by first | exact hrow1 | exact hrow1.keep hb2), (by first | exact hrow2 | exact hrow2.keep hb1), CtxFacts.below (A := A) (A' := A') (N := N) (xs := xs) (by assumption)⟩
set_option maxRecDepth 100000 in
theorem asContext_nil (w : World) : Calls Tryz.prog 83 #[.agg #[.nilIface]] w (Ask3Out w false) := by
  have ht := taContext_nil
  go_enter Tryz.func83, Tryz.ntmps83
  go_wp2_with fail
  go_quiet (first | (go_at_call 66; exact Calls.quiet_of_same (clone_str_nil _)) | (go_at_call 64; exact Calls.quiet_of_same (clone_val_nil _)))
  go_wp2
  refine ret3_of rfl rfl ?_
  exact ⟨_, _, rfl, below_drewN (box_two _ _ _) _⟩
set_option maxRecDepth 100000 in
theorem asContext_no (w : World) (t : TypeId) (y : Value) (h : t ≠ 101) : Calls Tryz.prog 83 #[.agg #[.iface t y]] w (Ask3Out w false) := by
  have ht := taContext_no t y h
  go_enter Tryz.func83, Tryz.ntmps83
  go_wp2_with fail
  go_quiet (first | (go_at_call 66; exact Calls.quiet_of_same (clone_str_nil _)) | (go_at_call 64; exact Calls.quiet_of_same (clone_val_nil _)))
  go_wp2
  refine ret3_of rfl rfl ?_
  exact ⟨_, _, rfl, below_drewN (box_two _ _ _) _⟩
end Go.Proofs.YthmogphlnjpakaaGreatDoor

namespace Go.Proofs.YthmogphlnjpakaaGreatDoor
open Go Go.Ord Go.Typ Go.RowKit
def orderedK (k : Int) : Bool := decide (3 ≤ k) && decide (k ≤ 9)
theorem ret_b {a b : Bool} (h : a = b) : Ending.returned (.bool a) = .returned (.bool b) := by rw [h]
theorem ordered_any (k : Int) (w : World) : Calls Tryz.prog 21 #[.int .i64 k] w fun e w' => e = .returned (.bool (orderedK k)) ∧ w = w' := by
  go_enter Tryz.func21, Tryz.ntmps21
  go_wp2
  all_goals
    go_ret
    refine ⟨ret_b ?_, rfl⟩
    rw [Bool.eq_iff_iff]
    simp [orderedK]
    omega
end Go.Proofs.YthmogphlnjpakaaGreatDoor

namespace Go.Proofs.YthmogphlnjpakaaGreatDoor
open Go Go.Ord Go.Typ Go.RowKit
def IsValP (ok : Nat → Prop) (w : World) : Val → Value → Prop
  | .nul, x => x = .nilIface
  | .leaf t y, x => x = .iface t y ∧ ∃ k, LeafOk k t y
  | .list n f, x => ∃ A c, x = .iface 95 (.slice A n c) ∧ n ≤ 1048576 ∧ n ≤ c ∧ c ≤ 9223372036854775807 ∧ ∀ j, j < n → ∃ b off y, A = some ⟨b, off, none⟩ ∧ (ok b ∧ b < w.heap.size) ∧ w.cell? ⟨b, off + j, none⟩ = some y ∧ IsValP ok w (f j) y
  | .ctx N f, x => ∃ A c A' c', x = .iface 101 (.agg #[.slice A N.length c, .slice A' N.length c']) ∧ N.length ≤ 1048576 ∧ N.length ≤ c ∧ c ≤ 9223372036854775807 ∧ N.length ≤ c' ∧ c' ≤ 9223372036854775807 ∧ (Strs w A N ∧ ∀ b off s, A = some ⟨b, off, s⟩ → 0 < N.length → ok b) ∧
      ∀ j, j < N.length → ∃ b off y, A' = some ⟨b, off, none⟩ ∧ (ok b ∧ b < w.heap.size) ∧ w.cell? ⟨b, off + j, none⟩ = some y ∧ IsValP ok w (f j) y
  | .range a b i0 i1, x => ∃ y z, x = .iface 111 (.agg #[y, z, .bool i0, .bool i1]) ∧ IsValP ok w a y ∧ IsValP ok w b z
  | .func t y n, x => x = .iface 138 (.agg #[.iface t y, .int .i64 n])
theorem IsValP.val {ok : Nat → Prop} {w : World} : ∀ (V : Val) (x : Value), IsValP ok w V x → IsVal w V x := by
  intro V
  induction V with
  | nul => exact fun _ h => h
  | leaf t y => exact fun _ h => h
  | func t y n => exact fun _ h => h
  | list n f ih =>
    intro x hx
    obtain ⟨A, c, rfl, hn, g1, g2, hr⟩ := hx
    refine ⟨A, c, rfl, hn, g1, g2, fun j hj => ?_⟩
    obtain ⟨b, off, y, e, hb, hc, hv⟩ := hr j hj
    exact ⟨b, off, y, e, hb.2, hc, ih j y hv⟩
  | ctx N f ih =>
    intro x hx
    obtain ⟨A, c, A', c', rfl, hn, g1, g2, g3, g4, hS, hr⟩ := hx
    refine ⟨A, c, A', c', rfl, hn, g1, g2, g3, g4, hS.1, fun j hj => ?_⟩
    obtain ⟨b, off, y, e, hb, hc, hv⟩ := hr j hj
    exact ⟨b, off, y, e, hb.2, hc, ih j y hv⟩
  | range a b i0 i1 iha ihb =>
    intro x hx
    obtain ⟨y, z, rfl, ha, hb⟩ := hx
    exact ⟨y, z, rfl, iha y ha, ihb z hb⟩
theorem IsValP.keep {ok ok' : Nat → Prop} {w w' : World} (hsz : w.heap.size ≤ w'.heap.size) (hk : ∀ b, ok b → b < w.heap.size → w'.heap[b]? = w.heap[b]?) (ho : ∀ b, ok b → b < w.heap.size → ok' b) : ∀ (V : Val) (x : Value), IsValP ok w V x → IsValP ok' w' V x := by
  intro V
  induction V with
  | nul => exact fun _ h => h
  | leaf t y => exact fun _ h => h
  | func t y n => exact fun _ h => h
  | list n f ih =>
    intro x hx
    obtain ⟨A, c, rfl, hn, g1, g2, hr⟩ := hx
    refine ⟨A, c, rfl, hn, g1, g2, fun j hj => ?_⟩
    obtain ⟨b, off, y, e, hb, hc, hv⟩ := hr j hj
    exact ⟨b, off, y, e, ⟨ho b hb.1 hb.2, Nat.lt_of_lt_of_le hb.2 hsz⟩, (World.cell?_of_block (a := ⟨b, off + j, none⟩) (hk b hb.1 hb.2)).trans hc, ih j y hv⟩
  | ctx N f ih =>
    intro x hx
    obtain ⟨A, c, A', c', rfl, hn, g1, g2, g3, g4, hS, hr⟩ := hx
    refine ⟨A, c, A', c', rfl, hn, g1, g2, g3, g4, ⟨fun j hj => ?_, fun b off s e h0 => ?_⟩, fun j hj => ?_⟩
    · obtain ⟨b, off, e, hb, hc⟩ := hS.1 j hj
      exact ⟨b, off, e, Nat.lt_of_lt_of_le hb hsz, (World.cell?_of_block (a := ⟨b, off + j, none⟩) (hk b (hS.2 b off none e (by omega)) hb)).trans hc⟩
    · obtain ⟨b', off', e', hb, _⟩ := hS.1 0 h0
      have : b' = b := by
        rw [e] at e'
        cases e'
        rfl
      subst this
      exact ho b' (hS.2 b' off s e h0) hb
    · obtain ⟨b, off, y, e, hb, hc, hv⟩ := hr j hj
      exact ⟨b, off, y, e, ⟨ho b hb.1 hb.2, Nat.lt_of_lt_of_le hb.2 hsz⟩, (World.cell?_of_block (a := ⟨b, off + j, none⟩) (hk b hb.1 hb.2)).trans hc, ih j y hv⟩
  | range a b i0 i1 iha ihb =>
    intro x hx
    obtain ⟨y, z, rfl, ha, hb⟩ := hx
    exact ⟨y, z, rfl, iha y ha, ihb z hb⟩
theorem IsValP.below {ok ok' : Nat → Prop} {w w' : World} (h : Below w.heap.size w w') (ho : ∀ b, ok b → b < w.heap.size → ok' b) (V : Val) (x : Value) (hv : IsValP ok w V x) : IsValP ok' w' V x :=
  IsValP.keep h.size (fun b _ hb => h.block b hb) ho V x hv
end Go.Proofs.YthmogphlnjpakaaGreatDoor
