/-
  Values: their kind, whether they are null, what they are.
  slices.Index at names: where a name stands first.
  slices.Clone at values and at names: a row of the call's own with the same cells.
  What a value is: AsBool and so on.
-/
import Derived.Test.YthmogphlnjpakaaGreatDoorEl1
import Derived.Test.YthmogphlnjpakaaGreatDoorProg
import Derived.WalkKit
import Derived.Lib.Hide
import Derived.Outline
import Derived.Deep.RegionWith
import Derived.ProofKit
import Derived.Laws.AppendOwn
import Derived.Deep.AppendLies
import Derived.Lib.SliceRun

namespace Go.Proofs.YthmogphlnjpakaaGreatDoor
open Go Go.Ord Go.Typ Go.RowKit
def isNul : Val → Bool
  | .nul => true
  | _ => false
def OneOut (w : World) (v : Value) (e : Ending) (w' : World) : Prop := e = .returned v ∧ Below w.heap.size w w'
theorem box_one (w : World) (o : Obj) : Below w.heap.size w (w.alloc o) := (Below.refl _ _).alloc (Nat.le_refl _) o
theorem box_two (w : World) (o o' : Obj) : Below w.heap.size w ((w.alloc o).alloc o') := ((Below.refl _ _).alloc (Nat.le_refl _) o).alloc (by simp) o'
theorem box_three (w : World) (o o' o'' : Obj) : Below w.heap.size w (((w.alloc o).alloc o').alloc o'') := (((Below.refl _ _).alloc (Nat.le_refl _) o).alloc (by simp) o').alloc (by simp; omega) o''
theorem null_nil (w : World) : Calls Tryz.prog 16 #[.agg #[.nilIface]] w (OneOut w (.bool true)) := by
  go_enter Tryz.func16, Tryz.ntmps16
  go_wp2
  go_ret
  exact ⟨rfl, box_one _ _⟩
theorem null_iface (w : World) (t : TypeId) (y : Value) : Calls Tryz.prog 16 #[.agg #[.iface t y]] w (OneOut w (.bool false)) := by
  go_enter Tryz.func16, Tryz.ntmps16
  go_wp2
  go_ret
  exact ⟨rfl, box_one _ _⟩
theorem kind_nil (w : World) : Calls Tryz.prog 18 #[.agg #[.nilIface]] w (OneOut w (.int .i64 1)) := by
  go_enter Tryz.func18, Tryz.ntmps18
  go_wp2
  go_ret
  exact ⟨rfl, box_one _ _⟩
theorem meth_bool (b : Bool) (w : World) : Sem.run Tryz.prog (method 452 181 (.bool b) "casuist/value.kind") w = .ok (328, (.bool b)) w := by kernel_rfl
set_option maxRecDepth 100000 in
theorem kind_bool (w : World) (b : Bool) : Calls Tryz.prog 18 #[.agg #[.iface 181 (.bool b)]] w (OneOut w (.int .i64 2)) := by
  have hm := meth_bool b
  go_enter Tryz.func18, Tryz.ntmps18
  go_wp2
  go_ret
  first | exact ⟨rfl, box_one _ _⟩ | exact ⟨rfl, box_two _ _ _⟩
theorem meth_num (b : Bool) (hi lo e : Int) (w : World) : Sem.run Tryz.prog (method 452 176 (.agg #[.bool b, .int .u64 hi, .int .u64 lo, .int .i64 e]) "casuist/value.kind") w = .ok (327, (.agg #[.bool b, .int .u64 hi, .int .u64 lo, .int .i64 e])) w := by kernel_rfl
set_option maxRecDepth 100000 in
theorem kind_num (w : World) (b : Bool) (hi lo e : Int) : Calls Tryz.prog 18 #[.agg #[.iface 176 (.agg #[.bool b, .int .u64 hi, .int .u64 lo, .int .i64 e])]] w (OneOut w (.int .i64 3)) := by
  have hm := meth_num b hi lo e
  go_enter Tryz.func18, Tryz.ntmps18
  go_wp2
  go_ret
  first | exact ⟨rfl, box_one _ _⟩ | exact ⟨rfl, box_two _ _ _⟩
theorem meth_text (s : ByteArray) (w : World) : Sem.run Tryz.prog (method 452 144 (.string s) "casuist/value.kind") w = .ok (326, (.string s)) w := by kernel_rfl
set_option maxRecDepth 100000 in
theorem kind_text (w : World) (s : ByteArray) : Calls Tryz.prog 18 #[.agg #[.iface 144 (.string s)]] w (OneOut w (.int .i64 4)) := by
  have hm := meth_text s
  go_enter Tryz.func18, Tryz.ntmps18
  go_wp2
  go_ret
  first | exact ⟨rfl, box_one _ _⟩ | exact ⟨rfl, box_two _ _ _⟩
theorem meth_day (y m d : Int) (w : World) : Sem.run Tryz.prog (method 452 184 (.agg #[.int .i64 y, .int .i64 m, .int .i64 d]) "casuist/value.kind") w = .ok (329, (.agg #[.int .i64 y, .int .i64 m, .int .i64 d])) w := by kernel_rfl
set_option maxRecDepth 100000 in
theorem kind_day (w : World) (y m d : Int) : Calls Tryz.prog 18 #[.agg #[.iface 184 (.agg #[.int .i64 y, .int .i64 m, .int .i64 d])]] w (OneOut w (.int .i64 5)) := by
  have hm := meth_day y m d
  go_enter Tryz.func18, Tryz.ntmps18
  go_wp2
  go_ret
  first | exact ⟨rfl, box_one _ _⟩ | exact ⟨rfl, box_two _ _ _⟩
theorem meth_time (s : Int) (z : Bool) (o : Int) (w : World) : Sem.run Tryz.prog (method 452 186 (.agg #[.int .i64 s, .bool z, .int .i64 o]) "casuist/value.kind") w = .ok (330, (.agg #[.int .i64 s, .bool z, .int .i64 o])) w := by kernel_rfl
set_option maxRecDepth 100000 in
theorem kind_time (w : World) (s : Int) (z : Bool) (o : Int) : Calls Tryz.prog 18 #[.agg #[.iface 186 (.agg #[.int .i64 s, .bool z, .int .i64 o])]] w (OneOut w (.int .i64 6)) := by
  have hm := meth_time s z o
  go_enter Tryz.func18, Tryz.ntmps18
  go_wp2
  go_ret
  first | exact ⟨rfl, box_one _ _⟩ | exact ⟨rfl, box_two _ _ _⟩
theorem meth_instant (y m d s : Int) (z : Bool) (o : Int) (w : World) : Sem.run Tryz.prog (method 452 188 (.agg #[.int .i64 y, .int .i64 m, .int .i64 d, .int .i64 s, .bool z, .int .i64 o]) "casuist/value.kind") w = .ok (331, (.agg #[.int .i64 y, .int .i64 m, .int .i64 d, .int .i64 s, .bool z, .int .i64 o])) w := by kernel_rfl
set_option maxRecDepth 100000 in
theorem kind_instant (w : World) (y m d s : Int) (z : Bool) (o : Int) : Calls Tryz.prog 18 #[.agg #[.iface 188 (.agg #[.int .i64 y, .int .i64 m, .int .i64 d, .int .i64 s, .bool z, .int .i64 o])]] w (OneOut w (.int .i64 7)) := by
  have hm := meth_instant y m d s z o
  go_enter Tryz.func18, Tryz.ntmps18
  go_wp2
  go_ret
  first | exact ⟨rfl, box_one _ _⟩ | exact ⟨rfl, box_two _ _ _⟩
theorem meth_days (n : Int) (w : World) : Sem.run Tryz.prog (method 452 190 (.int .i64 n) "casuist/value.kind") w = .ok (332, (.int .i64 n)) w := by kernel_rfl
set_option maxRecDepth 100000 in
theorem kind_days (w : World) (n : Int) : Calls Tryz.prog 18 #[.agg #[.iface 190 (.int .i64 n)]] w (OneOut w (.int .i64 8)) := by
  have hm := meth_days n
  go_enter Tryz.func18, Tryz.ntmps18
  go_wp2
  go_ret
  first | exact ⟨rfl, box_one _ _⟩ | exact ⟨rfl, box_two _ _ _⟩
theorem meth_months (n : Int) (w : World) : Sem.run Tryz.prog (method 452 192 (.int .i64 n) "casuist/value.kind") w = .ok (333, (.int .i64 n)) w := by kernel_rfl
set_option maxRecDepth 100000 in
theorem kind_months (w : World) (n : Int) : Calls Tryz.prog 18 #[.agg #[.iface 192 (.int .i64 n)]] w (OneOut w (.int .i64 9)) := by
  have hm := meth_months n
  go_enter Tryz.func18, Tryz.ntmps18
  go_wp2
  go_ret
  first | exact ⟨rfl, box_one _ _⟩ | exact ⟨rfl, box_two _ _ _⟩
theorem meth_list (A : Option Addr) (n c : Nat) (w : World) : Sem.run Tryz.prog (method 452 95 (.slice A n c) "casuist/value.kind") w = .ok (322, (.slice A n c)) w := by kernel_rfl
set_option maxRecDepth 100000 in
theorem kind_list (w : World) (A : Option Addr) (n c : Nat) : Calls Tryz.prog 18 #[.agg #[.iface 95 (.slice A n c)]] w (OneOut w (.int .i64 10)) := by
  have hm := meth_list A n c
  go_enter Tryz.func18, Tryz.ntmps18
  go_wp2
  go_ret
  first | exact ⟨rfl, box_one _ _⟩ | exact ⟨rfl, box_two _ _ _⟩
theorem meth_ctx (A A' : Option Addr) (n c n' c' : Nat) (w : World) : Sem.run Tryz.prog (method 452 101 (.agg #[.slice A n c, .slice A' n' c']) "casuist/value.kind") w = .ok (323, (.agg #[.slice A n c, .slice A' n' c'])) w := by kernel_rfl
set_option maxRecDepth 100000 in
theorem kind_ctx (w : World) (A A' : Option Addr) (n c n' c' : Nat) : Calls Tryz.prog 18 #[.agg #[.iface 101 (.agg #[.slice A n c, .slice A' n' c'])]] w (OneOut w (.int .i64 11)) := by
  have hm := meth_ctx A A' n c n' c'
  go_enter Tryz.func18, Tryz.ntmps18
  go_wp2
  go_ret
  first | exact ⟨rfl, box_one _ _⟩ | exact ⟨rfl, box_two _ _ _⟩
theorem meth_range (y z : Value) (i0 i1 : Bool) (w : World) : Sem.run Tryz.prog (method 452 111 (.agg #[y, z, .bool i0, .bool i1]) "casuist/value.kind") w = .ok (324, (.agg #[y, z, .bool i0, .bool i1])) w := by kernel_rfl
set_option maxRecDepth 100000 in
theorem kind_range (w : World) (y z : Value) (i0 i1 : Bool) : Calls Tryz.prog 18 #[.agg #[.iface 111 (.agg #[y, z, .bool i0, .bool i1])]] w (OneOut w (.int .i64 12)) := by
  have hm := meth_range y z i0 i1
  go_enter Tryz.func18, Tryz.ntmps18
  go_wp2
  go_ret
  first | exact ⟨rfl, box_one _ _⟩ | exact ⟨rfl, box_two _ _ _⟩
theorem meth_func (y : Value) (n : Int) (w : World) : Sem.run Tryz.prog (method 452 138 (.agg #[y, .int .i64 n]) "casuist/value.kind") w = .ok (325, (.agg #[y, .int .i64 n])) w := by kernel_rfl
set_option maxRecDepth 100000 in
theorem kind_func (w : World) (y : Value) (n : Int) : Calls Tryz.prog 18 #[.agg #[.iface 138 (.agg #[y, .int .i64 n])]] w (OneOut w (.int .i64 13)) := by
  have hm := meth_func y n
  go_enter Tryz.func18, Tryz.ntmps18
  go_wp2
  go_ret
  first | exact ⟨rfl, box_one _ _⟩ | exact ⟨rfl, box_two _ _ _⟩
theorem kind_any {w0 : World} (V : Val) (x : Value) (h : IsVal w0 V x) (w : World) : Calls Tryz.prog 18 #[.agg #[x]] w (OneOut w (.int .i64 (kindV V))) := by
  cases V with
  | nul =>
    obtain rfl : x = .nilIface := h
    exact kind_nil w
  | leaf t y =>
    obtain ⟨rfl, k, hk⟩ := h
    rw [kindV_leaf hk]
    cases hk with
    | bool b => exact kind_bool w b
    | num b hi lo e => exact kind_num w b hi lo e
    | text s => exact kind_text w s
    | day y m d => exact kind_day w y m d
    | time s z o => exact kind_time w s z o
    | instant y m d s z o => exact kind_instant w y m d s z o
    | days n => exact kind_days w n
    | months n => exact kind_months w n
  | list n f =>
    obtain ⟨A, c, rfl, _⟩ := h
    exact kind_list w A n c
  | ctx N f =>
    obtain ⟨A, c, A', c', rfl, _⟩ := h
    exact kind_ctx w A A' N.length c N.length c'
  | range a b i0 i1 =>
    obtain ⟨y, z, rfl, _⟩ := h
    exact kind_range w y z i0 i1
  | func t y n =>
    obtain rfl : x = _ := h
    exact kind_func w _ n
theorem null_any {w0 : World} (V : Val) (x : Value) (h : IsVal w0 V x) (w : World) : Calls Tryz.prog 16 #[.agg #[x]] w (OneOut w (.bool (isNul V))) := by
  cases V with
  | nul =>
    obtain rfl : x = .nilIface := h
    exact null_nil w
  | leaf t y =>
    obtain ⟨rfl, _⟩ := h
    exact null_iface w _ _
  | list n f =>
    obtain ⟨A, c, rfl, _⟩ := h
    exact null_iface w _ _
  | ctx N f =>
    obtain ⟨A, c, A', c', rfl, _⟩ := h
    exact null_iface w _ _
  | range a b i0 i1 =>
    obtain ⟨y, z, rfl, _⟩ := h
    exact null_iface w _ _
  | func t y n =>
    obtain rfl : x = _ := h
    exact null_iface w _ _
end Go.Proofs.YthmogphlnjpakaaGreatDoor

namespace Go.Proofs.YthmogphlnjpakaaGreatDoor
open Go Go.Ord Go.RowKit
theorem ret_int {k : IntKind} {a b : Int} (h : a = b) : Ending.returned (.int k a) = .returned (.int k b) := by rw [h]
set_option maxHeartbeats 400000 in
theorem index_any (b off cap : Nat) (N : List ByteArray) (t : ByteArray) (w : World) (hm : N.length ≤ 9223372036854775807) (hc : ∀ j, j < N.length → w.cell? ⟨b, off + j, none⟩ = some (.string (N.getD j ByteArray.empty))) :
    Calls Tryz.prog 68 #[.slice (some ⟨b, off, none⟩) N.length cap, .string t] w fun e w' => e = .returned (.int .i64 (fndAt N t 0)) ∧ w = w' := by
  go_enter Tryz.func68, Tryz.ntmps68
  go_wp2
  go_loop [8] (fun i => ∃ k : Nat, k ≤ N.length ∧ i = .int .i64 k ∧ fndAt N t 0 = fndAt N t k) (fun i => N.length - (intOf i).toNat)
  case atStart => exact ⟨0, Nat.zero_le _, rfl, rfl⟩
  case round =>
    obtain ⟨k, hk, rfl, hr⟩ := hrel
    have HR := Lib.hid hr
    clear hr
    by_cases hlt : k < N.length
    · have hst := fndAt_step N t k hlt
      have HS := Lib.hid hst
      clear hst
      obtain ⟨s, hs⟩ : ∃ s, s = N.getD k ByteArray.empty := ⟨_, rfl⟩
      have hcx : w.cell? ⟨b, off + k, none⟩ = some (.string s) := by rw [hs]; exact hc k hlt
      have HE := Lib.hid hs
      clear hs hc
      go_wp2
      · have h := same_of (by assumption)
        go_ret
        exact ⟨ret_int (by rw [HR.out, HS.out, if_pos (HE.out ▸ h)]), rfl⟩
      · have h := apart_of (by assumption)
        go_round
        case rel => exact ⟨k + 1, by omega, by go_num, by rw [HR.out, HS.out, if_neg (HE.out ▸ h)]⟩
        case measure => simp [intOf]; omega
    · have he : k = N.length := by omega
      subst he
      have HX := Lib.hid (fndAt_end N t)
      clear hc
      go_wp2
      go_ret
      exact ⟨ret_int (by rw [HR.out, HX.out]), rfl⟩
end Go.Proofs.YthmogphlnjpakaaGreatDoor

namespace Go.Proofs.YthmogphlnjpakaaGreatDoor
open Go Go.Ord Go.Typ Go.RowKit
def RowOf (w : World) (A : Option Addr) (xs : List Value) : Prop := ∀ j, j < xs.length → ∃ b off, A = some ⟨b, off, none⟩ ∧ b < w.heap.size ∧ w.cell? ⟨b, off + j, none⟩ = some (xs.getD j undef)
theorem RowOf.all {w : World} {A : Option Addr} {xs : List Value} (h : RowOf w A xs) (h0 : 0 < xs.length) : ∃ b off, A = some ⟨b, off, none⟩ ∧ b < w.heap.size ∧ ∀ j, j < xs.length → w.cell? ⟨b, off + j, none⟩ = some (xs.getD j undef) := by
  obtain ⟨b, off, rfl, hb, _⟩ := h 0 h0
  refine ⟨b, off, rfl, hb, fun j hj => ?_⟩
  obtain ⟨b', off', e, _, hc⟩ := h j hj
  cases e
  exact hc
theorem RowOf.keep {w w' : World} {A : Option Addr} {xs : List Value} (hr : RowOf w A xs) (h : Below w.heap.size w w') : RowOf w' A xs := fun j hj => by
  obtain ⟨b, off, e, hb, hc⟩ := hr j hj
  exact ⟨b, off, e, Nat.lt_of_lt_of_le hb h.size, (h.cell (by exact hb)).trans hc⟩
theorem own_row {B : Nat} {w : World} {e : TypeId} {v : Value} {n : Nat} {xs : List Value} (h : w.ownsRow B e 1 v n xs) : xs.length = n ∧ ∃ A c, v = .slice A n c ∧ n ≤ c ∧ c ≤ 9223372036854775807 ∧ RowOf w A xs := by
  have hl : xs.length = n := by have := h.1; omega
  refine ⟨hl, ?_⟩
  rcases h.2 with ⟨rfl, h0⟩ | ⟨g, cap, cur, rfl, _, hg, h1, h2, h3, h4⟩
  · subst h0
    exact ⟨none, 0, rfl, Nat.le_refl _, by omega, fun j hj => absurd hj (by omega)⟩
  · unfold maxLen at h2
    refine ⟨_, cap, rfl, h1, h2, fun j hj => ⟨g, 0, rfl, ?_, ?_⟩⟩
    · rcases Nat.lt_or_ge g w.heap.size with hlt | hge
      · exact hlt
      · rw [Array.getElem?_eq_none hge] at hg
        cases hg
    · have := World.ownsRow.cells h (g := g) rfl j (xs.getD j undef) (by simp [List.getD, List.getElem?_eq_getElem hj])
      rw [Typ.add_plain] at this
      exact this
def FreshA (w : World) (A : Option Addr) : Prop := ∀ b off s, A = some ⟨b, off, s⟩ → w.heap.size ≤ b
theorem own_fresh {w0 w : World} {e : TypeId} {A : Option Addr} {n c : Nat} {xs : List Value} (h : w.ownsRow w0.heap.size e 1 (.slice A n c) n xs) : FreshA w0 A := fun b off s hA => by
  rcases h.2 with ⟨h0, _⟩ | ⟨g, cap, cur, hv, hb, _⟩
  · injection h0 with h1
    rw [h1] at hA
    cases hA
  · injection hv with h1
    rw [h1] at hA
    cases hA
    exact hb
theorem RowOf.set {w : World} {A : Option Addr} {xs : List Value} (h : RowOf w A xs) {p : Addr} (hp : ∀ b off, A = some ⟨b, off, none⟩ → b ≠ p.block) (u : Value) : RowOf (w.setCell p u) A xs := fun j hj => by
  obtain ⟨b, off, e, hb, hc⟩ := h j hj
  exact ⟨b, off, e, by simpa using hb, (World.cell?_setCell_other w p _ u (fun e' => hp b off e (by subst e'; rfl))).trans hc⟩
def CloneOutF (w : World) (xs : List Value) (e : Ending) (w' : World) : Prop := ∃ A c, e = .returned (.slice A xs.length c) ∧ xs.length ≤ c ∧ c ≤ 9223372036854775807 ∧ RowOf w' A xs ∧ Below w.heap.size w w' ∧ FreshA w A
def CloneOut (w : World) (xs : List Value) (e : Ending) (w' : World) : Prop := ∃ A c, e = .returned (.slice A xs.length c) ∧ xs.length ≤ c ∧ c ≤ 9223372036854775807 ∧ RowOf w' A xs ∧ Below w.heap.size w w'
theorem info_val : (Tryz.prog.info? 30).map (fun i => (i.zero, i.size, i.bytes)) = some (some (.agg #[.nilIface]), 1, 16) := by kernel_rfl
set_option maxRecDepth 100000 in
set_option maxHeartbeats 800000 in
theorem clone_val_f (w : World) (A : Option Addr) (c n : Nat) (xs : List Value) (hn : xs.length = n) (hb : n ≤ 1048576) (h1 : ∀ u ∈ xs, u.oneCell' = true) (hr : RowOf w A xs) :
    Calls Tryz.prog 64 #[.slice A n c] w (CloneOutF w xs) := by
  subst hn
  have hq : ∀ (w : World) (a : Option Addr) (n c n' c' : Nat), (binOp .eql 26 (.slice a n c) (.slice none n' c')).run Tryz.prog w = .ok (.bool a.isNone) w := fun w a n c n' c' => Lib.run_eql_slice_nil w _ _ a n c n' c' Tryz.underlying26
  cases A with
  | none =>
    have h0 : xs = [] := by
      cases xs with
      | nil => rfl
      | cons x xs => obtain ⟨b, off, e, _⟩ := hr 0 (by simp); cases e
    subst h0
    go_enter Tryz.func64, Tryz.ntmps64
    go_wp2
    go_ret
    exact ⟨none, 0, rfl, Nat.le_refl _, by omega, fun j hj => absurd hj (by simp), Below.refl _ _, fun _ _ _ h => by cases h⟩
  | some a =>
    obtain ⟨i0, hi, hz0, hz1, hz2⟩ := info_parts info_val
    have HR := Lib.hid hr
    have H1 := Lib.hid h1
    clear hr h1
    go_enter Tryz.func64, Tryz.ntmps64
    go_wp2_with (at_builtin; refine wpList_append_own _ rfl _ _ 26 rfl w.heap.size 30 i0 (.agg #[.nilIface]) 1 16 Tryz.underlying26 hi hz0 hz1 hz2 rfl (by decide) _ _ _ rfl (World.ownsRow_made w #[] 0 (Nat.le_refl _) (Nat.zero_le _) rfl) a xs.length c xs rfl ?qc1 ?qc2 ?qc3 ?qc4 ?qc5 ?qc6 ?_)
    case qc1 => simp
    case qc2 =>
      intro j u hj
      have hjl : j < xs.length := (List.getElem?_eq_some_iff.1 hj).1
      obtain ⟨b, off, e, hlt, hc⟩ := HR.out j hjl
      cases e
      rw [Typ.add_plain]
      refine Lib.cell?_alloc_some _ ?_
      rw [hc]
      simp [List.getD, hj]
    case qc3 => exact H1.out
    case qc4 => unfold maxLen; omega
    case qc5 => omega
    case qc6 => simp
    intro v' w1 hown hgrow _
    have hb1 : Below w.heap.size w w1 := ((Below.refl _ w).alloc (Nat.le_refl _) _).grown hgrow (by simp) (by intro k hk; simp [Value.ownBlock] at hk; omega)
    obtain ⟨_, A', c', rfl, g1, g2, hrow⟩ := own_row hown
    have hfr : FreshA w A' := own_fresh hown
    clear hown hgrow
    go_wp2
    go_ret
    exact ⟨A', c', rfl, g1, g2, hrow, hb1, hfr⟩
theorem info_str : (Tryz.prog.info? 9).map (fun i => (i.zero, i.size, i.bytes)) = some (some (.string ⟨#[]⟩), 1, 16) := by kernel_rfl
set_option maxRecDepth 100000 in
set_option maxHeartbeats 800000 in
theorem clone_str_f (w : World) (A : Option Addr) (c n : Nat) (xs : List Value) (hn : xs.length = n) (hb : n ≤ 1048576) (h1 : ∀ u ∈ xs, u.oneCell' = true) (hr : RowOf w A xs) :
    Calls Tryz.prog 66 #[.slice A n c] w (CloneOutF w xs) := by
  subst hn
  have hq : ∀ (w : World) (a : Option Addr) (n c n' c' : Nat), (binOp .eql 23 (.slice a n c) (.slice none n' c')).run Tryz.prog w = .ok (.bool a.isNone) w := fun w a n c n' c' => Lib.run_eql_slice_nil w _ _ a n c n' c' Tryz.underlying23
  cases A with
  | none =>
    have h0 : xs = [] := by
      cases xs with
      | nil => rfl
      | cons x xs => obtain ⟨b, off, e, _⟩ := hr 0 (by simp); cases e
    subst h0
    go_enter Tryz.func66, Tryz.ntmps66
    go_wp2
    go_ret
    exact ⟨none, 0, rfl, Nat.le_refl _, by omega, fun j hj => absurd hj (by simp), Below.refl _ _, fun _ _ _ h => by cases h⟩
  | some a =>
    obtain ⟨i0, hi, hz0, hz1, hz2⟩ := info_parts info_str
    have HR := Lib.hid hr
    have H1 := Lib.hid h1
    clear hr h1
    go_enter Tryz.func66, Tryz.ntmps66
    go_wp2_with (at_builtin; refine wpList_append_own _ rfl _ _ 23 rfl w.heap.size 9 i0 (.string ⟨#[]⟩) 1 16 Tryz.underlying23 hi hz0 hz1 hz2 rfl (by decide) _ _ _ rfl (World.ownsRow_made w #[] 0 (Nat.le_refl _) (Nat.zero_le _) rfl) a xs.length c xs rfl ?qc1 ?qc2 ?qc3 ?qc4 ?qc5 ?qc6 ?_)
    case qc1 => simp
    case qc2 =>
      intro j u hj
      have hjl : j < xs.length := (List.getElem?_eq_some_iff.1 hj).1
      obtain ⟨b, off, e, hlt, hc⟩ := HR.out j hjl
      cases e
      rw [Typ.add_plain]
      refine Lib.cell?_alloc_some _ ?_
      rw [hc]
      simp [List.getD, hj]
    case qc3 => exact H1.out
    case qc4 => unfold maxLen; omega
    case qc5 => omega
    case qc6 => simp
    intro v' w1 hown hgrow _
    have hb1 : Below w.heap.size w w1 := ((Below.refl _ w).alloc (Nat.le_refl _) _).grown hgrow (by simp) (by intro k hk; simp [Value.ownBlock] at hk; omega)
    obtain ⟨_, A', c', rfl, g1, g2, hrow⟩ := own_row hown
    have hfr : FreshA w A' := own_fresh hown
    clear hown hgrow
    go_wp2
    go_ret
    exact ⟨A', c', rfl, g1, g2, hrow, hb1, hfr⟩
theorem clone_val_nil (w : World) : Calls Tryz.prog 64 #[.slice none 0 0] w fun e w' => e = .returned (.slice none 0 0) ∧ w' = w := by
  have hq : ∀ (w : World) (a : Option Addr) (n c n' c' : Nat), (binOp .eql 26 (.slice a n c) (.slice none n' c')).run Tryz.prog w = .ok (.bool a.isNone) w := fun w a n c n' c' => Lib.run_eql_slice_nil w _ _ a n c n' c' Tryz.underlying26
  go_enter Tryz.func64, Tryz.ntmps64
  go_wp2
  go_ret
  exact ⟨rfl, rfl⟩
theorem clone_str_nil (w : World) : Calls Tryz.prog 66 #[.slice none 0 0] w fun e w' => e = .returned (.slice none 0 0) ∧ w' = w := by
  have hq : ∀ (w : World) (a : Option Addr) (n c n' c' : Nat), (binOp .eql 23 (.slice a n c) (.slice none n' c')).run Tryz.prog w = .ok (.bool a.isNone) w := fun w a n c n' c' => Lib.run_eql_slice_nil w _ _ a n c n' c' Tryz.underlying23
  go_enter Tryz.func66, Tryz.ntmps66
  go_wp2
  go_ret
  exact ⟨rfl, rfl⟩
theorem clone_val (w : World) (A : Option Addr) (c n : Nat) (xs : List Value) (hn : xs.length = n) (hb : n ≤ 1048576) (h1 : ∀ u ∈ xs, u.oneCell' = true) (hr : RowOf w A xs) :
    Calls Tryz.prog 64 #[.slice A n c] w (CloneOut w xs) := (clone_val_f w A c n xs hn hb h1 hr).mono fun _ _ ⟨A', c', h1, h2, h3, h4, h5, _⟩ => ⟨A', c', h1, h2, h3, h4, h5⟩
theorem clone_str (w : World) (A : Option Addr) (c n : Nat) (xs : List Value) (hn : xs.length = n) (hb : n ≤ 1048576) (h1 : ∀ u ∈ xs, u.oneCell' = true) (hr : RowOf w A xs) :
    Calls Tryz.prog 66 #[.slice A n c] w (CloneOut w xs) := (clone_str_f w A c n xs hn hb h1 hr).mono fun _ _ ⟨A', c', h1, h2, h3, h4, h5, _⟩ => ⟨A', c', h1, h2, h3, h4, h5⟩
end Go.Proofs.YthmogphlnjpakaaGreatDoor

namespace Go.Proofs.YthmogphlnjpakaaGreatDoor
open Go Go.Ord Go.Typ Go.RowKit
theorem taBool_nil (w : World) : (Instr.typeAssert .nilIface 28 181 true).run Tryz.prog w = .ok (.tuple #[(.bool false), .bool false]) w := by kernel_rfl
theorem taBool_yes (w : World) (v : Value) : (Instr.typeAssert (.iface 181 v) 28 181 true).run Tryz.prog w = .ok (.tuple #[v, .bool true]) w := by kernel_rfl
theorem taBool_zero (w : World) : (do pure (Value.tuple #[← zeroValue 181, .bool false]) : Sem Value).run Tryz.prog w = .ok (.tuple #[(.bool false), .bool false]) w := by kernel_rfl
theorem taBool_no (u : TypeId) (v : Value) (h : u ≠ 181) (w : World) : (Instr.typeAssert (.iface u v) 28 181 true).run Tryz.prog w = .ok (.tuple #[(.bool false), .bool false]) w := by
  have e : (Instr.typeAssert (.iface u v) 28 181 true).run Tryz.prog w = (if u = 181 then (pure (Value.tuple #[v, .bool true]) : Sem Value) else (do pure (Value.tuple #[← zeroValue 181, .bool false]))).run Tryz.prog w := by kernel_rfl
  rw [e, if_neg h]
  exact taBool_zero w
theorem taNum_nil (w : World) : (Instr.typeAssert .nilIface 28 176 true).run Tryz.prog w = .ok (.tuple #[(.agg #[.bool false, .int .u64 0, .int .u64 0, .int .i64 0]), .bool false]) w := by kernel_rfl
theorem taNum_yes (w : World) (v : Value) : (Instr.typeAssert (.iface 176 v) 28 176 true).run Tryz.prog w = .ok (.tuple #[v, .bool true]) w := by kernel_rfl
theorem taNum_zero (w : World) : (do pure (Value.tuple #[← zeroValue 176, .bool false]) : Sem Value).run Tryz.prog w = .ok (.tuple #[(.agg #[.bool false, .int .u64 0, .int .u64 0, .int .i64 0]), .bool false]) w := by kernel_rfl
theorem taNum_no (u : TypeId) (v : Value) (h : u ≠ 176) (w : World) : (Instr.typeAssert (.iface u v) 28 176 true).run Tryz.prog w = .ok (.tuple #[(.agg #[.bool false, .int .u64 0, .int .u64 0, .int .i64 0]), .bool false]) w := by
  have e : (Instr.typeAssert (.iface u v) 28 176 true).run Tryz.prog w = (if u = 176 then (pure (Value.tuple #[v, .bool true]) : Sem Value) else (do pure (Value.tuple #[← zeroValue 176, .bool false]))).run Tryz.prog w := by kernel_rfl
  rw [e, if_neg h]
  exact taNum_zero w
theorem taText_nil (w : World) : (Instr.typeAssert .nilIface 28 144 true).run Tryz.prog w = .ok (.tuple #[(.string ⟨#[]⟩), .bool false]) w := by kernel_rfl
theorem taText_yes (w : World) (v : Value) : (Instr.typeAssert (.iface 144 v) 28 144 true).run Tryz.prog w = .ok (.tuple #[v, .bool true]) w := by kernel_rfl
theorem taText_zero (w : World) : (do pure (Value.tuple #[← zeroValue 144, .bool false]) : Sem Value).run Tryz.prog w = .ok (.tuple #[(.string ⟨#[]⟩), .bool false]) w := by kernel_rfl
theorem taText_no (u : TypeId) (v : Value) (h : u ≠ 144) (w : World) : (Instr.typeAssert (.iface u v) 28 144 true).run Tryz.prog w = .ok (.tuple #[(.string ⟨#[]⟩), .bool false]) w := by
  have e : (Instr.typeAssert (.iface u v) 28 144 true).run Tryz.prog w = (if u = 144 then (pure (Value.tuple #[v, .bool true]) : Sem Value) else (do pure (Value.tuple #[← zeroValue 144, .bool false]))).run Tryz.prog w := by kernel_rfl
  rw [e, if_neg h]
  exact taText_zero w
theorem taDate_nil (w : World) : (Instr.typeAssert .nilIface 28 184 true).run Tryz.prog w = .ok (.tuple #[(.agg #[.int .i64 0, .int .i64 0, .int .i64 0]), .bool false]) w := by kernel_rfl
theorem taDate_yes (w : World) (v : Value) : (Instr.typeAssert (.iface 184 v) 28 184 true).run Tryz.prog w = .ok (.tuple #[v, .bool true]) w := by kernel_rfl
theorem taDate_zero (w : World) : (do pure (Value.tuple #[← zeroValue 184, .bool false]) : Sem Value).run Tryz.prog w = .ok (.tuple #[(.agg #[.int .i64 0, .int .i64 0, .int .i64 0]), .bool false]) w := by kernel_rfl
theorem taDate_no (u : TypeId) (v : Value) (h : u ≠ 184) (w : World) : (Instr.typeAssert (.iface u v) 28 184 true).run Tryz.prog w = .ok (.tuple #[(.agg #[.int .i64 0, .int .i64 0, .int .i64 0]), .bool false]) w := by
  have e : (Instr.typeAssert (.iface u v) 28 184 true).run Tryz.prog w = (if u = 184 then (pure (Value.tuple #[v, .bool true]) : Sem Value) else (do pure (Value.tuple #[← zeroValue 184, .bool false]))).run Tryz.prog w := by kernel_rfl
  rw [e, if_neg h]
  exact taDate_zero w
theorem taTime_nil (w : World) : (Instr.typeAssert .nilIface 28 186 true).run Tryz.prog w = .ok (.tuple #[(.agg #[.int .i64 0, .bool false, .int .i64 0]), .bool false]) w := by kernel_rfl
theorem taTime_yes (w : World) (v : Value) : (Instr.typeAssert (.iface 186 v) 28 186 true).run Tryz.prog w = .ok (.tuple #[v, .bool true]) w := by kernel_rfl
theorem taTime_zero (w : World) : (do pure (Value.tuple #[← zeroValue 186, .bool false]) : Sem Value).run Tryz.prog w = .ok (.tuple #[(.agg #[.int .i64 0, .bool false, .int .i64 0]), .bool false]) w := by kernel_rfl
theorem taTime_no (u : TypeId) (v : Value) (h : u ≠ 186) (w : World) : (Instr.typeAssert (.iface u v) 28 186 true).run Tryz.prog w = .ok (.tuple #[(.agg #[.int .i64 0, .bool false, .int .i64 0]), .bool false]) w := by
  have e : (Instr.typeAssert (.iface u v) 28 186 true).run Tryz.prog w = (if u = 186 then (pure (Value.tuple #[v, .bool true]) : Sem Value) else (do pure (Value.tuple #[← zeroValue 186, .bool false]))).run Tryz.prog w := by kernel_rfl
  rw [e, if_neg h]
  exact taTime_zero w
theorem taMoment_nil (w : World) : (Instr.typeAssert .nilIface 28 188 true).run Tryz.prog w = .ok (.tuple #[(.agg #[.int .i64 0, .int .i64 0, .int .i64 0, .int .i64 0, .bool false, .int .i64 0]), .bool false]) w := by kernel_rfl
theorem taMoment_yes (w : World) (v : Value) : (Instr.typeAssert (.iface 188 v) 28 188 true).run Tryz.prog w = .ok (.tuple #[v, .bool true]) w := by kernel_rfl
theorem taMoment_zero (w : World) : (do pure (Value.tuple #[← zeroValue 188, .bool false]) : Sem Value).run Tryz.prog w = .ok (.tuple #[(.agg #[.int .i64 0, .int .i64 0, .int .i64 0, .int .i64 0, .bool false, .int .i64 0]), .bool false]) w := by kernel_rfl
theorem taMoment_no (u : TypeId) (v : Value) (h : u ≠ 188) (w : World) : (Instr.typeAssert (.iface u v) 28 188 true).run Tryz.prog w = .ok (.tuple #[(.agg #[.int .i64 0, .int .i64 0, .int .i64 0, .int .i64 0, .bool false, .int .i64 0]), .bool false]) w := by
  have e : (Instr.typeAssert (.iface u v) 28 188 true).run Tryz.prog w = (if u = 188 then (pure (Value.tuple #[v, .bool true]) : Sem Value) else (do pure (Value.tuple #[← zeroValue 188, .bool false]))).run Tryz.prog w := by kernel_rfl
  rw [e, if_neg h]
  exact taMoment_zero w
theorem taDays_nil (w : World) : (Instr.typeAssert .nilIface 28 190 true).run Tryz.prog w = .ok (.tuple #[(.int .i64 0), .bool false]) w := by kernel_rfl
theorem taDays_yes (w : World) (v : Value) : (Instr.typeAssert (.iface 190 v) 28 190 true).run Tryz.prog w = .ok (.tuple #[v, .bool true]) w := by kernel_rfl
theorem taDays_zero (w : World) : (do pure (Value.tuple #[← zeroValue 190, .bool false]) : Sem Value).run Tryz.prog w = .ok (.tuple #[(.int .i64 0), .bool false]) w := by kernel_rfl
theorem taDays_no (u : TypeId) (v : Value) (h : u ≠ 190) (w : World) : (Instr.typeAssert (.iface u v) 28 190 true).run Tryz.prog w = .ok (.tuple #[(.int .i64 0), .bool false]) w := by
  have e : (Instr.typeAssert (.iface u v) 28 190 true).run Tryz.prog w = (if u = 190 then (pure (Value.tuple #[v, .bool true]) : Sem Value) else (do pure (Value.tuple #[← zeroValue 190, .bool false]))).run Tryz.prog w := by kernel_rfl
  rw [e, if_neg h]
  exact taDays_zero w
theorem taMonths_nil (w : World) : (Instr.typeAssert .nilIface 28 192 true).run Tryz.prog w = .ok (.tuple #[(.int .i64 0), .bool false]) w := by kernel_rfl
theorem taMonths_yes (w : World) (v : Value) : (Instr.typeAssert (.iface 192 v) 28 192 true).run Tryz.prog w = .ok (.tuple #[v, .bool true]) w := by kernel_rfl
theorem taMonths_zero (w : World) : (do pure (Value.tuple #[← zeroValue 192, .bool false]) : Sem Value).run Tryz.prog w = .ok (.tuple #[(.int .i64 0), .bool false]) w := by kernel_rfl
theorem taMonths_no (u : TypeId) (v : Value) (h : u ≠ 192) (w : World) : (Instr.typeAssert (.iface u v) 28 192 true).run Tryz.prog w = .ok (.tuple #[(.int .i64 0), .bool false]) w := by
  have e : (Instr.typeAssert (.iface u v) 28 192 true).run Tryz.prog w = (if u = 192 then (pure (Value.tuple #[v, .bool true]) : Sem Value) else (do pure (Value.tuple #[← zeroValue 192, .bool false]))).run Tryz.prog w := by kernel_rfl
  rw [e, if_neg h]
  exact taMonths_zero w
theorem taList_nil (w : World) : (Instr.typeAssert .nilIface 28 95 true).run Tryz.prog w = .ok (.tuple #[(.slice none 0 0), .bool false]) w := by kernel_rfl
theorem taList_yes (w : World) (v : Value) : (Instr.typeAssert (.iface 95 v) 28 95 true).run Tryz.prog w = .ok (.tuple #[v, .bool true]) w := by kernel_rfl
theorem taList_zero (w : World) : (do pure (Value.tuple #[← zeroValue 95, .bool false]) : Sem Value).run Tryz.prog w = .ok (.tuple #[(.slice none 0 0), .bool false]) w := by kernel_rfl
theorem taList_no (u : TypeId) (v : Value) (h : u ≠ 95) (w : World) : (Instr.typeAssert (.iface u v) 28 95 true).run Tryz.prog w = .ok (.tuple #[(.slice none 0 0), .bool false]) w := by
  have e : (Instr.typeAssert (.iface u v) 28 95 true).run Tryz.prog w = (if u = 95 then (pure (Value.tuple #[v, .bool true]) : Sem Value) else (do pure (Value.tuple #[← zeroValue 95, .bool false]))).run Tryz.prog w := by kernel_rfl
  rw [e, if_neg h]
  exact taList_zero w
theorem taContext_nil (w : World) : (Instr.typeAssert .nilIface 28 101 true).run Tryz.prog w = .ok (.tuple #[(.agg #[.slice none 0 0, .slice none 0 0]), .bool false]) w := by kernel_rfl
theorem taContext_yes (w : World) (v : Value) : (Instr.typeAssert (.iface 101 v) 28 101 true).run Tryz.prog w = .ok (.tuple #[v, .bool true]) w := by kernel_rfl
theorem taContext_zero (w : World) : (do pure (Value.tuple #[← zeroValue 101, .bool false]) : Sem Value).run Tryz.prog w = .ok (.tuple #[(.agg #[.slice none 0 0, .slice none 0 0]), .bool false]) w := by kernel_rfl
theorem taContext_no (u : TypeId) (v : Value) (h : u ≠ 101) (w : World) : (Instr.typeAssert (.iface u v) 28 101 true).run Tryz.prog w = .ok (.tuple #[(.agg #[.slice none 0 0, .slice none 0 0]), .bool false]) w := by
  have e : (Instr.typeAssert (.iface u v) 28 101 true).run Tryz.prog w = (if u = 101 then (pure (Value.tuple #[v, .bool true]) : Sem Value) else (do pure (Value.tuple #[← zeroValue 101, .bool false]))).run Tryz.prog w := by kernel_rfl
  rw [e, if_neg h]
  exact taContext_zero w
theorem taRange_nil (w : World) : (Instr.typeAssert .nilIface 28 111 true).run Tryz.prog w = .ok (.tuple #[(.agg #[.nilIface, .nilIface, .bool false, .bool false]), .bool false]) w := by kernel_rfl
theorem taRange_yes (w : World) (v : Value) : (Instr.typeAssert (.iface 111 v) 28 111 true).run Tryz.prog w = .ok (.tuple #[v, .bool true]) w := by kernel_rfl
theorem taRange_zero (w : World) : (do pure (Value.tuple #[← zeroValue 111, .bool false]) : Sem Value).run Tryz.prog w = .ok (.tuple #[(.agg #[.nilIface, .nilIface, .bool false, .bool false]), .bool false]) w := by kernel_rfl
theorem taRange_no (u : TypeId) (v : Value) (h : u ≠ 111) (w : World) : (Instr.typeAssert (.iface u v) 28 111 true).run Tryz.prog w = .ok (.tuple #[(.agg #[.nilIface, .nilIface, .bool false, .bool false]), .bool false]) w := by
  have e : (Instr.typeAssert (.iface u v) 28 111 true).run Tryz.prog w = (if u = 111 then (pure (Value.tuple #[v, .bool true]) : Sem Value) else (do pure (Value.tuple #[← zeroValue 111, .bool false]))).run Tryz.prog w := by kernel_rfl
  rw [e, if_neg h]
  exact taRange_zero w
theorem taFunc_nil (w : World) : (Instr.typeAssert .nilIface 28 138 true).run Tryz.prog w = .ok (.tuple #[(.agg #[.nilIface, .int .i64 0]), .bool false]) w := by kernel_rfl
theorem taFunc_yes (w : World) (v : Value) : (Instr.typeAssert (.iface 138 v) 28 138 true).run Tryz.prog w = .ok (.tuple #[v, .bool true]) w := by kernel_rfl
theorem taFunc_zero (w : World) : (do pure (Value.tuple #[← zeroValue 138, .bool false]) : Sem Value).run Tryz.prog w = .ok (.tuple #[(.agg #[.nilIface, .int .i64 0]), .bool false]) w := by kernel_rfl
theorem taFunc_no (u : TypeId) (v : Value) (h : u ≠ 138) (w : World) : (Instr.typeAssert (.iface u v) 28 138 true).run Tryz.prog w = .ok (.tuple #[(.agg #[.nilIface, .int .i64 0]), .bool false]) w := by
  have e : (Instr.typeAssert (.iface u v) 28 138 true).run Tryz.prog w = (if u = 138 then (pure (Value.tuple #[v, .bool true]) : Sem Value) else (do pure (Value.tuple #[← zeroValue 138, .bool false]))).run Tryz.prog w := by kernel_rfl
  rw [e, if_neg h]
  exact taFunc_zero w
def AskOut (w : World) (b : Bool) (e : Ending) (w' : World) : Prop := ∃ y, e = .returned (.tuple #[y, .bool b]) ∧ Below w.heap.size w w'
def Ask3Out (w : World) (b : Bool) (e : Ending) (w' : World) : Prop := ∃ y z, e = .returned (.tuple #[y, z, .bool b]) ∧ Below w.heap.size w w'
set_option maxRecDepth 100000 in
theorem asBool_nil (w : World) : Calls Tryz.prog 76 #[.agg #[.nilIface]] w (AskOut w false) := by
  have ht := taBool_nil
  go_enter Tryz.func76, Tryz.ntmps76
  go_wp2
  go_ret2
  exact ⟨_, rfl, by first | exact box_one _ _ | exact box_two _ _ _ | exact box_three _ _ _ _⟩
set_option maxRecDepth 100000 in
theorem asBool_no (w : World) (t : TypeId) (y : Value) (h : t ≠ 181) : Calls Tryz.prog 76 #[.agg #[.iface t y]] w (AskOut w false) := by
  have ht := taBool_no t y h
  go_enter Tryz.func76, Tryz.ntmps76
  go_wp2
  go_ret2
  exact ⟨_, rfl, by first | exact box_one _ _ | exact box_two _ _ _ | exact box_three _ _ _ _⟩
set_option maxRecDepth 100000 in
theorem asText_nil (w : World) : Calls Tryz.prog 77 #[.agg #[.nilIface]] w (AskOut w false) := by
  have ht := taText_nil
  go_enter Tryz.func77, Tryz.ntmps77
  go_wp2
  go_ret2
  exact ⟨_, rfl, by first | exact box_one _ _ | exact box_two _ _ _ | exact box_three _ _ _ _⟩
set_option maxRecDepth 100000 in
theorem asText_no (w : World) (t : TypeId) (y : Value) (h : t ≠ 144) : Calls Tryz.prog 77 #[.agg #[.iface t y]] w (AskOut w false) := by
  have ht := taText_no t y h
  go_enter Tryz.func77, Tryz.ntmps77
  go_wp2
  go_ret2
  exact ⟨_, rfl, by first | exact box_one _ _ | exact box_two _ _ _ | exact box_three _ _ _ _⟩
set_option maxRecDepth 100000 in
theorem asDays_nil (w : World) : Calls Tryz.prog 81 #[.agg #[.nilIface]] w (AskOut w false) := by
  have ht := taDays_nil
  go_enter Tryz.func81, Tryz.ntmps81
  go_wp2
  go_ret2
  exact ⟨_, rfl, by first | exact box_one _ _ | exact box_two _ _ _ | exact box_three _ _ _ _⟩
set_option maxRecDepth 100000 in
theorem asDays_no (w : World) (t : TypeId) (y : Value) (h : t ≠ 190) : Calls Tryz.prog 81 #[.agg #[.iface t y]] w (AskOut w false) := by
  have ht := taDays_no t y h
  go_enter Tryz.func81, Tryz.ntmps81
  go_wp2
  go_ret2
  exact ⟨_, rfl, by first | exact box_one _ _ | exact box_two _ _ _ | exact box_three _ _ _ _⟩
set_option maxRecDepth 100000 in
theorem asMonths_nil (w : World) : Calls Tryz.prog 82 #[.agg #[.nilIface]] w (AskOut w false) := by
  have ht := taMonths_nil
  go_enter Tryz.func82, Tryz.ntmps82
  go_wp2
  go_ret2
  exact ⟨_, rfl, by first | exact box_one _ _ | exact box_two _ _ _ | exact box_three _ _ _ _⟩
set_option maxRecDepth 100000 in
theorem asMonths_no (w : World) (t : TypeId) (y : Value) (h : t ≠ 192) : Calls Tryz.prog 82 #[.agg #[.iface t y]] w (AskOut w false) := by
  have ht := taMonths_no t y h
  go_enter Tryz.func82, Tryz.ntmps82
  go_wp2
  go_ret2
  exact ⟨_, rfl, by first | exact box_one _ _ | exact box_two _ _ _ | exact box_three _ _ _ _⟩
set_option maxRecDepth 100000 in
theorem asBool_yes (w : World) (b : Bool) : Calls Tryz.prog 76 #[.agg #[.iface 181 (.bool b)]] w (OneOut w (.tuple #[(.bool b), .bool true])) := by
  have ht := taBool_yes
  go_enter Tryz.func76, Tryz.ntmps76
  go_wp2
  go_ret2
  exact ⟨rfl, by first | exact box_one _ _ | exact box_two _ _ _ | exact box_three _ _ _ _⟩
set_option maxRecDepth 100000 in
theorem asNum_yes (w : World) (b : Bool) (hi lo e : Int) : Calls Tryz.prog 59 #[.agg #[.iface 176 (.agg #[.bool b, .int .u64 hi, .int .u64 lo, .int .i64 e])]] w (OneOut w (.tuple #[(.agg #[.bool b, .int .u64 hi, .int .u64 lo, .int .i64 e]), .bool true])) := by
  have ht := taNum_yes
  go_enter Tryz.func59, Tryz.ntmps59
  go_wp2
  exact bodyPost_ret (v := .tuple #[(.agg #[.bool b, .int .u64 hi, .int .u64 lo, .int .i64 e]), .bool true]) (by simp [results, Tryz.results59, go_sem]) rfl ⟨rfl, by (repeat (first | exact Below.refl _ _ | refine Below.alloc ?_ (by simp <;> omega) _))⟩
set_option maxRecDepth 100000 in
theorem asText_yes (w : World) (s : ByteArray) : Calls Tryz.prog 77 #[.agg #[.iface 144 (.string s)]] w (OneOut w (.tuple #[(.string s), .bool true])) := by
  have ht := taText_yes
  go_enter Tryz.func77, Tryz.ntmps77
  go_wp2
  go_ret2
  exact ⟨rfl, by first | exact box_one _ _ | exact box_two _ _ _ | exact box_three _ _ _ _⟩
set_option maxRecDepth 100000 in
theorem asDate_yes (w : World) (y m d : Int) : Calls Tryz.prog 78 #[.agg #[.iface 184 (.agg #[.int .i64 y, .int .i64 m, .int .i64 d])]] w (OneOut w (.tuple #[(.agg #[.int .i64 y, .int .i64 m, .int .i64 d]), .bool true])) := by
  have ht := taDate_yes
  go_enter Tryz.func78, Tryz.ntmps78
  go_wp2
  exact bodyPost_ret (v := .tuple #[(.agg #[.int .i64 y, .int .i64 m, .int .i64 d]), .bool true]) (by simp [results, Tryz.results78, go_sem]) rfl ⟨rfl, by (repeat (first | exact Below.refl _ _ | refine Below.alloc ?_ (by simp <;> omega) _))⟩
set_option maxRecDepth 100000 in
theorem asTime_yes (w : World) (s : Int) (z : Bool) (o : Int) : Calls Tryz.prog 79 #[.agg #[.iface 186 (.agg #[.int .i64 s, .bool z, .int .i64 o])]] w (OneOut w (.tuple #[(.agg #[.int .i64 s, .bool z, .int .i64 o]), .bool true])) := by
  have ht := taTime_yes
  go_enter Tryz.func79, Tryz.ntmps79
  go_wp2
  exact bodyPost_ret (v := .tuple #[(.agg #[.int .i64 s, .bool z, .int .i64 o]), .bool true]) (by simp [results, Tryz.results79, go_sem]) rfl ⟨rfl, by (repeat (first | exact Below.refl _ _ | refine Below.alloc ?_ (by simp <;> omega) _))⟩
set_option maxRecDepth 100000 in
theorem asMoment_yes (w : World) (y m d s : Int) (z : Bool) (o : Int) : Calls Tryz.prog 80 #[.agg #[.iface 188 (.agg #[.int .i64 y, .int .i64 m, .int .i64 d, .int .i64 s, .bool z, .int .i64 o])]] w (OneOut w (.tuple #[(.agg #[.int .i64 y, .int .i64 m, .int .i64 d, .int .i64 s, .bool z, .int .i64 o]), .bool true])) := by
  have ht := taMoment_yes
  go_enter Tryz.func80, Tryz.ntmps80
  go_wp2
  exact bodyPost_ret (v := .tuple #[(.agg #[.int .i64 y, .int .i64 m, .int .i64 d, .int .i64 s, .bool z, .int .i64 o]), .bool true]) (by simp [results, Tryz.results80, go_sem]) rfl ⟨rfl, by (repeat (first | exact Below.refl _ _ | refine Below.alloc ?_ (by simp <;> omega) _))⟩
set_option maxRecDepth 100000 in
theorem asDays_yes (w : World) (n : Int) : Calls Tryz.prog 81 #[.agg #[.iface 190 (.int .i64 n)]] w (OneOut w (.tuple #[(.int .i64 n), .bool true])) := by
  have ht := taDays_yes
  go_enter Tryz.func81, Tryz.ntmps81
  go_wp2
  go_ret2
  exact ⟨rfl, by first | exact box_one _ _ | exact box_two _ _ _ | exact box_three _ _ _ _⟩
set_option maxRecDepth 100000 in
theorem asMonths_yes (w : World) (n : Int) : Calls Tryz.prog 82 #[.agg #[.iface 192 (.int .i64 n)]] w (OneOut w (.tuple #[(.int .i64 n), .bool true])) := by
  have ht := taMonths_yes
  go_enter Tryz.func82, Tryz.ntmps82
  go_wp2
  go_ret2
  exact ⟨rfl, by first | exact box_one _ _ | exact box_two _ _ _ | exact box_three _ _ _ _⟩
end Go.Proofs.YthmogphlnjpakaaGreatDoor
