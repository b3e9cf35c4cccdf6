/-
  value.read of any kind, in every later world.
  value.Of of what is no list, context or range.
  value.Of of what has nothing in it.
-/
import Derived.Test.YthmogphlnjpakaaGreatDoorYa
import Derived.Test.YthmogphlnjpakaaGreatDoorYe1
import Derived.Deep.RegionHeld3

namespace Go.Proofs.YthmogphlnjpakaaGreatDoor
open Go Go.Ord Go.Typ Go.RowKit
structure Base0 (base : World) : Prop where
  hs : base.ShapedOpen Tryz.prog
  tab : Lib.TabIs Tryz.prog base "internal/strconv.uint64pow10" .u64 pow10s
  firm : Firm base
  utf : Utf8At base
def LeafVal (k : Int) (x : Value) : Prop := x = .nilIface ∨ ∃ t y, x = .iface t y ∧ LeafOk k t y
def ReadOut (w : World) (k : Int) (e : Ending) (w' : World) : Prop := ∃ x, e = .returned (.agg #[x]) ∧ LeafVal k x ∧ Below w.heap.size w w'
set_option maxRecDepth 100000 in
theorem read_other (w : World) (k : Int) (s : ByteArray) (h2 : (k == 2) = false) (h3 : (k == 3) = false) (h4 : (k == 4) = false) (h5 : (k == 5) = false) (h6 : (k == 6) = false) (h7 : (k == 7) = false) (h8 : (k == 8) = false) (h9 : (k == 9) = false) :
    Calls Tryz.prog 63 #[.int .i64 k, .string s] w (OneOut w (.agg #[.nilIface])) := by
  go_enter Tryz.func63, Tryz.ntmps63
  go_wp2_with fail
  exact bodyPost_ret (v := .agg #[.nilIface]) (by simp [results, Tryz.results63, go_sem]) rfl ⟨rfl, by first | exact box_one _ _ | exact (box_one _ _).setCell (Nat.le_refl _) _⟩
theorem leaf_pure {k : Int} {t : Nat} {y : Value} (h : LeafOk k t y) : Pe.pureV 6 (.agg ⟨[.iface t y]⟩) = true := by
  cases h <;> rfl
theorem read_any {base : World} (E : Base0 base) (w : World) (hB : Below base.heap.size base w) (k : Int) (s : ByteArray) (hz : s.size ≤ 1048576) : Calls Tryz.prog 63 #[.int .i64 k, .string s] w (ReadOut w k) := by
  by_cases hk : 2 ≤ k ∧ k ≤ 9
  · obtain ⟨x, hx, ht⟩ := read_tot E.firm E.utf hk.1 hk.2 (s := s) hz
    have hp : Pe.pureV 6 (.agg ⟨[x]⟩) = true := by
      rcases hx with rfl | ⟨t, y, rfl, hl⟩
      · rfl
      · exact leaf_pure hl
    exact (tot_later E.hs E.tab hB Tryz.func63 (by kernel_rfl) (List.forall_mem_cons.2 ⟨rfl, pure1 rfl⟩) hp ht).mono fun e w' ⟨h1, h2⟩ => ⟨x, h1, hx, h2⟩
  · have hne : ∀ c : Int, 2 ≤ c → c ≤ 9 → (k == c) = false := fun c h1 h2 => beq_eq_false_iff_ne.2 fun e => hk (by omega)
    exact (read_other w k s (hne 2 (by omega) (by omega)) (hne 3 (by omega) (by omega)) (hne 4 (by omega) (by omega)) (hne 5 (by omega) (by omega)) (hne 6 (by omega) (by omega)) (hne 7 (by omega) (by omega)) (hne 8 (by omega) (by omega)) (hne 9 (by omega) (by omega))).mono fun e w' ⟨h1, h2⟩ => ⟨_, h1, .inl rfl, h2⟩
end Go.Proofs.YthmogphlnjpakaaGreatDoor

namespace Go.Proofs.YthmogphlnjpakaaGreatDoor
open Go Go.Ord Go.Typ Go.RowKit
def OfOut (w : World) (D : Dat) (e : Ending) (w' : World) : Prop :=
  ∃ V x ok, e = .returned (.tuple #[.agg #[x], .bool ok]) ∧ IsValP (fun b => w.heap.size ≤ b) w' V x ∧ Below w.heap.size w w' ∧ (ok = false → V = .nul) ∧ (ok = true → kindV V = D.kind)
structure Res (w : World) (p : Nat) (w' : World) : Prop where
  has : ∃ u, w'.cell? ⟨p, 0, none⟩ = some u
  free : w'.frozen? ⟨p, 0, none⟩ = false
  below : Below w.heap.size w w'
  new : w.heap.size ≤ p
  lt : p < w'.heap.size
theorem Res.drew {w : World} {p : Nat} {w' : World} (h : Res w p w') : Res w p w'.drew := ⟨h.has, h.free, h.below.drew, h.new, h.lt⟩
theorem Res.on {w : World} {p : Nat} {w' w1 : World} (h : Res w p w') (hb : Below w'.heap.size w' w1) : Res w p w1 := by
  obtain ⟨u, hu⟩ := h.has
  have hl := h.lt
  exact ⟨⟨u, (hb.cell (by exact hl)).trans hu⟩, (hb.frozen (by exact hl)).trans h.free, h.below.trans (hb.mono h.below.size), h.new, Nat.lt_of_lt_of_le hl hb.size⟩
theorem Res.set {w : World} {p : Nat} {w' : World} (h : Res w p w') (v : Value) : Res w p (w'.setCell ⟨p, 0, none⟩ v) := by
  obtain ⟨u, hu⟩ := h.has
  exact ⟨⟨v, World.cell?_setCell_same _ _ _ hu⟩, (World.frozen?_setCell _ _ _ _).trans h.free, h.below.setCell h.new _, h.new, by simpa using h.lt⟩
theorem Res.res {w : World} {p : Nat} {w' : World} (h : Res w p w') (v : Value) : (w'.setCell ⟨p, 0, none⟩ v).cell? ⟨p, 0, none⟩ = some v := by
  obtain ⟨u, hu⟩ := h.has
  exact World.cell?_setCell_same _ _ _ hu
theorem of_null {w w' : World} {D : Dat} {b : Bool} (hb : Below w.heap.size w w') (h : b = true → D.kind = 1) : OfOut w D (.returned (.tuple #[.agg #[.nilIface], .bool b])) w' :=
  ⟨.nul, .nilIface, b, rfl, rfl, hb, fun _ => rfl, fun h' => (h h').symm⟩
set_option maxRecDepth 100000 in
set_option maxHeartbeats 3200000 in
theorem of_one (w : World) (D : Dat) (hD : D.kind = 1) (s : ByteArray) (n m : Nat) (i0 i1 : Bool) (A A' : Option Addr) (c c' : Nat) :
    Calls Tryz.prog 11 #[.agg #[.int .i64 1, .string s, .slice A n c, .slice A' m c', .bool i0, .bool i1]] w (OfOut w D) := by
  have HD := Lib.hid hD
  clear hD
  have hund : undef = Value.tuple #[] := rfl
  cases hs : s.toList.isEmpty with
  | false =>
    go_enter Tryz.func11, Tryz.ntmps11
    go_wp2_with fail
    go_region
    all_goals (try go_wp2)
    all_goals exact bodyPost_ret (v := .tuple #[.agg #[.nilIface], .bool false]) (by simp [results, Tryz.results11, go_sem]) rfl (of_null (by repeat (first | exact Below.refl _ _ | refine Below.drew ?_ | refine below_drewN ?_ _ | refine Below.alloc ?_ (by simp <;> omega) _ | refine Below.setCell ?_ (by simp <;> omega) _)) (fun _ => HD.out))
  | true =>
    by_cases hn : n = 0
    · subst hn
      by_cases hm : m = 0
      · subst hm
        go_enter Tryz.func11, Tryz.ntmps11
        go_wp2_with fail
        go_region
        all_goals (try go_wp2)
        all_goals exact bodyPost_ret (v := .tuple #[.agg #[.nilIface], .bool true]) (by simp [results, Tryz.results11, go_sem]) rfl (of_null (by repeat (first | exact Below.refl _ _ | refine Below.drew ?_ | refine below_drewN ?_ _ | refine Below.alloc ?_ (by simp <;> omega) _ | refine Below.setCell ?_ (by simp <;> omega) _)) (fun _ => HD.out))
      · have hm' : ((m : Int) == 0) = false := by rw [beq_eq_false_iff_ne]; omega
        go_enter Tryz.func11, Tryz.ntmps11
        go_wp2_with fail
        go_region
        all_goals (try go_wp2)
        all_goals exact bodyPost_ret (v := .tuple #[.agg #[.nilIface], .bool false]) (by simp [results, Tryz.results11, go_sem]) rfl (of_null (by repeat (first | exact Below.refl _ _ | refine Below.drew ?_ | refine below_drewN ?_ _ | refine Below.alloc ?_ (by simp <;> omega) _ | refine Below.setCell ?_ (by simp <;> omega) _)) (fun _ => HD.out))
    · have hn' : ((n : Int) == 0) = false := by rw [beq_eq_false_iff_ne]; omega
      go_enter Tryz.func11, Tryz.ntmps11
      go_wp2_with fail
      go_region
      all_goals (try go_wp2)
      all_goals exact bodyPost_ret (v := .tuple #[.agg #[.nilIface], .bool false]) (by simp [results, Tryz.results11, go_sem]) rfl (of_null (by repeat (first | exact Below.refl _ _ | refine Below.drew ?_ | refine below_drewN ?_ _ | refine Below.alloc ?_ (by simp <;> omega) _ | refine Below.setCell ?_ (by simp <;> omega) _)) (fun _ => HD.out))
end Go.Proofs.YthmogphlnjpakaaGreatDoor

namespace Go.Proofs.YthmogphlnjpakaaGreatDoor
open Go Go.Ord Go.Typ Go.RowKit
structure VRes (w : World) (p q : Nat) (x : Value) (w' : World) : Prop where
  at_ : w'.cell? ⟨q, 0, none⟩ = some x
  res : Res w p w'
  ne : p ≠ q
  lt : q < w'.heap.size
theorem VRes.drew {w : World} {p q : Nat} {x : Value} {w' : World} (h : VRes w p q x w') : VRes w p q x w'.drew := ⟨h.at_, h.res.drew, h.ne, h.lt⟩
theorem VRes.on {w : World} {p q : Nat} {x : Value} {w' w1 : World} (h : VRes w p q x w') (hb : Below w'.heap.size w' w1) : VRes w p q x w1 :=
  ⟨(hb.cell (by exact h.lt)).trans h.at_, h.res.on hb, h.ne, Nat.lt_of_lt_of_le h.lt hb.size⟩
theorem VRes.set {w : World} {p q : Nat} {x : Value} {w' : World} (h : VRes w p q x w') (v : Value) : VRes w p q x (w'.setCell ⟨p, 0, none⟩ v) :=
  ⟨(World.cell?_setCell_other _ _ _ _ (fun e => h.ne (by injection e))).trans h.at_, h.res.set v, h.ne, by simpa using h.lt⟩
theorem vres {w : World} {p q : Nat} {x : Value} {w' : World} (h : VRes w p q x w') : w'.cell? ⟨q, 0, none⟩ = some x ∧ w'.frozen? ⟨p, 0, none⟩ = false ∧ VRes w p q x w' := ⟨h.at_, h.res.free, h⟩
theorem VRes.out {w : World} {p q : Nat} {x : Value} {w' : World} (h : VRes w p q x w') (v : Value) : (w'.setCell ⟨p, 0, none⟩ v).cell? ⟨p, 0, none⟩ = some v := h.res.res v
theorem res_start (w : World) (o : Obj) : Res w (w.heap.size + 1) ((w.alloc o).alloc (.cells #[.nilIface] 30)) :=
  ⟨⟨.nilIface, by rw [World.cell?_alloc_at _ _ _ _ (by simp)]; rfl⟩, World.frozen?_alloc_at _ _ _ _ (by simp), box_two _ _ _, by omega, by simp⟩
theorem Res.alloc {w : World} {p : Nat} {w' : World} (h : Res w p w') (o : Obj) : Res w p (w'.alloc o) := h.on (box_one _ _)
theorem vres_new {w : World} {p : Nat} {w' : World} {x : Value} (h : Res w p w') : VRes w p w'.heap.size x (w'.alloc (.cells #[x] 30)) :=
  ⟨by rw [World.cell?_alloc_at _ _ _ _ rfl]; rfl, h.alloc _, by have := h.lt; omega, by simp⟩
theorem of_leaf_out {w w' : World} {D : Dat} {k : Int} {t : Nat} {y : Value} (hb : Below w.heap.size w w') (hl : LeafOk k t y) (hD : D.kind = k) : OfOut w D (.returned (.tuple #[.agg #[.iface t y], .bool true])) w' :=
  ⟨.leaf t y, .iface t y, true, rfl, ⟨rfl, k, hl⟩, hb, (fun h => nomatch h), fun _ => (kindV_leaf hl).trans hD.symm⟩
set_option maxRecDepth 100000 in
set_option maxHeartbeats 3200000 in
theorem of_some (w : World) (D : Dat) (k : Int) (s : ByteArray) (n m : Nat) (i0 i1 : Bool) (A A' : Option Addr) (c c' : Nat) (h1 : (k == 1) = false) (h10 : (k == 10) = false) (h11 : (k == 11) = false) (h12 : (k == 12) = false) (h : 0 < n ∨ 0 < m) :
    Calls Tryz.prog 11 #[.agg #[.int .i64 k, .string s, .slice A n c, .slice A' m c', .bool i0, .bool i1]] w (OfOut w D) := by
  by_cases hn : 0 < n
  · go_enter Tryz.func11, Tryz.ntmps11
    go_wp2_with fail
    exact bodyPost_ret (v := .tuple #[.agg #[.nilIface], .bool false]) (by simp [results, Tryz.results11, go_sem]) rfl (of_null (by repeat (first | exact Below.refl _ _ | refine Below.drew ?_ | refine below_drewN ?_ _ | refine Below.alloc ?_ (by simp <;> omega) _ | refine Below.setCell ?_ (by simp <;> omega) _)) (fun h => nomatch h))
  · have hm : 0 < m := by omega
    go_enter Tryz.func11, Tryz.ntmps11
    go_wp2_with fail
    exact bodyPost_ret (v := .tuple #[.agg #[.nilIface], .bool false]) (by simp [results, Tryz.results11, go_sem]) rfl (of_null (by repeat (first | exact Below.refl _ _ | refine Below.drew ?_ | refine below_drewN ?_ _ | refine Below.alloc ?_ (by simp <;> omega) _ | refine Below.setCell ?_ (by simp <;> omega) _)) (fun h => nomatch h))
set_option maxRecDepth 100000 in
set_option maxHeartbeats 3200000 in
theorem of_leaf {base : World} (E : Base0 base) (w : World) (hB : Below base.heap.size base w) (D : Dat) (k : Int) (hD : D.kind = k) (s : ByteArray) (hz : s.size ≤ 1048576) (i0 i1 : Bool) (A A' : Option Addr) (c c' : Nat) (h1 : (k == 1) = false) (h10 : (k == 10) = false) (h11 : (k == 11) = false) (h12 : (k == 12) = false) :
    Calls Tryz.prog 11 #[.agg #[.int .i64 k, .string s, .slice A 0 c, .slice A' 0 c', .bool i0, .bool i1]] w (OfOut w D) := by
  have HR := Lib.hid (fun (w' : World) (h : Below w.heap.size w w') => read_any E w' (hB.trans (h.mono hB.size)) k s hz)
  have HD := Lib.hid hD
  clear hD hz hB
  have R0 := res_start w (.cells #[.int .i64 k, .string s, .slice A 0 c, .slice A' 0 c', .bool i0, .bool i1] 35)
  go_enter Tryz.func11, Tryz.ntmps11
  go_wp2_with fail
  go_at_call 63
  refine (HR.out _ (box_two _ _ _)).mono ?_
  rintro e w1 ⟨x, rfl, hx, hb1⟩
  have R1 := R0.on hb1
  clear R0
  rcases hx with rfl | ⟨t, y, rfl, hl⟩
  · go_wp2_with fail
    have V1 := vres_new (x := .nilIface) R1
    clear R1
    first | (go_region_held3 (fun w' => w'.cell? ⟨w1.heap.size, 0, none⟩ = some .nilIface ∧ w'.frozen? ⟨w.heap.size + 1, 0, none⟩ = false ∧ VRes w (w.heap.size + 1) w1.heap.size .nilIface w')
      ((go_split_ands; first | exact vres V1.drew | exact vres (VRes.drew (by assumption)) | exact vres (VRes.on (by assumption) (by assumption)) | exact vres (by assumption) | exact vres (VRes.set (by assumption) _) | (refine ⟨?_, ?_, ?_⟩ <;> first | assumption | exact VRes.drew (by assumption) | go_keep)))
      (first
        | (go_at_call 16; go_split_ands; refine (null_nil _).mono ?_; rintro e w3 ⟨rfl, hb3⟩)
        | (go_split_ands; obtain ⟨uu, huu⟩ := Res.has (w := w) (p := w.heap.size + 1) (VRes.res (q := w1.heap.size) (x := .nilIface) (by assumption)); go_simp))) | fail
    all_goals go_split_ands
    all_goals go_wp2
    all_goals exact bodyPost_ret (v := .tuple #[.agg #[.nilIface], .bool false]) (by first | (simp [results, Tryz.results11, go_sem, VRes.out (w := w) (p := w.heap.size + 1) (q := w1.heap.size) (x := .nilIface) (by assumption)]; done) | (simp [results, Tryz.results11, go_sem, VRes.out V1]; done) | (simp [results, Tryz.results11, go_sem, *]; done)) rfl (of_null (VRes.res (w := w) (p := w.heap.size + 1) (q := w1.heap.size) (x := .nilIface) (by assumption)).below (fun h => nomatch h))
  · go_wp2_with fail
    have V1 := vres_new (x := (.iface t y)) R1
    clear R1
    first | (go_region_held3 (fun w' => w'.cell? ⟨w1.heap.size, 0, none⟩ = some (.iface t y) ∧ w'.frozen? ⟨w.heap.size + 1, 0, none⟩ = false ∧ VRes w (w.heap.size + 1) w1.heap.size (.iface t y) w')
      ((go_split_ands; first | exact vres V1.drew | exact vres (VRes.drew (by assumption)) | exact vres (VRes.on (by assumption) (by assumption)) | exact vres (by assumption) | exact vres (VRes.set (by assumption) _) | (refine ⟨?_, ?_, ?_⟩ <;> first | assumption | exact VRes.drew (by assumption) | go_keep)))
      (first
        | (go_at_call 16; go_split_ands; refine (null_iface _ t y).mono ?_; rintro e w3 ⟨rfl, hb3⟩)
        | (go_split_ands; obtain ⟨uu, huu⟩ := Res.has (w := w) (p := w.heap.size + 1) (VRes.res (q := w1.heap.size) (x := (.iface t y)) (by assumption)); go_simp))) | fail
    all_goals go_split_ands
    all_goals go_wp2
    all_goals exact bodyPost_ret (v := .tuple #[.agg #[.iface t y], .bool true]) (by first | (simp [results, Tryz.results11, go_sem, VRes.out (w := w) (p := w.heap.size + 1) (q := w1.heap.size) (x := (.iface t y)) (by assumption)]; done) | (simp [results, Tryz.results11, go_sem, VRes.out V1]; done) | (simp [results, Tryz.results11, go_sem, *]; done)) rfl (of_leaf_out (VRes.res (w := w) (p := w.heap.size + 1) (q := w1.heap.size) (x := (.iface t y)) (by assumption)).below hl HD.out)
end Go.Proofs.YthmogphlnjpakaaGreatDoor
