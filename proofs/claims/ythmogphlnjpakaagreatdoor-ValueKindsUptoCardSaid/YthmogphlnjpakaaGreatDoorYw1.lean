/-
  casuistlaw11.asked of any value.
  ValueKinds: the law.
-/
import Derived.Test.YthmogphlnjpakaaGreatDoorYu0
import Derived.Test.YthmogphlnjpakaaGreatDoorYu1
import Derived.Test.YthmogphlnjpakaaGreatDoorYu2
import Derived.Test.YthmogphlnjpakaaGreatDoorYu3
import Derived.Test.YthmogphlnjpakaaGreatDoorYu4
import Derived.Test.YthmogphlnjpakaaGreatDoorYs1
import Derived.Test.YthmogphlnjpakaaGreatDoorYq1
import Derived.Test.YthmogphlnjpakaaGreatDoorVs1
import Derived.Deep.RegionHeld3
import Derived.Lib.QuietBelow

namespace Go.Proofs.YthmogphlnjpakaaGreatDoor
open Go Go.Ord Go.Typ Go.RowKit
theorem asked_any {w0 : World} (V : Val) (x : Value) (h : IsVal w0 V x) (w : World) (hb : Below w0.heap.size w0 w) : Calls Tryz.prog 29 #[.agg #[x]] w (AskedOut w (kindV V)) := by
  rcases isVal_form h with rfl | ⟨t, u, rfl⟩
  · exact asked_0 V h w hb fun w' _ => by
      cases V with
      | nul => exact (asRange_nil w').mono fun e w2 ⟨h1, h2⟩ => ⟨_, _, ⟨_, _, rfl, rfl⟩, h1, h2⟩
      | leaf t y => exact absurd h.1 (by simp)
      | list n f => obtain ⟨A, c, e, _⟩ := h; cases e
      | ctx N f => obtain ⟨A, c, A', c', e, _⟩ := h; cases e
      | range a b i0 i1 => obtain ⟨y, z, e, _⟩ := h; cases e
      | func t y n => exact absurd h (by simp [IsVal])
  · rcases askRangeF V _ h w with hR | hR | hR | hR
    · exact asked_1 V t u h w hb hR
    · exact asked_2 V t u h w hb hR
    · exact asked_3 V t u h w hb hR
    · exact asked_4 V t u h w hb hR
end Go.Proofs.YthmogphlnjpakaaGreatDoor

namespace Go.Proofs.YthmogphlnjpakaaGreatDoor
open Go Go.Ord Go.Typ Go.RowKit
attribute [local irreducible] wpQuiet
theorem awake_later {base : World} (E : Base0 base) (hE : ErrAt base) (w : World) (hB : Below base.heap.size base w) : Calls Tryz.prog 10 #[] w (OneOut w (.bool true)) :=
  tot_later E.hs E.tab hB Tryz.func10 (by kernel_rfl) (fun _ h => by cases h) rfl (awake11_tot E.firm.begun (by kernel_rfl) hE)
theorem func_any (w : World) (s : ByteArray) (n : Int) : Calls Tryz.prog 30 #[.iface 9 (.string s), .int .i64 n] w (OneOut w (.agg #[.iface 138 (.agg #[.iface 9 (.string s), .int .i64 n])])) := by
  go_enter Tryz.func30, Tryz.ntmps30
  go_wp2
  exact bodyPost_ret (v := .agg #[.iface 138 (.agg #[.iface 9 (.string s), .int .i64 n])]) (by simp [results, Tryz.results30, go_sem]) rfl ⟨rfl, by (repeat (first | exact Below.refl _ _ | refine Below.alloc ?_ (by simp <;> omega) _ | refine Below.setCell ?_ (by simp <;> omega) _))⟩
structure LK (w : World) (k : Int) (s : ByteArray) (q : Nat) (x : Value) (wr : World) : Prop where
  c0 : wr.cell? ⟨w.heap.size, 0, none⟩ = some (.int .i64 k)
  c1 : wr.cell? ⟨w.heap.size, 1, none⟩ = some (.string s)
  c5 : wr.cell? ⟨q, 0, none⟩ = some x
  below : Below w.heap.size w wr
  hq : w.heap.size < q
  lt : q < wr.heap.size
theorem LK.on {w : World} {k : Int} {s : ByteArray} {q : Nat} {x : Value} {wr w1 : World} (h : LK w k s q x wr) (hb : Below wr.heap.size wr w1) : LK w k s q x w1 := by
  have h1 := h.hq
  have h2 := h.lt
  exact ⟨(hb.cell (by show w.heap.size < _; omega)).trans h.c0, (hb.cell (by show w.heap.size < _; omega)).trans h.c1, (hb.cell (by exact h2)).trans h.c5, h.below.trans (hb.mono h.below.size), h1, Nat.lt_of_lt_of_le h2 hb.size⟩
theorem LK.drew {w : World} {k : Int} {s : ByteArray} {q : Nat} {x : Value} {wr : World} (h : LK w k s q x wr) : LK w k s q x wr.drew := ⟨h.c0, h.c1, h.c5, h.below.drew, h.hq, h.lt⟩
theorem lks {w : World} {k : Int} {s : ByteArray} {q : Nat} {x : Value} {wr : World} (h : LK w k s q x wr) : wr.cell? ⟨w.heap.size, 0, none⟩ = some (.int .i64 k) ∧ wr.cell? ⟨q, 0, none⟩ = some x ∧ LK w k s q x wr := ⟨h.c0, h.c5, h⟩
structure LB (w : World) (d0 d1 d2 d3 d4 d5 : Value) (wr : World) : Prop where
  k0 : wr.cell? ⟨w.heap.size, 0, none⟩ = some d0
  k1 : wr.cell? ⟨w.heap.size, 1, none⟩ = some d1
  k2 : wr.cell? ⟨w.heap.size, 2, none⟩ = some d2
  k3 : wr.cell? ⟨w.heap.size, 3, none⟩ = some d3
  k4 : wr.cell? ⟨w.heap.size, 4, none⟩ = some d4
  k5 : wr.cell? ⟨w.heap.size, 5, none⟩ = some d5
  below : Below w.heap.size w wr
  lt : w.heap.size < wr.heap.size
theorem lb0 (w : World) (d0 d1 d2 d3 d4 d5 : Value) : LB w d0 d1 d2 d3 d4 d5 (w.alloc (.cells #[d0, d1, d2, d3, d4, d5] 35)) :=
  ⟨by rw [World.cell?_alloc_at _ _ _ _ rfl]; rfl, by rw [World.cell?_alloc_at _ _ _ _ rfl]; rfl, by rw [World.cell?_alloc_at _ _ _ _ rfl]; rfl, by rw [World.cell?_alloc_at _ _ _ _ rfl]; rfl, by rw [World.cell?_alloc_at _ _ _ _ rfl]; rfl, by rw [World.cell?_alloc_at _ _ _ _ rfl]; rfl, box_one _ _, by simp⟩
theorem LB.on {w : World} {d0 d1 d2 d3 d4 d5 : Value} {wr w1 : World} (h : LB w d0 d1 d2 d3 d4 d5 wr) (hb : Below wr.heap.size wr w1) : LB w d0 d1 d2 d3 d4 d5 w1 := by
  have l0 : ∀ i, wr.cell? ⟨w.heap.size, i, none⟩ = w1.cell? ⟨w.heap.size, i, none⟩ := fun i => (hb.cell (by exact h.lt)).symm
  exact ⟨(l0 0).symm.trans h.k0, (l0 1).symm.trans h.k1, (l0 2).symm.trans h.k2, (l0 3).symm.trans h.k3, (l0 4).symm.trans h.k4, (l0 5).symm.trans h.k5, h.below.trans (hb.mono h.below.size), Nat.lt_of_lt_of_le h.lt hb.size⟩
theorem lk_new {w : World} {k : Int} {s : ByteArray} {d2 d3 d4 d5 : Value} {wr : World} (h : LB w (.int .i64 k) (.string s) d2 d3 d4 d5 wr) (x : Value) : LK w k s wr.heap.size x (wr.alloc (.cells #[x] 30)) := by
  have h' := h.on (box_one wr (.cells #[x] 30))
  exact ⟨h'.k0, h'.k1, by rw [World.cell?_alloc_at _ _ _ _ rfl]; rfl, h'.below, h.lt, by simp⟩
theorem taStr (w : World) (s : ByteArray) : (Instr.typeAssert (.iface 9 (.string s)) 20 9 true).run Tryz.prog w = .ok (.tuple #[.string s, .bool true]) w := by kernel_rfl
theorem isVal_nul {ok : Nat → Prop} {w : World} {V : Val} (h : IsValP ok w V .nilIface) : V = .nul := by
  cases V with
  | nul => rfl
  | leaf t y => exact absurd h.1 (by simp)
  | list n f => obtain ⟨A, c, e, _⟩ := h; cases e
  | ctx N f => obtain ⟨A, c, A', c', e, _⟩ := h; cases e
  | range a b i0 i1 => obtain ⟨y, z, e, _⟩ := h; cases e
  | func t y n => exact absurd h (by simp [IsValP])
theorem kind_one_nul {V : Val} (h : kindV V = 1) : V = .nul := by
  cases e : isNul V with
  | true => cases V <;> first | rfl | cases e
  | false =>
    have := kind_not e
    rw [h] at this
    cases this
theorem lk_call {w : World} {k : Int} {s : ByteArray} {q : Nat} {x : Value} {wr : World} (_ : LK w k s q x wr) {f : FuncId} {args : Array Value} {v : Value} (h : ∀ w', Calls Tryz.prog f args w' (OneOut w' v)) (d : Nat) (os : Array Obj) :
    Calls Tryz.prog f args (Go.Sort.grow (redrawn wr d) os) fun e w'' => e = .returned v ∧ ∃ p : Regrown, w'' = Go.Sort.grow (redrawn wr p.d) p.os := Calls.regrown_of (h _)
set_option maxRecDepth 100000 in
set_option maxHeartbeats 6400000 in
theorem kinds_calls {base : World} (E : Base0 base) (hE : ErrAt base) (D : Dat) (v : Value) (hD : IsDat base D v) (n : Int) :
    Calls Tryz.prog 5 #[v, .int .i64 n] base (OneOut base (.bool true)) := by
  cases D with
  | nul => exact hD.elim
  | mk k s m f N i0 i1 =>
    have HOF := Lib.hid (fun (w' : World) (h : Below base.heap.size base w') => of_any E _ w' _ h (IsDat.keep h _ _ hD))
    have HAW := Lib.hid (fun (w' : World) (h : Below base.heap.size base w') => awake_later E hE w' h)
    obtain ⟨A, c, A', c', rfl, _⟩ := hD
    have L0 := lb0 base (.int .i64 k) (.string s) (.slice A m c) (.slice A' N.length c') (.bool i0) (.bool i1)
    clear E hE
    have hund : undef = Value.tuple #[] := rfl
    go_enter Tryz.func5, Tryz.ntmps5
    go_wp2_with (first
      | (go_at_call 10; refine (HAW.out _ L0.below).mono ?_; rintro e w1 ⟨rfl, hb1⟩; have L1 := L0.on hb1; have k0 := L1.k0; have k1 := L1.k1; have k2 := L1.k2; have k3 := L1.k3; have k4 := L1.k4; have k5 := L1.k5)
      | fail)
    go_at_call 11
    refine (HOF.out _ L1.below).mono ?_
    rintro e w2 ⟨V, x, ok, rfl, hV, hb2, hno, hyes⟩
    have L2 := L1.on hb2
    have HIV : IsVal w2 V x := IsValP.val _ _ hV
    have HF := Lib.hid (fun (w' : World) => asked_any (w0 := w') (.func 9 (.string s) n) (.iface 138 (.agg #[.iface 9 (.string s), .int .i64 n])) rfl w' (Below.refl _ _))
    have hts := fun w => taStr w s
    have L2k := Lib.hid L2
    have hcase : (V = .nul ∧ x = .nilIface ∧ (ok = false ∨ k = 1)) ∨ (ok = true ∧ k ≠ 1 ∧ kindV V = k ∧ isNul V = false ∧ ∃ t y, x = .iface t y) := by
      cases ok with
      | false =>
        have e := hno rfl
        subst e
        exact .inl ⟨rfl, hV, .inl rfl⟩
      | true =>
        have e : kindV V = k := hyes rfl
        by_cases hk : k = 1
        · have e' := kind_one_nul (e.trans hk)
          subst e'
          exact .inl ⟨rfl, hV, .inr hk⟩
        · refine .inr ⟨rfl, hk, e, ?_, ?_⟩
          · cases e' : isNul V with
            | true => exact absurd (e.symm.trans (kind_nul e')) hk
            | false => rfl
          · rcases isValP_form hV with rfl | h
            · have e' := isVal_nul hV
              subst e'
              exact absurd e.symm hk
            · exact h
    clear hno hyes
    have HA := Lib.hid (fun (w' : World) (h : Below w2.heap.size w2 w') => asked_any V x HIV w' h)
    have HN := Lib.hid (fun (w' : World) => null_any V x HIV w')
    have HK := Lib.hid (fun (w' : World) => kind_any V x HIV w')
    clear hV HIV k0 k1 k2 k3 k4 k5 L0 L1 L2 hb1 hb2
    have HF := Lib.hid (fun (w' : World) => (HF.out w' : Calls Tryz.prog 29 #[.agg #[.iface 138 (.agg #[.iface 9 (.string s), .int .i64 n])]] w' (OneOut w' (.tuple #[.int .i64 1, .int .i64 13]))))
    rcases hcase with ⟨rfl, rfl, hor⟩ | ⟨rfl, hk, hkv, hnul, t, y, rfl⟩
    · have K := lk_new L2k.out .nilIface
      have c0 := K.c0
      have c1 := K.c1
      have c5 := K.c5
      have HA := Lib.hid (fun (w' : World) (h : Below w2.heap.size w2 w') => (HA.out w' h : Calls Tryz.prog 29 #[.agg #[.nilIface]] w' (OneOut w' (.tuple #[.int .i64 0, .int .i64 1]))))
      have HN := Lib.hid (fun (w' : World) => (HN.out w' : Calls Tryz.prog 16 #[.agg #[.nilIface]] w' (OneOut w' (.bool true))))
      have HK := Lib.hid (fun (w' : World) => (HK.out w' : Calls Tryz.prog 18 #[.agg #[.nilIface]] w' (OneOut w' (.int .i64 1))))
      rcases hor with rfl | rfl
      · go_wp2_with (first
          | (go_at_call_of 29 (Value.agg #[Value.nilIface]); refine (HA.out _ (box_one _ _)).mono ?_; rintro e w4 ⟨rfl, hb4⟩; have K := K.on hb4; have c0 := K.c0; have c1 := K.c1; have c5 := K.c5)
          | (go_at_call_of 29 (Value.agg #[Value.iface 138 (Value.agg #[Value.iface 9 (Value.string s), Value.int IntKind.i64 n])]); refine (HF.out _).mono ?_; rintro e w4 ⟨rfl, hb4⟩; have K := K.on hb4; have c0 := K.c0; have c1 := K.c1; have c5 := K.c5)
          | (go_at_call 30; refine (func_any _ s n).mono ?_; rintro e w4 ⟨rfl, hb4⟩; have K := K.on hb4; have c0 := K.c0; have c1 := K.c1; have c5 := K.c5)
          | (go_at_call 31; refine (asFunc_yes _ _ _ n).mono ?_; rintro e w4 ⟨rfl, hb4⟩; have K := K.on hb4; have c0 := K.c0; have c1 := K.c1; have c5 := K.c5)
          | (go_at_call 16; refine (HN.out _).mono ?_; rintro e w4 ⟨rfl, hb4⟩; have K := K.on hb4; have c0 := K.c0; have c1 := K.c1; have c5 := K.c5)
          | (go_at_call 18; refine (HK.out _).mono ?_; rintro e w4 ⟨rfl, hb4⟩; have K := K.on hb4; have c0 := K.c0; have c1 := K.c1; have c5 := K.c5)
          | (go_at_call 21; refine (ordered_is ho _).mono ?_; rintro e w' ⟨rfl, rfl⟩)
          | fail)
        all_goals (first
          | (go_ret; exact ⟨rfl, K.below⟩)
          | exact bodyPost_ret (v := .bool true) (by simp [results, Tryz.results5, go_sem, *]) rfl ⟨rfl, K.below⟩)
      · go_wp2_with (first
          | (go_at_call_of 29 (Value.agg #[Value.nilIface]); refine (HA.out _ (box_one _ _)).mono ?_; rintro e w4 ⟨rfl, hb4⟩; have K := K.on hb4; have c0 := K.c0; have c1 := K.c1; have c5 := K.c5)
          | (go_at_call_of 29 (Value.agg #[Value.iface 138 (Value.agg #[Value.iface 9 (Value.string s), Value.int IntKind.i64 n])]); refine (HF.out _).mono ?_; rintro e w4 ⟨rfl, hb4⟩; have K := K.on hb4; have c0 := K.c0; have c1 := K.c1; have c5 := K.c5)
          | (go_at_call 30; refine (func_any _ s n).mono ?_; rintro e w4 ⟨rfl, hb4⟩; have K := K.on hb4; have c0 := K.c0; have c1 := K.c1; have c5 := K.c5)
          | (go_at_call 31; refine (asFunc_yes _ _ _ n).mono ?_; rintro e w4 ⟨rfl, hb4⟩; have K := K.on hb4; have c0 := K.c0; have c1 := K.c1; have c5 := K.c5)
          | (go_at_call 16; refine (HN.out _).mono ?_; rintro e w4 ⟨rfl, hb4⟩; have K := K.on hb4; have c0 := K.c0; have c1 := K.c1; have c5 := K.c5)
          | (go_at_call 18; refine (HK.out _).mono ?_; rintro e w4 ⟨rfl, hb4⟩; have K := K.on hb4; have c0 := K.c0; have c1 := K.c1; have c5 := K.c5)
          | (go_at_call 21; refine (ordered_is ho _).mono ?_; rintro e w' ⟨rfl, rfl⟩)
          | fail)
        all_goals (first
          | (go_ret; exact ⟨rfl, K.below⟩)
          | exact bodyPost_ret (v := .bool true) (by simp [results, Tryz.results5, go_sem, *]) rfl ⟨rfl, K.below⟩)
    · have K := lk_new L2k.out (.iface t y)
      have c0 := K.c0
      have c1 := K.c1
      have c5 := K.c5
      have ea : askN k = 1 := if_neg hk
      have HA := Lib.hid (fun (w' : World) (h : Below w2.heap.size w2 w') => (by have h1 := HA.out w' h; unfold AskedOut at h1; rw [hkv, ea] at h1; exact h1 : Calls Tryz.prog 29 #[.agg #[.iface t y]] w' (OneOut w' (.tuple #[.int .i64 1, .int .i64 k]))))
      have HN := Lib.hid (fun (w' : World) => (by have h1 := HN.out w'; rw [hnul] at h1; exact h1 : Calls Tryz.prog 16 #[.agg #[.iface t y]] w' (OneOut w' (.bool false))))
      have HK := Lib.hid (fun (w' : World) => (by have h1 := HK.out w'; rw [hkv] at h1; exact h1 : Calls Tryz.prog 18 #[.agg #[.iface t y]] w' (OneOut w' (.int .i64 k))))
      have hk1 : (k == 1) = false := beq_eq_false_iff_ne.2 hk
      clear ea hkv hnul
      by_cases h3 : 3 ≤ k
      · by_cases h9 : k ≤ 9
        · have ho : orderedK k = true := by simp [orderedK, h3, h9]
          go_wp2_with (first
          | (go_at_call_of 29 (Value.agg #[Value.iface t y]); refine (HA.out _ (box_one _ _)).mono ?_; rintro e w4 ⟨rfl, hb4⟩; have K := K.on hb4; have c0 := K.c0; have c1 := K.c1; have c5 := K.c5)
          | (go_at_call_of 29 (Value.agg #[Value.iface 138 (Value.agg #[Value.iface 9 (Value.string s), Value.int IntKind.i64 n])]); refine (HF.out _).mono ?_; rintro e w4 ⟨rfl, hb4⟩; have K := K.on hb4; have c0 := K.c0; have c1 := K.c1; have c5 := K.c5)
          | (go_at_call 30; refine (func_any _ s n).mono ?_; rintro e w4 ⟨rfl, hb4⟩; have K := K.on hb4; have c0 := K.c0; have c1 := K.c1; have c5 := K.c5)
          | (go_at_call 31; refine (asFunc_yes _ _ _ n).mono ?_; rintro e w4 ⟨rfl, hb4⟩; have K := K.on hb4; have c0 := K.c0; have c1 := K.c1; have c5 := K.c5)
          | (go_at_call 16; refine (HN.out _).mono ?_; rintro e w4 ⟨rfl, hb4⟩; have K := K.on hb4; have c0 := K.c0; have c1 := K.c1; have c5 := K.c5)
          | (go_at_call 18; refine (HK.out _).mono ?_; rintro e w4 ⟨rfl, hb4⟩; have K := K.on hb4; have c0 := K.c0; have c1 := K.c1; have c5 := K.c5)
          | (go_at_call 21; refine (ordered_is ho _).mono ?_; rintro e w' ⟨rfl, rfl⟩)
          | fail)
          first | (go_region_held3 (fun w' => w'.cell? ⟨base.heap.size, 0, none⟩ = some (.int .i64 k) ∧ w'.cell? ⟨w2.heap.size, 0, none⟩ = some (.iface t y) ∧ LK base k s w2.heap.size (.iface t y) w')
            ((go_split_ands; first | exact lks (LK.drew K) | exact lks (LK.drew (by assumption)) | exact lks (LK.on (by assumption) (by assumption)) | exact lks (by assumption) | (refine ⟨?_, ?_, ?_⟩ <;> first | assumption | exact LK.drew (by assumption) | go_keep)))
            (first
              | (go_at_call 16; go_split_ands; refine (HN.out _).mono ?_; rintro e w4 ⟨rfl, hb4⟩)
              | (go_at_call 18; go_split_ands; refine (HK.out _).mono ?_; rintro e w4 ⟨rfl, hb4⟩)
              | (go_at_call 21; go_split_ands; refine (ordered_is ho _).mono ?_; rintro e w' ⟨rfl, rfl⟩))) | fail
          all_goals go_split_ands
          all_goals go_wp2
          all_goals (first | (go_ret; exact ⟨rfl, LK.below (by assumption)⟩) | exact bodyPost_ret (v := .bool true) (by simp [results, Tryz.results5, go_sem, *]) rfl ⟨rfl, LK.below (k := k) (s := s) (q := w2.heap.size) (x := .iface t y) (by assumption)⟩)
        · have ho : orderedK k = false := by simp [orderedK, h9]
          go_wp2_with (first
          | (go_at_call_of 29 (Value.agg #[Value.iface t y]); refine (HA.out _ (box_one _ _)).mono ?_; rintro e w4 ⟨rfl, hb4⟩; have K := K.on hb4; have c0 := K.c0; have c1 := K.c1; have c5 := K.c5)
          | (go_at_call_of 29 (Value.agg #[Value.iface 138 (Value.agg #[Value.iface 9 (Value.string s), Value.int IntKind.i64 n])]); refine (HF.out _).mono ?_; rintro e w4 ⟨rfl, hb4⟩; have K := K.on hb4; have c0 := K.c0; have c1 := K.c1; have c5 := K.c5)
          | (go_at_call 30; refine (func_any _ s n).mono ?_; rintro e w4 ⟨rfl, hb4⟩; have K := K.on hb4; have c0 := K.c0; have c1 := K.c1; have c5 := K.c5)
          | (go_at_call 31; refine (asFunc_yes _ _ _ n).mono ?_; rintro e w4 ⟨rfl, hb4⟩; have K := K.on hb4; have c0 := K.c0; have c1 := K.c1; have c5 := K.c5)
          | (go_at_call 16; refine (HN.out _).mono ?_; rintro e w4 ⟨rfl, hb4⟩; have K := K.on hb4; have c0 := K.c0; have c1 := K.c1; have c5 := K.c5)
          | (go_at_call 18; refine (HK.out _).mono ?_; rintro e w4 ⟨rfl, hb4⟩; have K := K.on hb4; have c0 := K.c0; have c1 := K.c1; have c5 := K.c5)
          | (go_at_call 21; refine (ordered_is ho _).mono ?_; rintro e w' ⟨rfl, rfl⟩)
          | fail)
          first | (go_region_held3 (fun w' => w'.cell? ⟨base.heap.size, 0, none⟩ = some (.int .i64 k) ∧ w'.cell? ⟨w2.heap.size, 0, none⟩ = some (.iface t y) ∧ LK base k s w2.heap.size (.iface t y) w')
            ((go_split_ands; first | exact lks (LK.drew K) | exact lks (LK.drew (by assumption)) | exact lks (LK.on (by assumption) (by assumption)) | exact lks (by assumption) | (refine ⟨?_, ?_, ?_⟩ <;> first | assumption | exact LK.drew (by assumption) | go_keep)))
            (first
              | (go_at_call 16; go_split_ands; refine (HN.out _).mono ?_; rintro e w4 ⟨rfl, hb4⟩)
              | (go_at_call 18; go_split_ands; refine (HK.out _).mono ?_; rintro e w4 ⟨rfl, hb4⟩)
              | (go_at_call 21; go_split_ands; refine (ordered_is ho _).mono ?_; rintro e w' ⟨rfl, rfl⟩))) | fail
          all_goals go_split_ands
          all_goals go_wp2
          all_goals (first | (go_ret; exact ⟨rfl, LK.below (by assumption)⟩) | exact bodyPost_ret (v := .bool true) (by simp [results, Tryz.results5, go_sem, *]) rfl ⟨rfl, LK.below (k := k) (s := s) (q := w2.heap.size) (x := .iface t y) (by assumption)⟩)
      · have ho : orderedK k = false := by simp [orderedK, h3]
        go_wp2_with (first
          | (go_at_call_of 29 (Value.agg #[Value.iface t y]); refine (HA.out _ (box_one _ _)).mono ?_; rintro e w4 ⟨rfl, hb4⟩; have K := K.on hb4; have c0 := K.c0; have c1 := K.c1; have c5 := K.c5)
          | (go_at_call_of 29 (Value.agg #[Value.iface 138 (Value.agg #[Value.iface 9 (Value.string s), Value.int IntKind.i64 n])]); refine (HF.out _).mono ?_; rintro e w4 ⟨rfl, hb4⟩; have K := K.on hb4; have c0 := K.c0; have c1 := K.c1; have c5 := K.c5)
          | (go_at_call 30; refine (func_any _ s n).mono ?_; rintro e w4 ⟨rfl, hb4⟩; have K := K.on hb4; have c0 := K.c0; have c1 := K.c1; have c5 := K.c5)
          | (go_at_call 31; refine (asFunc_yes _ _ _ n).mono ?_; rintro e w4 ⟨rfl, hb4⟩; have K := K.on hb4; have c0 := K.c0; have c1 := K.c1; have c5 := K.c5)
          | (go_at_call 16; refine (HN.out _).mono ?_; rintro e w4 ⟨rfl, hb4⟩; have K := K.on hb4; have c0 := K.c0; have c1 := K.c1; have c5 := K.c5)
          | (go_at_call 18; refine (HK.out _).mono ?_; rintro e w4 ⟨rfl, hb4⟩; have K := K.on hb4; have c0 := K.c0; have c1 := K.c1; have c5 := K.c5)
          | (go_at_call 21; refine (ordered_is ho _).mono ?_; rintro e w' ⟨rfl, rfl⟩)
          | fail)
        have hd3 : decide (3 ≤ k) = false := decide_eq_false (by omega)
        have h3f : (3 ≤ k) = False := eq_false (by omega)
        have k0 := cell_regrown K.c0
        have k1 := cell_regrown K.c5
        have cA := lk_call K HN.out
        have cB := lk_call K HK.out
        have cE := lk_call K fun w' => (ordered_is ho w').mono fun e w'' (h : _ ∧ _) => (⟨h.1, h.2 ▸ Below.refl _ _⟩ : OneOut w' _ e w'')
        refine wp_region_quiet_below (by kernel_rfl) (by kernel_rfl) ?_
        repeat (quiet_step (first | (go_at_call 16; exact cA _ _) | (go_at_call 18; exact cB _ _) | (go_at_call 21; exact cE _ _)))
        refine wpQuiet_nil ?_
        intro _ hw'
        obtain ⟨⟨dq, osq⟩, hw''⟩ := hw'
        subst hw''
        have K := K.on (below_regrown _ dq osq)
        go_wp2
        first | (go_ret; exact ⟨rfl, K.below⟩) | exact bodyPost_ret (v := .bool true) (by simp [results, Tryz.results5, go_sem, *]) rfl ⟨rfl, K.below⟩
end Go.Proofs.YthmogphlnjpakaaGreatDoor
