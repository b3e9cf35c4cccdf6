/-
  value.of: a list (printed by mkof.py).
  Contexts of values that were read.
-/
import Derived.Test.YthmogphlnjpakaaGreatDoorTb1
import Derived.Deep.RegionHeld3

namespace Go.Proofs.YthmogphlnjpakaaGreatDoor
open Go Go.Ord Go.Typ Go.RowKit
set_option maxRecDepth 100000 in
set_option maxHeartbeats 6400000 in
theorem of_list {base : World} (E : Base0 base) (n : Nat) (f : Nat → Dat) (hIH : ∀ (j : Nat) (w' : World) (v : Value), Below base.heap.size base w' → IsDat w' (f j) v → Calls Tryz.prog 11 #[v] w' (OfOut w' (f j)))
    (w : World) (hB : Below base.heap.size base w) (s : ByteArray) (A A' : Option Addr) (c c' m : Nat) (i0 i1 : Bool) (D : Dat) (hD : D.kind = 10) (hn : n ≤ 1048576) (hrow : DatRow w A n f) :
    Calls Tryz.prog 62 #[.agg #[.int .i64 10, .string s, .slice A n c, .slice A' m c', .bool i0, .bool i1]] w (OfOut w D) := by
  have HIH := Lib.hid hIH
  have HROW := Lib.hid hrow
  have HB := Lib.hid (fun (w' : World) (h : Below w.heap.size w w') => hB.trans (h.mono hB.size))
  have HD := Lib.hid hD
  clear hIH hrow hB hD
  have hund : undef = Value.tuple #[] := rfl
  cases hs : s.toList.isEmpty with
  | false =>
    go_enter Tryz.func62, Tryz.ntmps62
    go_wp2_with fail
    exact bodyPost_ret (v := .tuple #[.agg #[.nilIface], .bool false]) (by first | (simp [results, Tryz.results62, go_sem]; done) | (simp [results, Tryz.results62, go_sem, *]; done)) rfl (of_null (by repeat (first | exact Below.refl _ _ | assumption | refine Below.drew ?_ | refine below_drewN ?_ _ | refine Below.alloc ?_ (by first | omega | simp <;> omega) _ | refine Below.setCell ?_ (by first | omega | simp <;> omega) _)) (fun h => nomatch h))
  | true =>
    by_cases hm : 0 < m
    · go_enter Tryz.func62, Tryz.ntmps62
      go_wp2_with fail
      exact bodyPost_ret (v := .tuple #[.agg #[.nilIface], .bool false]) (by first | (simp [results, Tryz.results62, go_sem]; done) | (simp [results, Tryz.results62, go_sem, *]; done)) rfl (of_null (by repeat (first | exact Below.refl _ _ | assumption | refine Below.drew ?_ | refine below_drewN ?_ _ | refine Below.alloc ?_ (by first | omega | simp <;> omega) _ | refine Below.setCell ?_ (by first | omega | simp <;> omega) _)) (fun h => nomatch h))
    · obtain rfl : m = 0 := by omega
      have D0 := dbox0 w (.int .i64 10) (.string s) (.slice A n c) (.slice A' 0 c') (.bool i0) (.bool i1)
      have V0 := fun wr => vals0 (w.heap.size + 2) wr
      obtain ⟨i0', hi, hz0, hz1, hz2⟩ := info_parts info_val
      go_enter Tryz.func62, Tryz.ntmps62
      go_wp2_with fail
      go_loopw [4, 28] (fun v i wr => ∃ (j : Nat) (xs : List Value) (fV : Nat → Val), j ≤ n ∧ i = .int .i64 j ∧ DBox w (.int .i64 10) (.string s) (.slice A n c) (.slice A' 0 c') (.bool i0) (.bool i1) wr ∧ Vals (w.heap.size + 2) j v xs fV wr) (fun _ i _ => n - (intOf i).toNat)
      case atStart => exact ⟨0, [], (fun _ => .nul), Nat.zero_le _, rfl, D0, V0 _⟩
      case round =>
        clear D0 V0
        obtain ⟨j, xs, fV, hj, rfl, DB, VS⟩ := hrel
        by_cases hlt : j < n
        · obtain ⟨b, off, c0, c1, c2, c3, c4, c5, rfl, hbl, k0, k1, k2, k3, k4, k5, hd⟩ := HROW.out j hlt
          have HIT := Lib.hid (fun (w' : World) (h : Below wr.heap.size wr w') => HIH.out j w' _ (HB.out w' (DB.below.trans (h.mono DB.below.size))) (IsDat.keep (DB.below.trans (h.mono DB.below.size)) _ _ hd))
          have k0 := (DB.below.cell (by exact hbl)).trans k0
          have k1 := (DB.below.cell (by exact hbl)).trans k1
          have k2 := (DB.below.cell (by exact hbl)).trans k2
          have k3 := (DB.below.cell (by exact hbl)).trans k3
          have k4 := (DB.below.cell (by exact hbl)).trans k4
          have k5 := (DB.below.cell (by exact hbl)).trans k5
          obtain ⟨k', s', B1, n1, e1, B2, n2, e2, j0, j1, rfl, rfl, rfl, rfl, rfl, rfl⟩ := isDat_form hd
          clear hd
          go_wp2_with fail
          go_at_call 11
          refine (HIT.out _ (by repeat (first | exact Below.refl _ _ | assumption | refine Below.drew ?_ | refine below_drewN ?_ _ | refine Below.alloc ?_ (by first | omega | simp <;> omega) _ | refine Below.setCell ?_ (by first | omega | simp <;> omega) _))).mono ?_
          rintro e w1 ⟨V, x, ok, rfl, hV, hb1, hno, hyes⟩
          have hbW : Below wr.heap.size wr w1 := Below.trans (by repeat (first | exact Below.refl _ _ | assumption | refine Below.drew ?_ | refine below_drewN ?_ _ | refine Below.alloc ?_ (by first | omega | simp <;> omega) _ | refine Below.setCell ?_ (by first | omega | simp <;> omega) _)) (hb1.mono (by simp))
          have D1 := DB.on (hbW.mono DB.two)
          have HV := Lib.hid (IsValP.below (Below.refl _ w1) (ok' := fun b => wr.heap.size ≤ b) (fun b h _ => by simp at h; omega) _ _ hV)
          have HW := Lib.hid hbW
          have HO := Lib.hid (own_on VS.own hbW)
          have r1 := fun o => (D1.on ((Below.refl (w.heap.size + 2) w1).alloc D1.two o)).r
          have f1 := fun o => (D1.on ((Below.refl (w.heap.size + 2) w1).alloc D1.two o)).f
          have s1 := D1.two
          have b1 := D1.below
          have HF := isValP_form hV
          clear hV hbW hb1 hyes k0 k1 k2 k3 k4 k5
          cases ok with
          | false =>
            rcases HF with rfl | ⟨t, y, rfl⟩
            all_goals go_wp2_with fail
            all_goals exact bodyPost_ret (v := .tuple #[.agg #[.nilIface], .bool false]) (by first | (simp [results, Tryz.results62, go_sem]; done) | (simp [results, Tryz.results62, go_sem, *]; done)) rfl (of_null (by repeat (first | exact Below.refl _ _ | assumption | refine Below.drew ?_ | refine below_drewN ?_ _ | refine Below.alloc ?_ (by first | omega | simp <;> omega) _ | refine Below.setCell ?_ (by first | omega | simp <;> omega) _)) (fun h => nomatch h))
          | true =>
            clear hno r1 f1
            rcases HF with rfl | ⟨t, y, rfl⟩
            · go_wp2_with (at_builtin; refine wpList_append_own_at _ rfl _ _ 26 rfl (w.heap.size + 2) 30 i0' (.agg #[.nilIface]) 1 16 Tryz.underlying26 hi hz0 hz1 hz2 rfl (by decide) _ _ _ rfl ((HO.out.alloc _).alloc _) _ 1 1 [.nilIface] rfl rfl ?qc1 ?qc2 ?qc3 ?qc4 ?qc5 ?_)
              case qc1 => have h := cell_one_new (w1.alloc (.cells #[.nilIface] 30)) (.nilIface) 30; simp only [World.size_alloc] at h; exact h
              case qc2 => intro u hu; simp at hu; subst hu; rfl
              case qc3 => unfold maxLen; omega
              case qc4 => omega
              case qc5 => simp; omega
              intro v' w2 hown2 hgrow _ hat
              have V2 := Vals.step VS (Nat.le_trans DB.two (Nat.le_refl _)) HW.out HV.out (by repeat (first | exact Below.refl _ _ | assumption | refine Below.drew ?_ | refine below_drewN ?_ _ | refine Below.alloc ?_ (by first | omega | simp <;> omega) _ | refine Below.setCell ?_ (by first | omega | simp <;> omega) _)) hgrow (by simp only [World.size_alloc]; exact hat) hown2
              have D2 := D1.on (Below.grown (by repeat (first | exact Below.refl _ _ | assumption | refine Below.drew ?_ | refine below_drewN ?_ _ | refine Below.alloc ?_ (by first | omega | simp <;> omega) _ | refine Below.setCell ?_ (by first | omega | simp <;> omega) _)) hgrow (by simp; omega) (fun k hk => (HO.out.lt k hk).1))
              clear hown2 hgrow hat
              go_wp2_with fail
              go_roundw
              case rel => (repeat apply Exists.intro); exact ⟨⟨j + 1, _, _, by omega, by go_num, D2, V2⟩, rfl⟩
              case measure => simp [intOf]; omega
            · go_wp2_with (at_builtin; refine wpList_append_own_at _ rfl _ _ 26 rfl (w.heap.size + 2) 30 i0' (.agg #[.nilIface]) 1 16 Tryz.underlying26 hi hz0 hz1 hz2 rfl (by decide) _ _ _ rfl ((HO.out.alloc _).alloc _) _ 1 1 [.iface t y] rfl rfl ?qc1 ?qc2 ?qc3 ?qc4 ?qc5 ?_)
              case qc1 => have h := cell_one_new (w1.alloc (.cells #[.iface t y] 30)) (.iface t y) 30; simp only [World.size_alloc] at h; exact h
              case qc2 => intro u hu; simp at hu; subst hu; rfl
              case qc3 => unfold maxLen; omega
              case qc4 => omega
              case qc5 => simp; omega
              intro v' w2 hown2 hgrow _ hat
              have V2 := Vals.step VS (Nat.le_trans DB.two (Nat.le_refl _)) HW.out HV.out (by repeat (first | exact Below.refl _ _ | assumption | refine Below.drew ?_ | refine below_drewN ?_ _ | refine Below.alloc ?_ (by first | omega | simp <;> omega) _ | refine Below.setCell ?_ (by first | omega | simp <;> omega) _)) hgrow (by simp only [World.size_alloc]; exact hat) hown2
              have D2 := D1.on (Below.grown (by repeat (first | exact Below.refl _ _ | assumption | refine Below.drew ?_ | refine below_drewN ?_ _ | refine Below.alloc ?_ (by first | omega | simp <;> omega) _ | refine Below.setCell ?_ (by first | omega | simp <;> omega) _)) hgrow (by simp; omega) (fun k hk => (HO.out.lt k hk).1))
              clear hown2 hgrow hat
              go_wp2_with fail
              go_roundw
              case rel => (repeat apply Exists.intro); exact ⟨⟨j + 1, _, _, by omega, by go_num, D2, V2⟩, rfl⟩
              case measure => simp [intOf]; omega
        · obtain rfl : j = n := by omega
          clear hj hlt
          obtain ⟨A9, c9, rfl, g1, g2, hrow9⟩ := (own_row VS.own).2
          have HL := Lib.hid VS.len
          have HV9 := Lib.hid VS
          have k0 := fun o => (DB.on ((Below.refl (w.heap.size + 2) wr).alloc DB.two o)).k0
          have k3 := fun o => (DB.on ((Below.refl (w.heap.size + 2) wr).alloc DB.two o)).k3
          have H1 := Lib.hid VS.one
          have HR9 := Lib.hid hrow9
          have s0 := DB.two
          clear hrow9
          clear VS
          go_wp2_with (go_at_call 12; refine (list_f _ A9 c9 _ xs HL.out hn H1.out (HR9.out.keep (by repeat (first | exact Below.refl _ _ | assumption | refine Below.drew ?_ | refine below_drewN ?_ _ | refine Below.alloc ?_ (by first | omega | simp <;> omega) _ | refine Below.setCell ?_ (by first | omega | simp <;> omega) _)))).mono ?_; rintro e w1 ⟨A1, c1, rfl, g3, g4, hrow1, hb1, hfr1⟩; have hq1 : w1.cell? ⟨wr.heap.size, 0, none⟩ = some .nilIface := (hb1.cell (p := ⟨wr.heap.size, 0, none⟩) (by simp)).trans ((World.cell?_alloc_new wr _ _ 0).trans rfl); have hf1 : w1.frozen? ⟨wr.heap.size, 0, none⟩ = false := (hb1.frozen (p := ⟨wr.heap.size, 0, none⟩) (by simp)).trans (World.frozen?_alloc_new wr _ _ 0))
          have bW : Below wr.heap.size wr w1 := Below.trans (by repeat (first | exact Below.refl _ _ | assumption | refine Below.drew ?_ | refine below_drewN ?_ _ | refine Below.alloc ?_ (by first | omega | simp <;> omega) _ | refine Below.setCell ?_ (by first | omega | simp <;> omega) _)) (hb1.mono (by simp))
          have D1 := DB.on (bW.mono s0)
          have q9 : (w1.setCell ⟨wr.heap.size, 0, none⟩ (.iface 95 (.slice A1 xs.length c1))).cell? ⟨wr.heap.size, 0, none⟩ = some (.iface 95 (.slice A1 xs.length c1)) := World.cell?_setCell_same _ _ _ hq1
          have D9 := D1.on (Below.setCell (p := ⟨wr.heap.size, 0, none⟩) (Below.refl _ w1) s0 (.iface 95 (.slice A1 xs.length c1)))
          have T9 := D9.tres q9 s0
          have HVL := Lib.hid (isVal_list HV9.out hn g3 g4 (hrow1.set (p := ⟨wr.heap.size, 0, none⟩) (fun b off e => by have := hfr1 b off none e; simp at this; show b ≠ wr.heap.size; omega) (.iface 95 (.slice A1 xs.length c1))) (fun b off s e => by have := hfr1 b off s e; simp at this; omega) (Below.setCell (p := ⟨wr.heap.size, 0, none⟩) bW (Nat.le_refl _) _))
          clear hrow1 hfr1 hb1 bW k0 k3 DB D1 D9 hq1 hf1
          first | (go_region_held3 (fun w' => w'.cell? ⟨wr.heap.size, 0, none⟩ = some (.iface 95 (.slice A1 xs.length c1)) ∧ w'.frozen? ⟨w.heap.size + 1, 0, none⟩ = false ∧ TRes w (wr.heap.size) (.iface 95 (.slice A1 xs.length c1)) (w1.setCell ⟨wr.heap.size, 0, none⟩ (.iface 95 (.slice A1 xs.length c1))) w')
            ((go_split_ands; first | exact tres T9.drew | exact tres (TRes.drew (by assumption)) | exact tres (TRes.on (by assumption) (by assumption)) | exact tres (by assumption) | exact tres (TRes.set (by assumption) _) | (refine ⟨?_, ?_, ?_⟩ <;> first | assumption | exact TRes.drew (by assumption) | go_keep)))
            (first
              | (go_at_call 16; go_split_ands; refine (null_iface _ _ _).mono ?_; rintro e w3 ⟨rfl, hb3⟩)
              | (go_split_ands; obtain ⟨uu, huu⟩ := Res.has (w := w) (p := w.heap.size + 1) (TRes.res (w := w) (q := (wr.heap.size)) (x := (.iface 95 (.slice A1 xs.length c1))) (w9 := (w1.setCell ⟨wr.heap.size, 0, none⟩ (.iface 95 (.slice A1 xs.length c1)))) (by assumption)); go_simp))) | fail
          all_goals go_split_ands
          all_goals go_wp2
          all_goals exact bodyPost_ret (v := .tuple #[.agg #[.iface 95 (.slice A1 xs.length c1)], .bool true]) (by first | (simp [results, Tryz.results62, go_sem, TRes.out (w := w) (q := (wr.heap.size)) (x := (.iface 95 (.slice A1 xs.length c1))) (w9 := (w1.setCell ⟨wr.heap.size, 0, none⟩ (.iface 95 (.slice A1 xs.length c1)))) (by assumption)]; done) | (simp [results, Tryz.results62, go_sem, TRes.out T9]; done) | (simp [results, Tryz.results62, go_sem, *]; done)) rfl ⟨.list j fV, .iface 95 (.slice A1 xs.length c1), true, rfl, TRes.val (w := w) (q := (wr.heap.size)) (x := (.iface 95 (.slice A1 xs.length c1))) (w9 := (w1.setCell ⟨wr.heap.size, 0, none⟩ (.iface 95 (.slice A1 xs.length c1)))) (by assumption) HVL.out, (TRes.res (w := w) (q := (wr.heap.size)) (x := (.iface 95 (.slice A1 xs.length c1))) (w9 := (w1.setCell ⟨wr.heap.size, 0, none⟩ (.iface 95 (.slice A1 xs.length c1)))) (by assumption)).below, (fun h => nomatch h), fun _ => HD.out.symm⟩
end Go.Proofs.YthmogphlnjpakaaGreatDoor

namespace Go.Proofs.YthmogphlnjpakaaGreatDoor
open Go Go.Ord Go.Typ Go.RowKit
theorem strs_set {w : World} {A : Option Addr} {N : List ByteArray} (h : Strs w A N) {p : Addr} (hp : ∀ b off s, A = some ⟨b, off, s⟩ → b ≠ p.block) (u : Value) : Strs (w.setCell p u) A N := fun j hj => by
  obtain ⟨b, off, e, hb, hc⟩ := h j hj
  exact ⟨b, off, e, by simpa using hb, (World.cell?_setCell_other w p _ u (fun e' => hp b off none e (by subst e'; rfl))).trans hc⟩
theorem isVal_ctx {B n : Nat} {v : Value} {xs : List Value} {fV : Nat → Val} {wr w' : World} {A1 A2 : Option Addr} {c1 c2 : Nat} {N : List ByteArray} (h : Vals B n v xs fV wr) (hl : N.length = xs.length) (hN : N.length ≤ 1048576) (g1 : N.length ≤ c1) (g2 : c1 ≤ 9223372036854775807) (g3 : xs.length ≤ c2) (g4 : c2 ≤ 9223372036854775807)
    (hS : Strs w' A1 N) (hf1 : ∀ b off s, A1 = some ⟨b, off, s⟩ → B ≤ b) (hr : RowOf w' A2 xs) (hf2 : ∀ b off s, A2 = some ⟨b, off, s⟩ → B ≤ b) (hb : Below wr.heap.size wr w') :
    IsValP (fun b => B ≤ b) w' (.ctx N fV) (.iface 101 (.agg #[.slice A1 N.length c1, .slice A2 xs.length c2])) := by
  have hx := h.len
  refine ⟨A1, c1, A2, c2, by rw [hl], hN, g1, g2, by omega, g4, ⟨hS, fun b off s e _ => hf1 b off s e⟩, fun j hj => ?_⟩
  obtain ⟨b, off, e, hlt, hc⟩ := hr j (by omega)
  exact ⟨b, off, _, e, ⟨hf2 b off none e, hlt⟩, hc, IsValP.below hb (fun b h _ => h.1) _ _ (h.vals j (by omega))⟩
theorem namesOk_len {N : List ByteArray} {n : Nat} (h : namesOk N n = true) : N.length = n := by
  unfold namesOk at h
  simp at h
  exact h.1
end Go.Proofs.YthmogphlnjpakaaGreatDoor
