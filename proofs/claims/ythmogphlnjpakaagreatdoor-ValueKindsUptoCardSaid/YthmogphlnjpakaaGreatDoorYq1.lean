/-
  value.Range, of any two values; contexts of values.
  value.of: a range (printed by mkof.py).
-/
import Derived.Test.YthmogphlnjpakaaGreatDoorYi1
import Derived.Test.YthmogphlnjpakaaGreatDoorYj1
import Derived.Test.YthmogphlnjpakaaGreatDoorYj2
import Derived.Test.YthmogphlnjpakaaGreatDoorYj3
import Derived.Test.YthmogphlnjpakaaGreatDoorYj4
import Derived.Test.YthmogphlnjpakaaGreatDoorYj5
import Derived.Test.YthmogphlnjpakaaGreatDoorYj6
import Derived.Test.YthmogphlnjpakaaGreatDoorYj7
import Derived.Test.YthmogphlnjpakaaGreatDoorTb1
import Derived.Deep.RegionHeld3

namespace Go.Proofs.YthmogphlnjpakaaGreatDoor
open Go Go.Ord Go.Typ Go.RowKit
theorem kind_nul {V : Val} (h : isNul V = true) : kindV V = 1 := by
  cases V <;> first | rfl | cases h
theorem kind_not {V : Val} (h : isNul V = false) : (kindV V != 1) = true := by
  cases V with
  | nul => cases h
  | leaf t y =>
    simp only [kindV]
    repeat' split
    all_goals rfl
  | list n f => rfl
  | ctx N f => rfl
  | range a b i0 i1 => rfl
  | func t y n => rfl
def RangeZ (x y z : Value) : Prop := z = .nilIface ∨ ∃ j0 j1, z = .iface 111 (.agg #[x, y, .bool j0, .bool j1])
theorem range_any {w0 : World} (V1 V2 : Val) (x y : Value) (h1 : IsVal w0 V1 x) (h2 : IsVal w0 V2 y) (i0 i1 : Bool) :
    ∃ z, RangeZ x y z ∧ ∀ w, Calls Tryz.prog 19 #[.agg #[x], .agg #[y], .agg #[.bool i0, .bool i1]] w (OneOut w (.agg #[z])) := by
  have K1 := kind_any V1 x h1
  have K2 := kind_any V2 y h2
  have N1 := null_any V1 x h1
  have N2 := null_any V2 y h2
  cases e1 : isNul V1 with
  | false =>
    rw [e1] at N1
    cases e2 : isNul V2 with
    | false =>
      rw [e2] at N2
      by_cases hk : kindV V2 = kindV V1
      · rw [hk] at K2
        cases ho : orderedK (kindV V1) with
        | true => exact ⟨_, .inr ⟨_, _, rfl⟩, fun w => range_FFo w x y _ i0 i1 K1 K2 N1 N2 ho⟩
        | false => exact ⟨_, .inl rfl, fun w => range_FFu w x y _ i0 i1 K1 K2 N1 N2 ho (kind_not e1)⟩
      · exact ⟨_, .inl rfl, fun w => range_FFn w x y _ _ i0 i1 K1 K2 N1 N2 (by simpa using hk)⟩
    | true =>
      rw [e2] at N2
      rw [kind_nul e2] at K2
      cases ho : orderedK (kindV V1) with
      | true => exact ⟨_, .inr ⟨_, _, rfl⟩, fun w => range_FTo w x y _ i0 i1 K1 K2 N1 N2 ho⟩
      | false => exact ⟨_, .inl rfl, fun w => range_FTu w x y _ i0 i1 K1 K2 N1 N2 ho (kind_not e1)⟩
  | true =>
    rw [e1] at N1
    rw [kind_nul e1] at K1
    cases e2 : isNul V2 with
    | false =>
      rw [e2] at N2
      cases ho : orderedK (kindV V2) with
      | true => exact ⟨_, .inr ⟨_, _, rfl⟩, fun w => range_TFo w x y _ i0 i1 K1 K2 N1 N2 ho⟩
      | false => exact ⟨_, .inl rfl, fun w => range_TFu w x y _ i0 i1 K1 K2 N1 N2 ho (kind_not e2)⟩
    | true =>
      rw [e2] at N2
      rw [kind_nul e2] at K2
      exact ⟨_, .inr ⟨_, _, rfl⟩, fun w => range_TT w x y i0 i1 K1 K2 N1 N2⟩
theorem cell_set_has {w : World} {a : Addr} {v : Value} (h : ∃ u, (w.setCell a v).cell? a = some u) : (w.setCell a v).cell? a = some v := by
  obtain ⟨u, hu⟩ := h
  cases hc : w.cell? a with
  | some x => exact World.cell?_setCell_same _ _ _ hc
  | none =>
    exfalso
    simp only [World.cell?, World.setCell, Array.getElem?_modify, if_true] at hu hc
    cases hb : w.heap[a.block]? with
    | none => simp [hb] at hu
    | some o =>
      cases o <;> simp [hb] at hu hc
      rename_i c e fz
      by_cases hs : a.spot = none
      · have h1 := hc hs
        have h2 := hu.2
        rw [hs, Option.isSome_none, if_neg (by simp), Array.getElem?_setIfInBounds, if_pos rfl, if_neg (by omega)] at h2
        cases h2
      · exact hs hu.1
theorem tres_set {w wr w4 : World} {d0 d1 d2 d3 d4 d5 : Value} (D : DBox w d0 d1 d2 d3 d4 d5 wr) {z : Value} (R : Res wr wr.heap.size (w4.setCell ⟨wr.heap.size, 0, none⟩ z)) : TRes w wr.heap.size z wr (w4.setCell ⟨wr.heap.size, 0, none⟩ z) := by
  have hb := R.below
  have hs := D.two
  exact ⟨cell_set_has R.has, (D.on (hb.mono hs)).res, hs, R.lt, hb.size, fun b _ h => hb.block b h⟩
theorem tres_alloc {w wr : World} {d0 d1 d2 d3 d4 d5 : Value} (D : DBox w d0 d1 d2 d3 d4 d5 wr) : TRes w wr.heap.size .nilIface wr (wr.alloc (.cells #[.nilIface] 30)) := by
  have hb := box_one wr (.cells #[.nilIface] 30)
  have hs := D.two
  exact ⟨by rw [World.cell?_alloc_at _ _ _ _ rfl]; rfl, (D.on (hb.mono hs)).res, hs, by simp, hb.size, fun b _ h => hb.block b h⟩
theorem res_alloc (wr : World) : Res wr wr.heap.size (wr.alloc (.cells #[.nilIface] 30)) :=
  ⟨⟨.nilIface, by rw [World.cell?_alloc_at _ _ _ _ rfl]; rfl⟩, World.frozen?_alloc_at _ _ _ _ rfl, box_one _ _, Nat.le_refl _, by simp⟩
theorem s18 {wr : World} {b off B : Nat} {x0 x1 : Value} {i0 i1 : Bool} (hb : b < wr.heap.size) (hB : B < wr.heap.size) (h0 : wr.cell? ⟨b, off, none⟩ = some x0) (h1 : wr.cell? ⟨b, off + 1, none⟩ = some x1) (h4 : wr.cell? ⟨B, 4, none⟩ = some (.bool i0)) (h5 : wr.cell? ⟨B, 5, none⟩ = some (.bool i1)) (w' : World) (R : Res wr wr.heap.size w') :
    w'.cell? ⟨b, off, none⟩ = some x0 ∧ w'.cell? ⟨b, off + 1, none⟩ = some x1 ∧ w'.cell? ⟨B, 4, none⟩ = some (.bool i0) ∧ w'.cell? ⟨B, 5, none⟩ = some (.bool i1) ∧ w'.frozen? ⟨wr.heap.size, 0, none⟩ = false ∧ Res wr wr.heap.size w' :=
  ⟨(R.below.cell (by exact hb)).trans h0, (R.below.cell (by exact hb)).trans h1, (R.below.cell (by exact hB)).trans h4, (R.below.cell (by exact hB)).trans h5, R.free, R⟩
theorem isVal_range {B : Nat} {v : Value} {x0 x1 : Value} {fV : Nat → Val} {wr : World} (h : Vals B 2 v [x0, x1] fV wr) (j0 j1 : Bool) : IsValP (fun b => B ≤ b) wr (.range (fV 0) (fV 1) j0 j1) (.iface 111 (.agg #[x0, x1, .bool j0, .bool j1])) :=
  ⟨x0, x1, rfl, IsValP.below (Below.refl _ _) (fun b h _ => h.1) _ _ (h.vals 0 (by omega)), IsValP.below (Below.refl _ _) (fun b h _ => h.1) _ _ (h.vals 1 (by omega))⟩
end Go.Proofs.YthmogphlnjpakaaGreatDoor

namespace Go.Proofs.YthmogphlnjpakaaGreatDoor
open Go Go.Ord Go.Typ Go.RowKit
set_option maxRecDepth 100000 in
set_option maxHeartbeats 6400000 in
theorem of_range {base : World} (E : Base0 base) (n : Nat) (f : Nat → Dat) (hIH : ∀ (j : Nat) (w' : World) (v : Value), Below base.heap.size base w' → IsDat w' (f j) v → Calls Tryz.prog 11 #[v] w' (OfOut w' (f j)))
    (w : World) (hB : Below base.heap.size base w) (s : ByteArray) (A A' : Option Addr) (c c' m : Nat) (i0 i1 : Bool) (D : Dat) (hD : D.kind = 12) (hn : n ≤ 1048576) (hrow : DatRow w A n f) :
    Calls Tryz.prog 62 #[.agg #[.int .i64 12, .string s, .slice A n c, .slice A' m c', .bool i0, .bool i1]] w (OfOut w D) := by
  have HIH := Lib.hid hIH
  have HROW := Lib.hid hrow
  have HB := Lib.hid (fun (w' : World) (h : Below w.heap.size w w') => hB.trans (h.mono hB.size))
  have HD := Lib.hid hD
  clear hIH hrow hB hD
  have hund : undef = Value.tuple #[] := rfl
  cases hs : s.toList.isEmpty with
  | false =>
    go_enter Tryz.func62, Tryz.ntmps62
    go_wp2_with fail
    exact bodyPost_ret (v := .tuple #[.agg #[.nilIface], .bool false]) (by first | (simp [results, Tryz.results62, go_sem]; done) | (simp [results, Tryz.results62, go_sem, *]; done)) rfl (of_null (by repeat (first | exact Below.refl _ _ | assumption | refine Below.drew ?_ | refine below_drewN ?_ _ | refine Below.alloc ?_ (by first | omega | simp <;> omega) _ | refine Below.setCell ?_ (by first | omega | simp <;> omega) _)) (fun h => nomatch h))
  | true =>
    by_cases hm : 0 < m
    · go_enter Tryz.func62, Tryz.ntmps62
      go_wp2_with fail
      exact bodyPost_ret (v := .tuple #[.agg #[.nilIface], .bool false]) (by first | (simp [results, Tryz.results62, go_sem]; done) | (simp [results, Tryz.results62, go_sem, *]; done)) rfl (of_null (by repeat (first | exact Below.refl _ _ | assumption | refine Below.drew ?_ | refine below_drewN ?_ _ | refine Below.alloc ?_ (by first | omega | simp <;> omega) _ | refine Below.setCell ?_ (by first | omega | simp <;> omega) _)) (fun h => nomatch h))
    · obtain rfl : m = 0 := by omega
      have D0 := dbox0 w (.int .i64 12) (.string s) (.slice A n c) (.slice A' 0 c') (.bool i0) (.bool i1)
      have V0 := fun wr => vals0 (w.heap.size + 2) wr
      obtain ⟨i0', hi, hz0, hz1, hz2⟩ := info_parts info_val
      go_enter Tryz.func62, Tryz.ntmps62
      go_wp2_with fail
      go_loopw [4, 28] (fun v i wr => ∃ (j : Nat) (xs : List Value) (fV : Nat → Val), j ≤ n ∧ i = .int .i64 j ∧ DBox w (.int .i64 12) (.string s) (.slice A n c) (.slice A' 0 c') (.bool i0) (.bool i1) wr ∧ Vals (w.heap.size + 2) j v xs fV wr) (fun _ i _ => n - (intOf i).toNat)
      case atStart => exact ⟨0, [], (fun _ => .nul), Nat.zero_le _, rfl, D0, V0 _⟩
      case round =>
        clear D0 V0
        obtain ⟨j, xs, fV, hj, rfl, DB, VS⟩ := hrel
        by_cases hlt : j < n
        · obtain ⟨b, off, c0, c1, c2, c3, c4, c5, rfl, hbl, k0, k1, k2, k3, k4, k5, hd⟩ := HROW.out j hlt
          have HIT := Lib.hid (fun (w' : World) (h : Below wr.heap.size wr w') => HIH.out j w' _ (HB.out w' (DB.below.trans (h.mono DB.below.size))) (IsDat.keep (DB.below.trans (h.mono DB.below.size)) _ _ hd))
          have k0 := (DB.below.cell (by exact hbl)).trans k0
          have k1 := (DB.below.cell (by exact hbl)).trans k1
          have k2 := (DB.below.cell (by exact hbl)).trans k2
          have k3 := (DB.below.cell (by exact hbl)).trans k3
          have k4 := (DB.below.cell (by exact hbl)).trans k4
          have k5 := (DB.below.cell (by exact hbl)).trans k5
          obtain ⟨k', s', B1, n1, e1, B2, n2, e2, j0, j1, rfl, rfl, rfl, rfl, rfl, rfl⟩ := isDat_form hd
          clear hd
          go_wp2_with fail
          go_at_call 11
          refine (HIT.out _ (by repeat (first | exact Below.refl _ _ | assumption | refine Below.drew ?_ | refine below_drewN ?_ _ | refine Below.alloc ?_ (by first | omega | simp <;> omega) _ | refine Below.setCell ?_ (by first | omega | simp <;> omega) _))).mono ?_
          rintro e w1 ⟨V, x, ok, rfl, hV, hb1, hno, hyes⟩
          have hbW : Below wr.heap.size wr w1 := Below.trans (by repeat (first | exact Below.refl _ _ | assumption | refine Below.drew ?_ | refine below_drewN ?_ _ | refine Below.alloc ?_ (by first | omega | simp <;> omega) _ | refine Below.setCell ?_ (by first | omega | simp <;> omega) _)) (hb1.mono (by simp))
          have D1 := DB.on (hbW.mono DB.two)
          have HV := Lib.hid (IsValP.below (Below.refl _ w1) (ok' := fun b => wr.heap.size ≤ b) (fun b h _ => by simp at h; omega) _ _ hV)
          have HW := Lib.hid hbW
          have HO := Lib.hid (own_on VS.own hbW)
          have r1 := fun o => (D1.on ((Below.refl (w.heap.size + 2) w1).alloc D1.two o)).r
          have f1 := fun o => (D1.on ((Below.refl (w.heap.size + 2) w1).alloc D1.two o)).f
          have s1 := D1.two
          have b1 := D1.below
          have HF := isValP_form hV
          clear hV hbW hb1 hyes k0 k1 k2 k3 k4 k5
          cases ok with
          | false =>
            rcases HF with rfl | ⟨t, y, rfl⟩
            all_goals go_wp2_with fail
            all_goals exact bodyPost_ret (v := .tuple #[.agg #[.nilIface], .bool false]) (by first | (simp [results, Tryz.results62, go_sem]; done) | (simp [results, Tryz.results62, go_sem, *]; done)) rfl (of_null (by repeat (first | exact Below.refl _ _ | assumption | refine Below.drew ?_ | refine below_drewN ?_ _ | refine Below.alloc ?_ (by first | omega | simp <;> omega) _ | refine Below.setCell ?_ (by first | omega | simp <;> omega) _)) (fun h => nomatch h))
          | true =>
            clear hno r1 f1
            rcases HF with rfl | ⟨t, y, rfl⟩
            · go_wp2_with (at_builtin; refine wpList_append_own_at _ rfl _ _ 26 rfl (w.heap.size + 2) 30 i0' (.agg #[.nilIface]) 1 16 Tryz.underlying26 hi hz0 hz1 hz2 rfl (by decide) _ _ _ rfl ((HO.out.alloc _).alloc _) _ 1 1 [.nilIface] rfl rfl ?qc1 ?qc2 ?qc3 ?qc4 ?qc5 ?_)
              case qc1 => have h := cell_one_new (w1.alloc (.cells #[.nilIface] 30)) (.nilIface) 30; simp only [World.size_alloc] at h; exact h
              case qc2 => intro u hu; simp at hu; subst hu; rfl
              case qc3 => unfold maxLen; omega
              case qc4 => omega
              case qc5 => simp; omega
              intro v' w2 hown2 hgrow _ hat
              have V2 := Vals.step VS (Nat.le_trans DB.two (Nat.le_refl _)) HW.out HV.out (by repeat (first | exact Below.refl _ _ | assumption | refine Below.drew ?_ | refine below_drewN ?_ _ | refine Below.alloc ?_ (by first | omega | simp <;> omega) _ | refine Below.setCell ?_ (by first | omega | simp <;> omega) _)) hgrow (by simp only [World.size_alloc]; exact hat) hown2
              have D2 := D1.on (Below.grown (by repeat (first | exact Below.refl _ _ | assumption | refine Below.drew ?_ | refine below_drewN ?_ _ | refine Below.alloc ?_ (by first | omega | simp <;> omega) _ | refine Below.setCell ?_ (by first | omega | simp <;> omega) _)) hgrow (by simp; omega) (fun k hk => (HO.out.lt k hk).1))
              clear hown2 hgrow hat
              go_wp2_with fail
              go_roundw
              case rel => (repeat apply Exists.intro); exact ⟨⟨j + 1, _, _, by omega, by go_num, D2, V2⟩, rfl⟩
              case measure => simp [intOf]; omega
            · go_wp2_with (at_builtin; refine wpList_append_own_at _ rfl _ _ 26 rfl (w.heap.size + 2) 30 i0' (.agg #[.nilIface]) 1 16 Tryz.underlying26 hi hz0 hz1 hz2 rfl (by decide) _ _ _ rfl ((HO.out.alloc _).alloc _) _ 1 1 [.iface t y] rfl rfl ?qc1 ?qc2 ?qc3 ?qc4 ?qc5 ?_)
              case qc1 => have h := cell_one_new (w1.alloc (.cells #[.iface t y] 30)) (.iface t y) 30; simp only [World.size_alloc] at h; exact h
              case qc2 => intro u hu; simp at hu; subst hu; rfl
              case qc3 => unfold maxLen; omega
              case qc4 => omega
              case qc5 => simp; omega
              intro v' w2 hown2 hgrow _ hat
              have V2 := Vals.step VS (Nat.le_trans DB.two (Nat.le_refl _)) HW.out HV.out (by repeat (first | exact Below.refl _ _ | assumption | refine Below.drew ?_ | refine below_drewN ?_ _ | refine Below.alloc ?_ (by first | omega | simp <;> omega) _ | refine Below.setCell ?_ (by first | omega | simp <;> omega) _)) hgrow (by simp only [World.size_alloc]; exact hat) hown2
              have D2 := D1.on (Below.grown (by repeat (first | exact Below.refl _ _ | assumption | refine Below.drew ?_ | refine below_drewN ?_ _ | refine Below.alloc ?_ (by first | omega | simp <;> omega) _ | refine Below.setCell ?_ (by first | omega | simp <;> omega) _)) hgrow (by simp; omega) (fun k hk => (HO.out.lt k hk).1))
              clear hown2 hgrow hat
              go_wp2_with fail
              go_roundw
              case rel => (repeat apply Exists.intro); exact ⟨⟨j + 1, _, _, by omega, by go_num, D2, V2⟩, rfl⟩
              case measure => simp [intOf]; omega
        · obtain rfl : j = n := by omega
          clear hj hlt
          by_cases h2 : j = 2
          · subst h2
            obtain ⟨A9, c9, rfl, g1, g2, hrow9⟩ := (own_row VS.own).2
            have HL := Lib.hid VS.len
            have HV9 := Lib.hid VS
            have k0 := fun o => (DB.on ((Below.refl (w.heap.size + 2) wr).alloc DB.two o)).k0
            have k3 := fun o => (DB.on ((Below.refl (w.heap.size + 2) wr).alloc DB.two o)).k3
            have H1 := Lib.hid VS.one
            have HR9 := Lib.hid hrow9
            have s0 := DB.two
            clear hrow9
            obtain ⟨x0, x1, rfl⟩ : ∃ x0 x1, xs = [x0, x1] := by
              have := HL.out
              match xs, this with
              | [x0, x1], _ => exact ⟨x0, x1, rfl⟩
            obtain ⟨b9, f9, rfl, hb9, hx0⟩ := HR9.out 0 (by simp)
            obtain ⟨b9', f9', e9, _, hx1⟩ := HR9.out 1 (by simp)
            cases e9
            obtain ⟨z, hz, hcall⟩ := range_any (fV 0) (fV 1) x0 x1 (IsValP.val _ _ (HV9.out.vals 0 (by omega))) (IsValP.val _ _ (HV9.out.vals 1 (by omega))) i0 i1
            have HZ := Lib.hid hcall
            have S18 := Lib.hid (s18 (B := w.heap.size) (off := f9) (x0 := x0) (x1 := x1) (i0 := i0) (i1 := i1) hb9 (by omega) (by simpa using hx0) (by simpa using hx1) DB.k4 DB.k5)
            clear hcall VS hx0 hx1
            rcases hz with rfl | ⟨j0, j1, rfl⟩
            · go_wp2_with fail
              have R9 := res_alloc wr
              first | (go_region_held3 (fun w' => w'.cell? ⟨b9, f9, none⟩ = some x0 ∧ w'.cell? ⟨b9, f9 + 1, none⟩ = some x1 ∧ w'.cell? ⟨w.heap.size, 4, none⟩ = some (.bool i0) ∧ w'.cell? ⟨w.heap.size, 5, none⟩ = some (.bool i1) ∧ w'.frozen? ⟨wr.heap.size, 0, none⟩ = false ∧ Res wr wr.heap.size w')
                ((go_split_ands; first | exact S18.out _ R9.drew | exact S18.out _ (Res.drew (w := wr) (p := wr.heap.size) (by assumption)) | exact S18.out _ (Res.on (w := wr) (p := wr.heap.size) (by assumption) (by assumption)) | exact S18.out _ (by assumption) | exact S18.out _ (Res.set (w := wr) (p := wr.heap.size) (by assumption) _) | (refine ⟨?_, ?_, ?_, ?_, ?_, ?_⟩ <;> first | assumption | exact Res.drew (by assumption) | go_keep)))
                (first
                  | (go_at_call 19; go_split_ands; refine (HZ.out _).mono ?_; rintro e w3 ⟨rfl, hb3⟩)
                  | (go_split_ands; obtain ⟨uu, huu⟩ := Res.has (w := wr) (p := wr.heap.size) (by assumption); go_simp))) | fail
              all_goals go_split_ands
              all_goals go_wp2_with fail
              all_goals rename Res wr wr.heap.size _ => R4
              all_goals have T9 := tres_set DB R4
              all_goals clear R4
              all_goals first | (go_region_held3 (fun w' => w'.cell? ⟨wr.heap.size, 0, none⟩ = some (.nilIface) ∧ w'.frozen? ⟨w.heap.size + 1, 0, none⟩ = false ∧ TRes w (wr.heap.size) (.nilIface) wr w')
                ((go_split_ands; first | exact tres T9.drew | exact tres (TRes.drew (by assumption)) | exact tres (TRes.on (by assumption) (by assumption)) | exact tres (by assumption) | exact tres (TRes.set (by assumption) _) | (refine ⟨?_, ?_, ?_⟩ <;> first | assumption | exact TRes.drew (by assumption) | go_keep)))
                (first
                  | (go_at_call 16; go_split_ands; refine (null_nil _).mono ?_; rintro e w3 ⟨rfl, hb3⟩)
                  | (go_split_ands; obtain ⟨uu, huu⟩ := Res.has (w := w) (p := w.heap.size + 1) (TRes.res (w := w) (q := (wr.heap.size)) (x := (.nilIface)) (w9 := wr) (by assumption)); go_simp))) | fail
              all_goals go_split_ands
              all_goals go_wp2
              all_goals exact bodyPost_ret (v := .tuple #[.agg #[.nilIface], .bool false]) (by first | (simp [results, Tryz.results62, go_sem, TRes.out (w := w) (q := (wr.heap.size)) (x := (.nilIface)) (w9 := wr) (by assumption)]; done) | (simp [results, Tryz.results62, go_sem, TRes.out T9]; done) | (simp [results, Tryz.results62, go_sem, *]; done)) rfl (of_null (TRes.res (w := w) (q := (wr.heap.size)) (x := (.nilIface)) (w9 := wr) (by assumption)).below (fun h => nomatch h))
            · have HVL := Lib.hid (isVal_range HV9.out j0 j1)
              go_wp2_with fail
              have R9 := res_alloc wr
              first | (go_region_held3 (fun w' => w'.cell? ⟨b9, f9, none⟩ = some x0 ∧ w'.cell? ⟨b9, f9 + 1, none⟩ = some x1 ∧ w'.cell? ⟨w.heap.size, 4, none⟩ = some (.bool i0) ∧ w'.cell? ⟨w.heap.size, 5, none⟩ = some (.bool i1) ∧ w'.frozen? ⟨wr.heap.size, 0, none⟩ = false ∧ Res wr wr.heap.size w')
                ((go_split_ands; first | exact S18.out _ R9.drew | exact S18.out _ (Res.drew (w := wr) (p := wr.heap.size) (by assumption)) | exact S18.out _ (Res.on (w := wr) (p := wr.heap.size) (by assumption) (by assumption)) | exact S18.out _ (by assumption) | exact S18.out _ (Res.set (w := wr) (p := wr.heap.size) (by assumption) _) | (refine ⟨?_, ?_, ?_, ?_, ?_, ?_⟩ <;> first | assumption | exact Res.drew (by assumption) | go_keep)))
                (first
                  | (go_at_call 19; go_split_ands; refine (HZ.out _).mono ?_; rintro e w3 ⟨rfl, hb3⟩)
                  | (go_split_ands; obtain ⟨uu, huu⟩ := Res.has (w := wr) (p := wr.heap.size) (by assumption); go_simp))) | fail
              all_goals go_split_ands
              all_goals go_wp2_with fail
              all_goals rename Res wr wr.heap.size _ => R4
              all_goals have T9 := tres_set DB R4
              all_goals clear R4
              all_goals first | (go_region_held3 (fun w' => w'.cell? ⟨wr.heap.size, 0, none⟩ = some (.iface 111 (.agg #[x0, x1, .bool j0, .bool j1])) ∧ w'.frozen? ⟨w.heap.size + 1, 0, none⟩ = false ∧ TRes w (wr.heap.size) (.iface 111 (.agg #[x0, x1, .bool j0, .bool j1])) wr w')
                ((go_split_ands; first | exact tres T9.drew | exact tres (TRes.drew (by assumption)) | exact tres (TRes.on (by assumption) (by assumption)) | exact tres (by assumption) | exact tres (TRes.set (by assumption) _) | (refine ⟨?_, ?_, ?_⟩ <;> first | assumption | exact TRes.drew (by assumption) | go_keep)))
                (first
                  | (go_at_call 16; go_split_ands; refine (null_iface _ _ _).mono ?_; rintro e w3 ⟨rfl, hb3⟩)
                  | (go_split_ands; obtain ⟨uu, huu⟩ := Res.has (w := w) (p := w.heap.size + 1) (TRes.res (w := w) (q := (wr.heap.size)) (x := (.iface 111 (.agg #[x0, x1, .bool j0, .bool j1]))) (w9 := wr) (by assumption)); go_simp))) | fail
              all_goals go_split_ands
              all_goals go_wp2
              all_goals exact bodyPost_ret (v := .tuple #[.agg #[.iface 111 (.agg #[x0, x1, .bool j0, .bool j1])], .bool true]) (by first | (simp [results, Tryz.results62, go_sem, TRes.out (w := w) (q := (wr.heap.size)) (x := (.iface 111 (.agg #[x0, x1, .bool j0, .bool j1]))) (w9 := wr) (by assumption)]; done) | (simp [results, Tryz.results62, go_sem, TRes.out T9]; done) | (simp [results, Tryz.results62, go_sem, *]; done)) rfl ⟨.range (fV 0) (fV 1) j0 j1, .iface 111 (.agg #[x0, x1, .bool j0, .bool j1]), true, rfl, TRes.val (w := w) (q := (wr.heap.size)) (x := (.iface 111 (.agg #[x0, x1, .bool j0, .bool j1]))) (w9 := wr) (by assumption) HVL.out, (TRes.res (w := w) (q := (wr.heap.size)) (x := (.iface 111 (.agg #[x0, x1, .bool j0, .bool j1]))) (w9 := wr) (by assumption)).below, (fun h => nomatch h), fun _ => HD.out.symm⟩
          · have hj2 : ((j : Int) == 2) = false := by rw [beq_eq_false_iff_ne]; omega
            obtain ⟨A9, c9, rfl, g1, g2, hrow9⟩ := (own_row VS.own).2
            have HL := Lib.hid VS.len
            have HV9 := Lib.hid VS
            have k0 := fun o => (DB.on ((Below.refl (w.heap.size + 2) wr).alloc DB.two o)).k0
            have k3 := fun o => (DB.on ((Below.refl (w.heap.size + 2) wr).alloc DB.two o)).k3
            have H1 := Lib.hid VS.one
            have HR9 := Lib.hid hrow9
            have s0 := DB.two
            clear hrow9
            clear VS
            go_wp2_with fail
            have T9 := tres_alloc DB
            clear k0 k3 DB
            first | (go_region_held3 (fun w' => w'.cell? ⟨wr.heap.size, 0, none⟩ = some (.nilIface) ∧ w'.frozen? ⟨w.heap.size + 1, 0, none⟩ = false ∧ TRes w (wr.heap.size) (.nilIface) wr w')
              ((go_split_ands; first | exact tres T9.drew | exact tres (TRes.drew (by assumption)) | exact tres (TRes.on (by assumption) (by assumption)) | exact tres (by assumption) | exact tres (TRes.set (by assumption) _) | (refine ⟨?_, ?_, ?_⟩ <;> first | assumption | exact TRes.drew (by assumption) | go_keep)))
              (first
                | (go_at_call 16; go_split_ands; refine (null_nil _).mono ?_; rintro e w3 ⟨rfl, hb3⟩)
                | (go_split_ands; obtain ⟨uu, huu⟩ := Res.has (w := w) (p := w.heap.size + 1) (TRes.res (w := w) (q := (wr.heap.size)) (x := (.nilIface)) (w9 := wr) (by assumption)); go_simp))) | fail
            all_goals go_split_ands
            all_goals go_wp2
            all_goals exact bodyPost_ret (v := .tuple #[.agg #[.nilIface], .bool false]) (by first | (simp [results, Tryz.results62, go_sem, TRes.out (w := w) (q := (wr.heap.size)) (x := (.nilIface)) (w9 := wr) (by assumption)]; done) | (simp [results, Tryz.results62, go_sem, TRes.out T9]; done) | (simp [results, Tryz.results62, go_sem, *]; done)) rfl (of_null (TRes.res (w := w) (q := (wr.heap.size)) (x := (.nilIface)) (w9 := wr) (by assumption)).below (fun h => nomatch h))
end Go.Proofs.YthmogphlnjpakaaGreatDoor
