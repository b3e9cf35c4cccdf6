/-
  casuistlaw11.asked, 3.
-/
import Derived.Test.YthmogphlnjpakaaGreatDoorYs1
namespace Go.Proofs.YthmogphlnjpakaaGreatDoor
open Go Go.Ord Go.Typ Go.RowKit
set_option maxRecDepth 100000 in
set_option maxHeartbeats 12800000 in
theorem asked_3 {w0 : World} (V : Val) (t : TypeId) (u : Value) (h : IsVal w0 V (.iface t u)) (w : World) (hb : Below w0.heap.size w0 w) (hR : (∀ w' : World, Below w.heap.size w w' → Calls Tryz.prog 20 #[.agg #[.iface t u]] w' (Ask4 F10 w' (kindV V == 12)))) : Calls Tryz.prog 29 #[.agg #[.iface t u]] w (AskedOut w (kindV V)) := by
  obtain ⟨hk1, hk2⟩ := kindV_rng V
  obtain ⟨q2, e2⟩ : ∃ q, (kindV V == 2) = q := ⟨_, rfl⟩
  have ABool := Lib.hid (fun (w' : World) (G : AF w (.iface t u) w') => (e2 ▸ askBool V (.iface t u) h w' (hb.trans (G.below.mono hb.size))).mono fun _ _ => G.p1)
  have E2 := Lib.hid e2
  clear e2
  obtain ⟨q3, e3⟩ : ∃ q, (kindV V == 3) = q := ⟨_, rfl⟩
  have ANum := Lib.hid (fun (w' : World) (G : AF w (.iface t u) w') => (e3 ▸ askNum V (.iface t u) h w' (hb.trans (G.below.mono hb.size))).mono fun _ _ => G.pF)
  have E3 := Lib.hid e3
  clear e3
  obtain ⟨q4, e4⟩ : ∃ q, (kindV V == 4) = q := ⟨_, rfl⟩
  have AText := Lib.hid (fun (w' : World) (G : AF w (.iface t u) w') => (e4 ▸ askText V (.iface t u) h w' (hb.trans (G.below.mono hb.size))).mono fun _ _ => G.p1)
  have E4 := Lib.hid e4
  clear e4
  obtain ⟨q5, e5⟩ : ∃ q, (kindV V == 5) = q := ⟨_, rfl⟩
  have ADate := Lib.hid (fun (w' : World) (G : AF w (.iface t u) w') => (e5 ▸ askDate V (.iface t u) h w' (hb.trans (G.below.mono hb.size))).mono fun _ _ => G.pF)
  have E5 := Lib.hid e5
  clear e5
  obtain ⟨q6, e6⟩ : ∃ q, (kindV V == 6) = q := ⟨_, rfl⟩
  have ATime := Lib.hid (fun (w' : World) (G : AF w (.iface t u) w') => (e6 ▸ askTime V (.iface t u) h w' (hb.trans (G.below.mono hb.size))).mono fun _ _ => G.pF)
  have E6 := Lib.hid e6
  clear e6
  obtain ⟨q7, e7⟩ : ∃ q, (kindV V == 7) = q := ⟨_, rfl⟩
  have AMoment := Lib.hid (fun (w' : World) (G : AF w (.iface t u) w') => (e7 ▸ askMoment V (.iface t u) h w' (hb.trans (G.below.mono hb.size))).mono fun _ _ => G.pF)
  have E7 := Lib.hid e7
  clear e7
  obtain ⟨q8, e8⟩ : ∃ q, (kindV V == 8) = q := ⟨_, rfl⟩
  have ADays := Lib.hid (fun (w' : World) (G : AF w (.iface t u) w') => (e8 ▸ askDays V (.iface t u) h w' (hb.trans (G.below.mono hb.size))).mono fun _ _ => G.p1)
  have E8 := Lib.hid e8
  clear e8
  obtain ⟨q9, e9⟩ : ∃ q, (kindV V == 9) = q := ⟨_, rfl⟩
  have AMonths := Lib.hid (fun (w' : World) (G : AF w (.iface t u) w') => (e9 ▸ askMonths V (.iface t u) h w' (hb.trans (G.below.mono hb.size))).mono fun _ _ => G.p1)
  have E9 := Lib.hid e9
  clear e9
  obtain ⟨q10, e10⟩ : ∃ q, (kindV V == 10) = q := ⟨_, rfl⟩
  have AList := Lib.hid (fun (w' : World) (G : AF w (.iface t u) w') => (e10 ▸ askList V (.iface t u) h w' (hb.trans (G.below.mono hb.size))).mono fun _ _ => G.p1)
  have E10 := Lib.hid e10
  clear e10
  obtain ⟨q11, e11⟩ : ∃ q, (kindV V == 11) = q := ⟨_, rfl⟩
  have AContext := Lib.hid (fun (w' : World) (G : AF w (.iface t u) w') => (e11 ▸ askContext V (.iface t u) h w' (hb.trans (G.below.mono hb.size))).mono fun _ _ => G.p3)
  have E11 := Lib.hid e11
  clear e11
  obtain ⟨q12, e12⟩ : ∃ q, (kindV V == 12) = q := ⟨_, rfl⟩
  have ARange := Lib.hid (fun (w' : World) (G : AF w (.iface t u) w') => (e12 ▸ hR w' G.below).mono fun _ _ => G.p4)
  have E12 := Lib.hid e12
  clear e12
  obtain ⟨q13, e13⟩ : ∃ q, (kindV V == 13) = q := ⟨_, rfl⟩
  have AFunc := Lib.hid (fun (w' : World) (G : AF w (.iface t u) w') => (e13 ▸ askFunc V (.iface t u) h w' (hb.trans (G.below.mono hb.size))).mono fun _ _ => G.p3)
  have E13 := Lib.hid e13
  clear e13
  clear hR
  generalize kindV V = K at *
  clear h hb
  have F0 := AF.start w (.iface t u)
  have l0 := F0.lt
  have c0 := F0.c
  go_enter Tryz.func29, Tryz.ntmps29
  go_wp2_with (first
    | (go_at_call 76; refine (ABool.out _ (F0.on (by repeat (first | exact Below.refl _ _ | assumption | refine Below.alloc ?_ (by first | omega | simp <;> omega) _)))).mono ?_; rintro e w1 ⟨y1, rfl, F1⟩; have c1 := F1.c; have d1 := F1.c0; have l1 := F1.lt)
    | (go_at_call 59; refine (ANum.out _ (F1.on (by repeat (first | exact Below.refl _ _ | assumption | refine Below.alloc ?_ (by first | omega | simp <;> omega) _)))).mono ?_; rintro e w2 ⟨y2, ⟨b2, hi2, lo2, e2, rfl⟩, rfl, F2⟩; have c2 := F2.c; have d2 := F2.c0; have l2 := F2.lt)
    | (go_at_call 77; refine (AText.out _ (F2.on (by repeat (first | exact Below.refl _ _ | assumption | refine Below.alloc ?_ (by first | omega | simp <;> omega) _)))).mono ?_; rintro e w3 ⟨y3, rfl, F3⟩; have c3 := F3.c; have d3 := F3.c0; have l3 := F3.lt)
    | (go_at_call 78; refine (ADate.out _ (F3.on (by repeat (first | exact Below.refl _ _ | assumption | refine Below.alloc ?_ (by first | omega | simp <;> omega) _)))).mono ?_; rintro e w4 ⟨y4, ⟨a4, m4, d4, rfl⟩, rfl, F4⟩; have c4 := F4.c; have d4 := F4.c0; have l4 := F4.lt)
    | (go_at_call 79; refine (ATime.out _ (F4.on (by repeat (first | exact Below.refl _ _ | assumption | refine Below.alloc ?_ (by first | omega | simp <;> omega) _)))).mono ?_; rintro e w5 ⟨y5, ⟨s5, z5, o5, rfl⟩, rfl, F5⟩; have c5 := F5.c; have d5 := F5.c0; have l5 := F5.lt)
    | (go_at_call 80; refine (AMoment.out _ (F5.on (by repeat (first | exact Below.refl _ _ | assumption | refine Below.alloc ?_ (by first | omega | simp <;> omega) _)))).mono ?_; rintro e w6 ⟨y6, ⟨a6, m6, d6, s6, z6, o6, rfl⟩, rfl, F6⟩; have c6 := F6.c; have d6 := F6.c0; have l6 := F6.lt)
    | (go_at_call 81; refine (ADays.out _ (F6.on (by repeat (first | exact Below.refl _ _ | assumption | refine Below.alloc ?_ (by first | omega | simp <;> omega) _)))).mono ?_; rintro e w7 ⟨y7, rfl, F7⟩; have c7 := F7.c; have d7 := F7.c0; have l7 := F7.lt)
    | (go_at_call 82; refine (AMonths.out _ (F7.on (by repeat (first | exact Below.refl _ _ | assumption | refine Below.alloc ?_ (by first | omega | simp <;> omega) _)))).mono ?_; rintro e w8 ⟨y8, rfl, F8⟩; have c8 := F8.c; have d8 := F8.c0; have l8 := F8.lt)
    | (go_at_call 13; refine (AList.out _ (F8.on (by repeat (first | exact Below.refl _ _ | assumption | refine Below.alloc ?_ (by first | omega | simp <;> omega) _)))).mono ?_; rintro e w9 ⟨y9, rfl, F9⟩; have c9 := F9.c; have d9 := F9.c0; have l9 := F9.lt)
    | (go_at_call 83; refine (AContext.out _ (F9.on (by repeat (first | exact Below.refl _ _ | assumption | refine Below.alloc ?_ (by first | omega | simp <;> omega) _)))).mono ?_; rintro e w10 ⟨y10, z10, rfl, F10⟩; have c10 := F10.c; have d10 := F10.c0; have l10 := F10.lt)
    | (go_at_call 20; refine (ARange.out _ (F10.on (by repeat (first | exact Below.refl _ _ | assumption | refine Below.alloc ?_ (by first | omega | simp <;> omega) _)))).mono ?_; rintro e w11 ⟨y11, z11, ⟨ta, ua, i11, j11, rfl, rfl⟩, rfl, F11⟩; have c11 := F11.c; have d11 := F11.c0; have l11 := F11.lt; have e11 := fun o o' => (F11.on (((Below.refl (w.heap.size + 1) _).alloc F11.lt o).alloc (by simp; omega) o')).c0)
    | (go_at_call 31; refine (AFunc.out _ (F11.on (by repeat (first | exact Below.refl _ _ | assumption | refine Below.alloc ?_ (by first | omega | simp <;> omega) _)))).mono ?_; rintro e w12 ⟨y12, z12, rfl, F12⟩; have c12 := F12.c; have d12 := F12.c0; have l12 := F12.lt)
    | fail)
  have FB := F12.below
  clear ABool ANum AText ADate ATime AMoment ADays AMonths AList AContext ARange AFunc F0 c0 l0 F1 c1 l1 F2 c2 l2 F3 c3 l3 F4 c4 l4 F5 c5 l5 F6 c6 l6 F7 c7 l7 F8 c8 l8 F9 c9 l9 F10 c10 l10 F11 c11 l11 F12 c12 l12 d1 d2 d3 d4 d5 d6 d7 d8 d9 d10 d11 d12 e11
  go_loopw [31, 32, 111] (fun vn vf vi wr => ∃ i n0 f0 : Int, 0 ≤ i ∧ i ≤ 12 ∧ vi = .int .i64 i ∧ vn = .int .i64 n0 ∧ vf = .int .i64 f0 ∧ AskRel w K i n0 f0 wr) (fun _ _ i _ => 12 - (intOf i).toNat)
  case atStart => exact ⟨0, 0, 1, by omega, by omega, rfl, rfl, rfl, (fun h => absurd h (by omega)), (fun _ => ⟨rfl, rfl⟩), FB⟩
  case round =>
    obtain ⟨i, n0, f0, hi0, hi, rfl, rfl, rfl, hA⟩ := hrel
    have HA := Lib.hid hA
    clear FB
    by_cases hlt : i < 12
    · have hc : i = 0 ∨ i = 1 ∨ i = 2 ∨ i = 3 ∨ i = 4 ∨ i = 5 ∨ i = 6 ∨ i = 7 ∨ i = 8 ∨ i = 9 ∨ i = 10 ∨ i = 11 := by omega
      clear hlt hi hi0
      rcases hc with rfl | rfl | rfl | rfl | rfl | rfl | rfl | rfl | rfl | rfl | rfl | rfl
      · cases q2 with
        | true =>
          have ix := ix0 true q3 q4 q5 q6 q7 q8 q9 q10 q11 q12 q13
          have HK := Lib.hid (show K = 2 by simpa using E2.out)
          obtain ⟨rfl, rfl⟩ := hA.first HK.out (by omega)
          clear hA
          go_wp2_with fail
          go_roundw
          case rel => exact ⟨1, 1, 2, by omega, by omega, by go_num, by go_num, by go_num, HA.out.yes HK.out (by omega) (by omega)⟩
          case measure => simp [intOf]
        | false =>
          have ix := ix0 false q3 q4 q5 q6 q7 q8 q9 q10 q11 q12 q13
          have HK := Lib.hid (show K ≠ 2 by simpa using E2.out)
          clear hA
          go_wp2_with fail
          go_roundw
          case rel => exact ⟨1, n0, f0, by omega, by omega, by go_num, rfl, rfl, HA.out.no HK.out (by omega) (by omega)⟩
          case measure => simp [intOf]
      · cases q3 with
        | true =>
          have ix := ix1 q2 true q4 q5 q6 q7 q8 q9 q10 q11 q12 q13
          have HK := Lib.hid (show K = 3 by simpa using E3.out)
          obtain ⟨rfl, rfl⟩ := hA.first HK.out (by omega)
          clear hA
          go_wp2_with fail
          go_roundw
          case rel => exact ⟨2, 1, 3, by omega, by omega, by go_num, by go_num, by go_num, HA.out.yes HK.out (by omega) (by omega)⟩
          case measure => simp [intOf]
        | false =>
          have ix := ix1 q2 false q4 q5 q6 q7 q8 q9 q10 q11 q12 q13
          have HK := Lib.hid (show K ≠ 3 by simpa using E3.out)
          clear hA
          go_wp2_with fail
          go_roundw
          case rel => exact ⟨2, n0, f0, by omega, by omega, by go_num, rfl, rfl, HA.out.no HK.out (by omega) (by omega)⟩
          case measure => simp [intOf]
      · cases q4 with
        | true =>
          have ix := ix2 q2 q3 true q5 q6 q7 q8 q9 q10 q11 q12 q13
          have HK := Lib.hid (show K = 4 by simpa using E4.out)
          obtain ⟨rfl, rfl⟩ := hA.first HK.out (by omega)
          clear hA
          go_wp2_with fail
          go_roundw
          case rel => exact ⟨3, 1, 4, by omega, by omega, by go_num, by go_num, by go_num, HA.out.yes HK.out (by omega) (by omega)⟩
          case measure => simp [intOf]
        | false =>
          have ix := ix2 q2 q3 false q5 q6 q7 q8 q9 q10 q11 q12 q13
          have HK := Lib.hid (show K ≠ 4 by simpa using E4.out)
          clear hA
          go_wp2_with fail
          go_roundw
          case rel => exact ⟨3, n0, f0, by omega, by omega, by go_num, rfl, rfl, HA.out.no HK.out (by omega) (by omega)⟩
          case measure => simp [intOf]
      · cases q5 with
        | true =>
          have ix := ix3 q2 q3 q4 true q6 q7 q8 q9 q10 q11 q12 q13
          have HK := Lib.hid (show K = 5 by simpa using E5.out)
          obtain ⟨rfl, rfl⟩ := hA.first HK.out (by omega)
          clear hA
          go_wp2_with fail
          go_roundw
          case rel => exact ⟨4, 1, 5, by omega, by omega, by go_num, by go_num, by go_num, HA.out.yes HK.out (by omega) (by omega)⟩
          case measure => simp [intOf]
        | false =>
          have ix := ix3 q2 q3 q4 false q6 q7 q8 q9 q10 q11 q12 q13
          have HK := Lib.hid (show K ≠ 5 by simpa using E5.out)
          clear hA
          go_wp2_with fail
          go_roundw
          case rel => exact ⟨4, n0, f0, by omega, by omega, by go_num, rfl, rfl, HA.out.no HK.out (by omega) (by omega)⟩
          case measure => simp [intOf]
      · cases q6 with
        | true =>
          have ix := ix4 q2 q3 q4 q5 true q7 q8 q9 q10 q11 q12 q13
          have HK := Lib.hid (show K = 6 by simpa using E6.out)
          obtain ⟨rfl, rfl⟩ := hA.first HK.out (by omega)
          clear hA
          go_wp2_with fail
          go_roundw
          case rel => exact ⟨5, 1, 6, by omega, by omega, by go_num, by go_num, by go_num, HA.out.yes HK.out (by omega) (by omega)⟩
          case measure => simp [intOf]
        | false =>
          have ix := ix4 q2 q3 q4 q5 false q7 q8 q9 q10 q11 q12 q13
          have HK := Lib.hid (show K ≠ 6 by simpa using E6.out)
          clear hA
          go_wp2_with fail
          go_roundw
          case rel => exact ⟨5, n0, f0, by omega, by omega, by go_num, rfl, rfl, HA.out.no HK.out (by omega) (by omega)⟩
          case measure => simp [intOf]
      · cases q7 with
        | true =>
          have ix := ix5 q2 q3 q4 q5 q6 true q8 q9 q10 q11 q12 q13
          have HK := Lib.hid (show K = 7 by simpa using E7.out)
          obtain ⟨rfl, rfl⟩ := hA.first HK.out (by omega)
          clear hA
          go_wp2_with fail
          go_roundw
          case rel => exact ⟨6, 1, 7, by omega, by omega, by go_num, by go_num, by go_num, HA.out.yes HK.out (by omega) (by omega)⟩
          case measure => simp [intOf]
        | false =>
          have ix := ix5 q2 q3 q4 q5 q6 false q8 q9 q10 q11 q12 q13
          have HK := Lib.hid (show K ≠ 7 by simpa using E7.out)
          clear hA
          go_wp2_with fail
          go_roundw
          case rel => exact ⟨6, n0, f0, by omega, by omega, by go_num, rfl, rfl, HA.out.no HK.out (by omega) (by omega)⟩
          case measure => simp [intOf]
      · cases q8 with
        | true =>
          have ix := ix6 q2 q3 q4 q5 q6 q7 true q9 q10 q11 q12 q13
          have HK := Lib.hid (show K = 8 by simpa using E8.out)
          obtain ⟨rfl, rfl⟩ := hA.first HK.out (by omega)
          clear hA
          go_wp2_with fail
          go_roundw
          case rel => exact ⟨7, 1, 8, by omega, by omega, by go_num, by go_num, by go_num, HA.out.yes HK.out (by omega) (by omega)⟩
          case measure => simp [intOf]
        | false =>
          have ix := ix6 q2 q3 q4 q5 q6 q7 false q9 q10 q11 q12 q13
          have HK := Lib.hid (show K ≠ 8 by simpa using E8.out)
          clear hA
          go_wp2_with fail
          go_roundw
          case rel => exact ⟨7, n0, f0, by omega, by omega, by go_num, rfl, rfl, HA.out.no HK.out (by omega) (by omega)⟩
          case measure => simp [intOf]
      · cases q9 with
        | true =>
          have ix := ix7 q2 q3 q4 q5 q6 q7 q8 true q10 q11 q12 q13
          have HK := Lib.hid (show K = 9 by simpa using E9.out)
          obtain ⟨rfl, rfl⟩ := hA.first HK.out (by omega)
          clear hA
          go_wp2_with fail
          go_roundw
          case rel => exact ⟨8, 1, 9, by omega, by omega, by go_num, by go_num, by go_num, HA.out.yes HK.out (by omega) (by omega)⟩
          case measure => simp [intOf]
        | false =>
          have ix := ix7 q2 q3 q4 q5 q6 q7 q8 false q10 q11 q12 q13
          have HK := Lib.hid (show K ≠ 9 by simpa using E9.out)
          clear hA
          go_wp2_with fail
          go_roundw
          case rel => exact ⟨8, n0, f0, by omega, by omega, by go_num, rfl, rfl, HA.out.no HK.out (by omega) (by omega)⟩
          case measure => simp [intOf]
      · cases q10 with
        | true =>
          have ix := ix8 q2 q3 q4 q5 q6 q7 q8 q9 true q11 q12 q13
          have HK := Lib.hid (show K = 10 by simpa using E10.out)
          obtain ⟨rfl, rfl⟩ := hA.first HK.out (by omega)
          clear hA
          go_wp2_with fail
          go_roundw
          case rel => exact ⟨9, 1, 10, by omega, by omega, by go_num, by go_num, by go_num, HA.out.yes HK.out (by omega) (by omega)⟩
          case measure => simp [intOf]
        | false =>
          have ix := ix8 q2 q3 q4 q5 q6 q7 q8 q9 false q11 q12 q13
          have HK := Lib.hid (show K ≠ 10 by simpa using E10.out)
          clear hA
          go_wp2_with fail
          go_roundw
          case rel => exact ⟨9, n0, f0, by omega, by omega, by go_num, rfl, rfl, HA.out.no HK.out (by omega) (by omega)⟩
          case measure => simp [intOf]
      · cases q11 with
        | true =>
          have ix := ix9 q2 q3 q4 q5 q6 q7 q8 q9 q10 true q12 q13
          have HK := Lib.hid (show K = 11 by simpa using E11.out)
          obtain ⟨rfl, rfl⟩ := hA.first HK.out (by omega)
          clear hA
          go_wp2_with fail
          go_roundw
          case rel => exact ⟨10, 1, 11, by omega, by omega, by go_num, by go_num, by go_num, HA.out.yes HK.out (by omega) (by omega)⟩
          case measure => simp [intOf]
        | false =>
          have ix := ix9 q2 q3 q4 q5 q6 q7 q8 q9 q10 false q12 q13
          have HK := Lib.hid (show K ≠ 11 by simpa using E11.out)
          clear hA
          go_wp2_with fail
          go_roundw
          case rel => exact ⟨10, n0, f0, by omega, by omega, by go_num, rfl, rfl, HA.out.no HK.out (by omega) (by omega)⟩
          case measure => simp [intOf]
      · cases q12 with
        | true =>
          have ix := ix10 q2 q3 q4 q5 q6 q7 q8 q9 q10 q11 true q13
          have HK := Lib.hid (show K = 12 by simpa using E12.out)
          obtain ⟨rfl, rfl⟩ := hA.first HK.out (by omega)
          clear hA
          go_wp2_with fail
          go_roundw
          case rel => exact ⟨11, 1, 12, by omega, by omega, by go_num, by go_num, by go_num, HA.out.yes HK.out (by omega) (by omega)⟩
          case measure => simp [intOf]
        | false =>
          have ix := ix10 q2 q3 q4 q5 q6 q7 q8 q9 q10 q11 false q13
          have HK := Lib.hid (show K ≠ 12 by simpa using E12.out)
          clear hA
          go_wp2_with fail
          go_roundw
          case rel => exact ⟨11, n0, f0, by omega, by omega, by go_num, rfl, rfl, HA.out.no HK.out (by omega) (by omega)⟩
          case measure => simp [intOf]
      · cases q13 with
        | true =>
          have ix := ix11 q2 q3 q4 q5 q6 q7 q8 q9 q10 q11 q12 true
          have HK := Lib.hid (show K = 13 by simpa using E13.out)
          obtain ⟨rfl, rfl⟩ := hA.first HK.out (by omega)
          clear hA
          go_wp2_with fail
          go_roundw
          case rel => exact ⟨12, 1, 13, by omega, by omega, by go_num, by go_num, by go_num, HA.out.yes HK.out (by omega) (by omega)⟩
          case measure => simp [intOf]
        | false =>
          have ix := ix11 q2 q3 q4 q5 q6 q7 q8 q9 q10 q11 q12 false
          have HK := Lib.hid (show K ≠ 13 by simpa using E13.out)
          clear hA
          go_wp2_with fail
          go_roundw
          case rel => exact ⟨12, n0, f0, by omega, by omega, by go_num, rfl, rfl, HA.out.no HK.out (by omega) (by omega)⟩
          case measure => simp [intOf]
    · obtain rfl : i = 12 := by omega
      obtain ⟨h1, h2, hB⟩ := hA
      obtain ⟨rfl, rfl⟩ : n0 = askN K ∧ f0 = K := by
        by_cases hK : K = 1
        · obtain ⟨e1, e2⟩ := h2 (by omega)
          exact ⟨by rw [e1, askN, if_pos hK], by omega⟩
        · obtain ⟨e1, e2⟩ := h1 (by omega)
          exact ⟨by rw [e1, askN, if_neg hK], e2⟩
      clear h1 h2 HA
      go_wp2_with fail
      go_ret2
      exact ⟨rfl, hB⟩
end Go.Proofs.YthmogphlnjpakaaGreatDoor
