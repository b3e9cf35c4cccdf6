/-
  CheckOrders: the law's walk, of names.
-/
import Derived.Test.YtamkkkkonigglaaGreatDoorOd
import Derived.Deep.QuietTactic
import Derived.BigQuiet
namespace Go.Proofs.YtamkkkkonigglaaGreatDoor
open Go Go.Ord Go.RowKit

set_option maxRecDepth 100000 in
set_option maxHeartbeats 1600000 in
theorem orders_some (w : World) (A' : Option Addr) (b off c c' n : Nat) (N T : List ByteArray) (hn : n ≤ 255) (h0 : 0 < N.length) (h50 : N.length ≤ 50) (hT50 : T.length ≤ 50) (hb : b < w.heap.size)
    (hc : ∀ j, j < N.length → w.cell? ⟨b, off + j, none⟩ = some (.string (N.getD j ByteArray.empty))) (hT : Strs w A' T) (haw : Calls Tryz.prog 6 #[] w (AwakeOut w)) :
    Calls Tryz.prog 4 #[.slice (some ⟨b, off, none⟩) N.length c, .slice A' T.length c', .int .u8 n] w (LawOut w) := by
  obtain ⟨i0, hi, hz0, hz1, hz2⟩ := info_parts infoInt
  have hne : ((N.length : Int) == 0) = false := by rw [beq_eq_false_iff_ne]; omega
  have H0 := Lib.hid hc
  have HT := Lib.hid hT
  have HA := Lib.hid haw
  clear hc hT haw
  go_enter Tryz.func4, Tryz.ntmps4
  go_wp2_with (first | (go_at_call 6; refine HA.out.mono ?_; rintro e w1 ⟨rfl, hb1⟩; have hlt1 : b < w1.heap.size := Nat.lt_of_lt_of_le hb hb1.size) | (go_at_call 11; refine (order_some w1 _ _ _ _ _ _ N T h0 h50 hT50 hlt1 (strs_keep H0.out hb hb1) (Strs.keep HT.out hb1)).mono ?_; intro e w2 ht; obtain ⟨Ao, co, ok, L, rfl, hown, hb2, hok, hiff⟩ := order_one ht; have HK := Lib.hid hok; have HI := Lib.hid hiff; clear ht hok hiff))
  have hB := hb1.trans (hb2.mono hb1.size)
  have hc2 := Lib.hid (strs_keep H0.out hb hB)
  have hT2 := Lib.hid (Strs.keep HT.out hB)
  have hlt2 : b < w2.heap.size := Nat.lt_of_lt_of_le hb hB.size
  clear HA H0 HT
  go_loopw [10, 11] (fun v i wr => ∃ (k : Nat) (P : List Int), k ≤ T.length ∧ P.length ≤ k ∧ i = .int .i64 k ∧ OwnInts w2.heap.size wr v P ∧ Below w2.heap.size w2 wr ∧ wantL N T = P ++ wantL N (T.drop k)) (fun _ i _ => T.length - (intOf i).toNat)
  case atStart => exact ⟨0, [], Nat.zero_le _, Nat.zero_le _, rfl, World.ownsRow_nil _ _ _ _, Below.refl _ _, rfl⟩
  case round =>
    obtain ⟨k, P, hk, hP, rfl, hownP, hnx, hw⟩ := hrel
    obtain ⟨Ap, cp, rfl⟩ := own_form hownP
    have HW := Lib.hid hw
    clear hw
    by_cases hlt : k < T.length
    · obtain ⟨b', off', rfl, hb', hcT⟩ := hT2.out k hlt
      obtain ⟨s, hs⟩ : ∃ s, s = T.getD k ByteArray.empty := ⟨_, rfl⟩
      have hcx : wr.cell? ⟨b', off' + k, none⟩ = some (.string s) := by rw [hs]; exact (hnx.cell (by exact hb')).trans hcT
      have HN := Lib.hid (strs_keep hc2.out hlt2 hnx)
      have HE := Lib.hid hs
      clear hs hcT
      go_wp2
      obtain ⟨wo, rfl⟩ : ∃ wo : World, wo = wr := ⟨_, rfl⟩
      have hend := fndAt_end N s
      have HX := Lib.hid hend
      clear hend
      go_loopw [12, 13] (fun a i wi => ∃ (x : Int) (m : Nat), -1 ≤ x ∧ x < N.length ∧ i = .int .i64 x ∧ a = .int .i64 (fndAt N s (x + 1).toNat) ∧ wi = wo.drewN m) (fun _ i _ => (intOf i + 1).toNat)
      case atStart => exact ⟨(N.length : Int) - 1, 0, by omega, by omega, rfl, by rw [show ((N.length : Int) - 1 + 1).toNat = N.length by omega, HX.out], rfl⟩
      case round =>
        obtain ⟨x, m, hx1, hx2, rfl, rfl, rfl⟩ := hrel
        by_cases hx : 0 ≤ x
        · obtain ⟨j, rfl⟩ : ∃ j : Nat, x = j := ⟨x.toNat, by omega⟩
          have hj : j < N.length := by omega
          obtain ⟨y, hy⟩ : ∃ y, y = N.getD j ByteArray.empty := ⟨_, rfl⟩
          have hcy : wo.cell? ⟨b, off + j, none⟩ = some (.string y) := by rw [hy]; exact HN.out j hj
          have hst := fndAt_step N s j hj
          rw [← hy] at hst
          have HS := Lib.hid hst
          have HY := Lib.hid hy
          clear hst hy
          go_wp2
          go_quiet (fail)
          go_wp2
          · have h := same_of (by assumption)
            go_roundw
            case rel => exact ⟨(j : Int) - 1, _, by omega, by omega, rfl, by rw [show ((j : Int) - 1 + 1).toNat = j by omega, HS.out, if_pos h.symm], rfl⟩
            case measure => simp [intOf]
          · have h := apart_of (by assumption)
            go_roundw
            case rel => exact ⟨(j : Int) - 1, _, by omega, by omega, rfl, by rw [show ((j : Int) - 1 + 1).toNat = j by omega, HS.out, if_neg (fun e => h e.symm)]; congr 2, rfl⟩
            case measure => simp [intOf]
        · have he : x = -1 := by omega
          subst he
          rw [show ((-1 : Int) + 1).toNat = 0 from rfl]
          have hbd := fndAt_bd N s 0 (Nat.zero_le _)
          obtain ⟨b1, b2⟩ := hbd
          clear HN
          by_cases hf : fndAt N s 0 < 0
          · have hX2 := want_miss N T P k hlt (by rw [← HE.out]; exact hf) HW.out
            have HX2 := Lib.hid hX2
            clear hX2 HW
            have hlo : ok = true → P.length = N.length := fun h => by rw [← HX2.out]; exact HI.out.1 h
            have hln : ok = false → P.length ≠ N.length := fun h e => by
              have := HI.out.2 (by rw [HX2.out]; exact e)
              rw [h] at this
              cases this
            have HLO := Lib.hid hlo
            have HLN := Lib.hid hln
            clear hlo hln
            cases ok with
            | false =>
              have hn := HLN.out rfl
              have hd : ((P.length : Int) == N.length) = false := by rw [beq_eq_false_iff_ne]; omega
              go_wp2
              go_loop [14] (fun i => i = .int .i64 0) (fun _ => 0)
              case atStart => rfl
              case round =>
                subst hrel
                go_wp2
                all_goals (go_ret; exact ⟨rfl, hB.trans (below_drewN (hnx.mono hB.size) _)⟩)
            | true =>
              have hn := HLO.out rfl
              obtain rfl : L = P := (HK.out rfl).trans HX2.out
              clear HK HX2 HLO HLN HI
              have hd : ((L.length : Int) == N.length) = true := by rw [beq_iff_eq]; omega
              clear hn
              go_wp2
              clear hd
              go_loopw [14] (fun i wi => ∃ q : Nat, q ≤ L.length ∧ i = .int .i64 q ∧ Below w2.heap.size w2 wi ∧ OwnInts w2.heap.size wi (.slice Ap L.length cp) L) (fun i _ => L.length - (intOf i).toNat)
              case atStart => exact ⟨0, Nat.zero_le _, rfl, below_drewN hnx _, hownP⟩
              case round =>
                obtain ⟨q, hq, rfl, hnq, hoq⟩ := hrel
                by_cases hql : q < L.length
                · obtain ⟨g, rfl, hg, hcg⟩ := own_cell hown hql
                  obtain ⟨g', rfl, hg', hcg'⟩ := own_cell hoq hql
                  obtain ⟨z, hz⟩ : ∃ z, z = L.getD q 0 := ⟨_, rfl⟩
                  rw [← hz] at hcg hcg'
                  have hcw : wr.cell? ⟨g, q, none⟩ = some (.int .i64 z) := (hnq.cell (by exact hg)).trans hcg
                  clear hcg hz
                  go_wp2
                  go_quiet (fail)
                  go_wp2
                  go_roundw
                  case rel => first | exact ⟨q + 1, by omega, by go_num, below_drewN hnq _, hoq⟩ | ((repeat apply Exists.intro); exact ⟨⟨q + 1, by omega, by go_num, below_drewN hnq _, hoq⟩, rfl⟩)
                  case measure => simp [intOf]; omega
                · go_wp2
                  go_ret
                  exact ⟨rfl, hB.trans (hnq.mono hB.size)⟩
          · go_wp2_with (at_builtin; refine wpList_append_own _ rfl _ _ 28 rfl w2.heap.size 3 i0 (.int .i64 0) 1 8 Tryz.underlying28 hi hz0 hz1 hz2 rfl (by decide) _ _ _ rfl (World.ownsRow.alloc hownP _) ⟨wo.heap.size, 0, none⟩ 1 1 [.int .i64 (fndAt N s 0)] rfl rfl ?c1 ?c2 ?c3 ?c4 ?c5 ?_)
            case c1 =>
              intro j u hj
              match j, hj with
              | 0, hj => cases hj; exact (World.cell?_alloc_at _ _ _ _ rfl).trans rfl
            case c2 => first | rfl | (intro u hu; simp at hu; subst hu; rfl)
            case c3 => unfold maxLen; omega
            case c4 => omega
            case c5 => have := hnx.size; first | omega | (simp; omega)
            · intro v' w1' hown' hgrow _
              have h1 := ints_push hown'
              have h2 : Below w2.heap.size w2 w1' := ((below_drewN hnx m).alloc hnx.size _).grown hgrow (by have := hnx.size; simp; omega) (fun j hj => (hownP.lt j hj).1)
              have hX := want_hit N T P k hlt (by rw [← HE.out]; omega) HW.out
              rw [← HE.out] at hX
              have HZ := Lib.hid hX
              clear hX HW hown' hgrow hownP hnx hcx HE
              go_wp2
              go_roundw
              case rel => exact ⟨k + 1, _, by omega, by simp; omega, by go_num, h1, h2, HZ.out⟩
              case measure => simp [intOf]; omega
    · have he : k = T.length := by omega
      subst he
      have hX2 := want_end N T P HW.out
      have HX2 := Lib.hid hX2
      clear hX2 HW
      have hlo : ok = true → P.length = N.length := fun h => by rw [← HX2.out]; exact HI.out.1 h
      have hln : ok = false → P.length ≠ N.length := fun h e => by
        have := HI.out.2 (by rw [HX2.out]; exact e)
        rw [h] at this
        cases this
      have HLO := Lib.hid hlo
      have HLN := Lib.hid hln
      clear hlo hln
      cases ok with
      | false =>
        have hn := HLN.out rfl
        have hd : ((P.length : Int) == N.length) = false := by rw [beq_eq_false_iff_ne]; omega
        go_wp2
        go_loop [14] (fun i => i = .int .i64 0) (fun _ => 0)
        case atStart => rfl
        case round =>
          subst hrel
          go_wp2
          all_goals (go_ret; exact ⟨rfl, hB.trans (hnx.mono hB.size)⟩)
      | true =>
        have hn := HLO.out rfl
        obtain rfl : L = P := (HK.out rfl).trans HX2.out
        clear HK HX2 HLO HLN HI
        have hd : ((L.length : Int) == N.length) = true := by rw [beq_iff_eq]; omega
        clear hn
        go_wp2
        clear hd
        go_loopw [14] (fun i wi => ∃ q : Nat, q ≤ L.length ∧ i = .int .i64 q ∧ Below w2.heap.size w2 wi ∧ OwnInts w2.heap.size wi (.slice Ap L.length cp) L) (fun i _ => L.length - (intOf i).toNat)
        case atStart => exact ⟨0, Nat.zero_le _, rfl, hnx, hownP⟩
        case round =>
          obtain ⟨q, hq, rfl, hnq, hoq⟩ := hrel
          by_cases hql : q < L.length
          · obtain ⟨g, rfl, hg, hcg⟩ := own_cell hown hql
            obtain ⟨g', rfl, hg', hcg'⟩ := own_cell hoq hql
            obtain ⟨z, hz⟩ : ∃ z, z = L.getD q 0 := ⟨_, rfl⟩
            rw [← hz] at hcg hcg'
            have hcw : wr.cell? ⟨g, q, none⟩ = some (.int .i64 z) := (hnq.cell (by exact hg)).trans hcg
            clear hcg hz
            go_wp2
            go_quiet (fail)
            go_wp2
            go_roundw
            case rel => first | exact ⟨q + 1, by omega, by go_num, below_drewN hnq _, hoq⟩ | ((repeat apply Exists.intro); exact ⟨⟨q + 1, by omega, by go_num, below_drewN hnq _, hoq⟩, rfl⟩)
            case measure => simp [intOf]; omega
          · go_wp2
            go_ret
            exact ⟨rfl, hB.trans (hnq.mono hB.size)⟩
end Go.Proofs.YtamkkkkonigglaaGreatDoor
