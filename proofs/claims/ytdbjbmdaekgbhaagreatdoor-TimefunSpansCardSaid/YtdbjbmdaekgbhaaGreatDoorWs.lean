/-
  TimefunSpans: the law's run, whatever is handed in.
-/
import Derived.Test.YtdbjbmdaekgbhaaGreatDoorWp
import Derived.Test.YtdbjbmdaekgbhaaGreatDoorWq
import Derived.Test.YtdbjbmdaekgbhaaGreatDoorWr
import Derived.Test.YtdbjbmdaekgbhaaGreatDoorFo
namespace Go.Proofs.YtdbjbmdaekgbhaaGreatDoor
open Go Go.Pe Go.RowKit

theorem isV_eqS {P : Prop} {v x : Value} (h : isV P (.agg ⟨[v]⟩) (.agg ⟨[x]⟩)) (hp : P) : x = v := by
  rcases h with ⟨_, h⟩ | ⟨hn, _⟩
  · cases h; rfl
  · exact absurd hp hn
theorem isV_neS {P : Prop} {v x : Value} (h : isV P (.agg ⟨[v]⟩) (.agg ⟨[x]⟩)) (hp : ¬ P) : x = .nilIface := by
  rcases h with ⟨hn, _⟩ | ⟨_, h⟩
  · exact absurd hn hp
  · cases h; rfl

section
variable {base : World} {op : ByteArray} {a b w : Value}
theorem ar_yes (hA : Tot base 84 [.string op, .agg ⟨[a]⟩, .agg ⟨[b]⟩] (.tuple #[.agg ⟨[w]⟩, .bool true])) (hi : inner w) (hp : Plainly base (.agg ⟨[w]⟩)) (pa : pureV 6 (.agg ⟨[a]⟩) = true) (pb : pureV 6 (.agg ⟨[b]⟩) = true) :
    Tot base 24 [.string op, .agg ⟨[a]⟩, .agg ⟨[b]⟩, .agg ⟨[w]⟩, .bool true] (.bool true) := arith_tot hA (by simp) hi hp pa pb hp.1
theorem ar_no (B : Begun base) (hA : Tot base 84 [.string op, .agg ⟨[a]⟩, .agg ⟨[b]⟩] (.tuple #[nullV, .bool true])) (pa : pureV 6 (.agg ⟨[a]⟩) = true) (pb : pureV 6 (.agg ⟨[b]⟩) = true) (pw : pureV 6 (.agg ⟨[w]⟩) = true) :
    Tot base 24 [.string op, .agg ⟨[a]⟩, .agg ⟨[b]⟩, .agg ⟨[w]⟩, .bool false] (.bool true) := arith_tot (r := .nilIface) hA (by simp [nullV]) (.inl rfl) (plainly_null B) pa pb pw
end

theorem isV_pureS {P : Prop} {v x : Value} (hv : pureV 6 (.agg ⟨[v]⟩) = true) (h : isV P (.agg ⟨[v]⟩) (.agg ⟨[x]⟩)) : pureV 6 (.agg ⟨[x]⟩) = true := isV_pure hv _ h
theorem spanM (a : Int) : spanOk (Int.tmod a 9007199254740992) := by
  have h1 := Int.lt_tmod_of_pos a (b := 9007199254740992) (by decide)
  have h2 := Int.tmod_lt_of_pos a (b := 9007199254740992) (by decide)
  unfold spanOk
  omega
theorem negW {n : Int} (h : spanOk n) : IntKind.wrap .i64 (0 - n) = -n := by
  unfold spanOk at h
  rw [Int.zero_sub]
  exact wrap_i64 _ (by unfold rng; omega)
theorem spanNeg {n : Int} (h : spanOk n) : spanOk (-n) := by
  unfold spanOk at *
  omega
def dayI (n : Int) : Value := .iface 125 (.int .i64 n)
def monI (n : Int) : Value := .iface 126 (.int .i64 n)
theorem addOk_iff {n m : Int} (hn : spanOk n) (hm : spanOk m) : addOk n m ↔ spanOk (n + m) := by
  unfold addOk
  rw [xAdd hn hm]
  exact ⟨fun h => h.2.2, fun h => ⟨hn, hm, h⟩⟩

theorem spans_hk {base : World} (B : Begun base) (n0 : Bool) {h0 l0 : Int} (e0 a c : Int) (hh : u64 h0) (hl : u64 l0) :
    ReckE (envB (rulesSpans base)) 30 3 [.int .i64 a, .int .i64 c, decC n0 h0 l0 e0] (· = .bool true) := by
  have hn := spanM a
  have hm := spanM c
  constructor
  rw [spans_law (fun u mw => u = .bool true ∧ Tryz.prog.globals.size ≤ mw)]
  generalize Int.tmod a 9007199254740992 = n at hn ⊢
  generalize Int.tmod c 9007199254740992 = m at hm ⊢
  rw [negW hn, negW hm]
  have hnn := spanNeg hn
  have hmm := spanNeg hm
  have hni : i64 n := by
    unfold spanOk at hn
    unfold i64
    omega
  have hmi : i64 m := by
    unfold spanOk at hm
    unfold i64
    omega
  refine ⟨rfl, ⟨hh, hl⟩, fun b x y k hd => ⟨rfl, _, numOk base b x y k (dmay_tot hd).tot, rfl, ?_⟩⟩
  obtain ⟨ux, uy, _, ek1, ek2, _⟩ := hd
  have uk : i64 k := by
    unfold i64
    omega
  intro x2 h2 x3 h3 x4 h4 x5 h5
  obtain rfl := isV_eqS h2 hn
  obtain rfl := isV_eqS h3 hm
  obtain rfl := isV_eqS h4 hn
  obtain rfl := isV_eqS h5 hm
  clear h2 h3 h4 h5
  refine ⟨rfl, rfl, rfl, rfl, _, pDays base n, rfl, rng_w _, _, pHours base n, rfl, rng_w _, _, pMinutes base n, rfl, rng_w _, _, pSeconds base n, rfl, rng_m _ (by decide) (by decide), _, pYears base n, rfl, rng_w _, _, pMonths base n, rfl, rng_m _ (by decide) (by decide), ?_⟩
  have hs := sNeg base n (by rw [negW hn]; exact hnn)
  have hs' := mNeg base n (by rw [negW hn]; exact hnn)
  rw [negW hn] at hs hs'
  refine ⟨_, hs, fun x6 h6 => ?_⟩
  obtain rfl := isV_eqS h6 hnn
  refine ⟨rfl, plainly_days B _, _, hs', fun x7 h7 => ?_⟩
  obtain rfl := isV_eqS h7 hnn
  refine ⟨rfl, plainly_months B _, ?_⟩
  clear h6 h7 hs hs'
  intro k1 b1 hk1 k2 b2 hk2
  obtain ⟨_, ⟨t, ok, rfl, _⟩, hT⟩ := totA_of (base := base) (envW_ok (rulesSp_ok base)) (findL_ok (l := []) rfl fun _ h => nomatch h) rfl (stimes_hk n b x y k hni ux uy uk) (fun v ⟨_, _, hv, _⟩ => by subst hv; kernel_rfl) (List.forall_mem_cons.2 ⟨by kernel_rfl, List.forall_mem_cons.2 ⟨by kernel_rfl, fun _ h => nomatch h⟩⟩)
  refine ⟨⟨t, ok, hT.tot⟩, ?_⟩
  clear hT t ok
  intro k3 b3 hT
  obtain ⟨_, ⟨t, ok, rfl, _⟩, hO⟩ := totA_of (base := base) (envW_ok (rulesSp_ok base)) (findL_ok (l := []) rfl fun _ h => nomatch h) rfl (sover_hk n b x y k hni ux uy uk) (fun v ⟨_, _, hv, _⟩ => by subst hv; kernel_rfl) (List.forall_mem_cons.2 ⟨by kernel_rfl, List.forall_mem_cons.2 ⟨by kernel_rfl, fun _ h => nomatch h⟩⟩)
  refine ⟨⟨t, ok, hO.tot⟩, ?_⟩
  clear hO t ok
  intro k4 b4 hO
  obtain ⟨_, ⟨n', a', c', e', ok, rfl, q1, q2, q3⟩, hR⟩ := totA_of (base := base) (envW_ok (rulesSp_ok base)) (findL_ok (l := []) rfl fun _ h => nomatch h) rfl (sratio_hk n m hni hmi) (fun v ⟨_, _, _, _, _, hv, _⟩ => by subst hv; kernel_rfl) (List.forall_mem_cons.2 ⟨by kernel_rfl, List.forall_mem_cons.2 ⟨by kernel_rfl, fun _ h => nomatch h⟩⟩)
  refine ⟨⟨n', a', c', e', ok, ⟨q1, q2, q3⟩, hR.tot⟩, ?_⟩
  clear hR q1 q2 q3 n' a' c' e' ok
  intro n' a' c' e' ok q1 q2 q3 hR
  refine ⟨rfl, ?_⟩
  have pd : ∀ j : Int, pureV 6 (.agg ⟨[dayI j]⟩) = true := fun j => by kernel_rfl
  have pm : ∀ j : Int, pureV 6 (.agg ⟨[monI j]⟩) = true := fun j => by kernel_rfl
  have pN : pureV 6 (numV b x y k) = true := by kernel_rfl
  have idy : ∀ j : Int, inner (dayI j) := fun j => .inr ⟨_, _, rfl⟩
  have imo : ∀ j : Int, inner (monI j) := fun j => .inr ⟨_, _, rfl⟩
  refine fun z1 g1 => ⟨?_, fun z2 g2 => ⟨?_, fun z3 g3 => ⟨?_, fun z4 g4 => ⟨?_, fun z5 g5 => ⟨?_, fun z6 g6 => ⟨?_, fun z7 g7 => ⟨?_, ?_⟩⟩⟩⟩⟩⟩⟩
  · rcases hk1 with ⟨ho, rfl, rfl⟩ | ⟨ho, rfl⟩
    · rw [xAdd hn hm] at g1
      have ho := (addOk_iff hn hm).1 ho
      obtain rfl := isV_eqS g1 ho
      exact ar_yes (sAddT base n m hn hm ho) (idy _) (plainly_days B _) (pd _) (pd _)
    · exact ar_no B (sAddF base n m hn hm fun h => ho ((addOk_iff hn hm).2 h)) (pd _) (pd _) (isV_pureS (pd _) g1)
  · rcases hk1 with ⟨ho, rfl, rfl⟩ | ⟨ho, rfl⟩
    · rw [xAdd hn hm] at g2
      have ho := (addOk_iff hn hm).1 ho
      obtain rfl := isV_eqS g2 ho
      exact ar_yes (mAddT base n m hn hm ho) (imo _) (plainly_months B _) (pm _) (pm _)
    · exact ar_no B (mAddF base n m hn hm fun h => ho ((addOk_iff hn hm).2 h)) (pm _) (pm _) (isV_pureS (pm _) g2)
  · rcases hk2 with ⟨ho, rfl, rfl⟩ | ⟨ho, rfl⟩
    · rw [xAdd hn hmm] at g3
      have ho := (addOk_iff hn hmm).1 ho
      obtain rfl := isV_eqS g3 ho
      exact ar_yes (sSubT base n m hn hm ho) (idy _) (plainly_days B _) (pd _) (pd _)
    · exact ar_no B (sSubF base n m hn hm fun h => ho ((addOk_iff hn hmm).2 h)) (pd _) (pd _) (isV_pureS (pd _) g3)
  · rcases hk2 with ⟨ho, rfl, rfl⟩ | ⟨ho, rfl⟩
    · rw [xAdd hn hmm] at g4
      have ho := (addOk_iff hn hmm).1 ho
      obtain rfl := isV_eqS g4 ho
      exact ar_yes (mSubT base n m hn hm ho) (imo _) (plainly_months B _) (pm _) (pm _)
    · exact ar_no B (mSubF base n m hn hm fun h => ho ((addOk_iff hn hmm).2 h)) (pm _) (pm _) (isV_pureS (pm _) g4)
  · cases b3 with
    | true =>
      by_cases ho : spanOk k3
      · obtain rfl := isV_eqS g5 ho
        exact ar_yes (sMulT base n b x y k k3 hT ho) (idy _) (plainly_days B _) (pd _) pN
      · obtain rfl := isV_neS g5 ho
        exact ar_yes (sMulN base n b x y k k3 hT ho) (.inl rfl) (plainly_null B) (pd _) pN
    | false => exact ar_no B (sMulF base n b x y k k3 hT) (pd _) pN (isV_pureS (pd _) g5)
  · cases b3 with
    | true =>
      by_cases ho : spanOk k3
      · obtain rfl := isV_eqS g6 ho
        exact ar_yes (mMulT base n b x y k k3 hT ho) (imo _) (plainly_months B _) pN (pm _)
      · obtain rfl := isV_neS g6 ho
        exact ar_yes (mMulN base n b x y k k3 hT ho) (.inl rfl) (plainly_null B) pN (pm _)
    | false => exact ar_no B (mMulF base n b x y k k3 hT) pN (pm _) (isV_pureS (pm _) g6)
  · cases b4 with
    | true =>
      by_cases ho : spanOk k4
      · obtain rfl := isV_eqS g7 ho
        exact ar_yes (sDivT base n b x y k k4 hO ho) (idy _) (plainly_days B _) (pd _) pN
      · obtain rfl := isV_neS g7 ho
        exact ar_yes (sDivN base n b x y k k4 hO ho) (.inl rfl) (plainly_null B) (pd _) pN
    | false => exact ar_no B (sDivF base n b x y k k4 hO) (pd _) pN (isV_pureS (pd _) g7)
  · obtain ⟨v, hv, hN⟩ := vnumD_tot (base := base) n' e' q1 q2
    have hx : ∃ i : Value, v = .agg ⟨[i]⟩ ∧ Plainly base (.agg ⟨[i]⟩) ∧ (Value.agg ⟨[i]⟩ = numV n' a' c' e' ∨ i = .nilIface) := by
      rcases hv with rfl | rfl
      · exact ⟨_, rfl, plainly_num B n' q1 q2 q3, .inl rfl⟩
      · exact ⟨_, rfl, plainly_null B, .inr rfl⟩
    obtain ⟨i, rfl, hp, hi⟩ := hx
    refine ⟨i, hN, ?_, ?_, ?_, ?_, rfl, Nat.le_of_ble_eq_true (by kernel_rfl)⟩
    · cases ok with
      | true =>
        rcases hi with e | rfl
        · obtain rfl : i = _ := by cases e; rfl
          exact ar_yes (mRatT base n m n' a' c' e' hR hN) (.inr ⟨_, _, rfl⟩) hp (pm _) (pm _)
        · exact ar_yes (mRatN base n m n' a' c' e' hR hN) (.inl rfl) hp (pm _) (pm _)
      | false => exact ar_no B (mRatF base n m n' a' c' e' i hR hN) (pm _) (pm _) hp.1
    · exact ar_no B (xAddN base n n) (pd _) (pm _) (pd _)
    · exact ar_no B (xDivN base n b x y k) pN (pd _) (pd _)
    · exact ar_no B (xMulN base n m) (pd _) (pd _) (pd _)

theorem spans_calls {W : World} (hs : W.ShapedOpen Tryz.prog) (hT : Lib.TabIs Tryz.prog W "internal/strconv.uint64pow10" .u64 pow10s) (a c : Int) (n0 : Bool) (h0 l0 e0 : Int) (hh : u64 h0) (hl : u64 l0) :
    Calls Tryz.prog 3 #[.int .i64 a, .int .i64 c, decC n0 h0 l0 e0] W (fun e w' => e = .returned (.bool true) ∧ Below W.heap.size W w') :=
  law_calls hs hT (envB_ok (rulesSpans_ok W)) envB_loops rfl Tryz.func3 (by kernel_rfl) (List.forall_mem_cons.2 ⟨by kernel_rfl, List.forall_mem_cons.2 ⟨by kernel_rfl, pure1 (by kernel_rfl)⟩⟩)
    (spans_hk (begun_of hs hT) n0 e0 a c hh hl)

end Go.Proofs.YtdbjbmdaekgbhaaGreatDoor
