/-
  ValueReads: the law's run, whatever is handed in.
-/
import Derived.Test.YtdbjbmdaekgbhaaGreatDoorXv
import Derived.Test.YtdbjbmdaekgbhaaGreatDoorWkA
import Derived.Test.YtdbjbmdaekgbhaaGreatDoorVs
import Derived.Test.YtdbjbmdaekgbhaaGreatDoorVa
import Derived.Test.YtdbjbmdaekgbhaaGreatDoorFo
namespace Go.Proofs.YtdbjbmdaekgbhaaGreatDoor
open Go Go.Pe Go.RowKit
theorem ldays_hk_tree (K : Value → Nat → Prop) (n : Int) :
 funcK (env rulesT2) 30 53 [.int .i64 n] tabs Tryz.prog.globals.size (fun u _ _ mw => K u mw) =
 (bsel (decide (n < (-9007199254740992 : Int))) (K (Value.string (ByteArray.mk #[])) 18446744073709551616) (bsel (decide (n > (9007199254740992 : Int))) (K (Value.string (ByteArray.mk #[])) 18446744073709551616) (bsel (decide (n < (0 : Int))) (rng (IntKind.wrap .i64 (Int.tdiv (IntKind.wrap .i64 ((0 : Int) - n)) (86400 : Int))) ∧ 1 ≤ 1 ∧ ∀ (s : ByteArray), strLen s ≤ 24 → rng (IntKind.wrap .i64 (Int.tdiv (Int.tmod (IntKind.wrap .i64 ((0 : Int) - n)) (86400 : Int)) (3600 : Int))) ∧ 1 ≤ 1 ∧ ∀ (s_1 : ByteArray), strLen s_1 ≤ 24 → rng (Int.tmod (IntKind.wrap .i64 (Int.tdiv (Int.tmod (IntKind.wrap .i64 ((0 : Int) - n)) (86400 : Int)) (60 : Int))) (60 : Int)) ∧ 1 ≤ 1 ∧ ∀ (s_2 : ByteArray), strLen s_2 ≤ 24 → bsel (Nat.ble (strLen s_1 + strLen s_2) 9223372036854775807) (rng (Int.tmod (Int.tmod (IntKind.wrap .i64 ((0 : Int) - n)) (86400 : Int)) (60 : Int)) ∧ 1 ≤ 1 ∧ ∀ (s_3 : ByteArray), strLen s_3 ≤ 24 → bsel (Nat.ble (strLen (strCat s_1 s_2) + strLen s_3) 9223372036854775807) (bsel (strEq s (ByteArray.mk #[])) (bsel (strEq (strCat (strCat s_1 s_2) s_3) (ByteArray.mk #[])) (K (Value.string (ByteArray.mk #[(80 : UInt8), (84 : UInt8), (48 : UInt8), (83 : UInt8)])) 18446744073709551616) (bsel (!strEq (strCat (strCat s_1 s_2) s_3) (ByteArray.mk #[])) (bsel (Nat.ble (1 + strLen (strCat (strCat s_1 s_2) s_3)) 9223372036854775807) (bsel (Nat.ble (2 + strLen s) 9223372036854775807) (bsel (Nat.ble (strLen (strCat (strCat (ByteArray.mk #[(45 : UInt8)]) (ByteArray.mk #[(80 : UInt8)])) s) + strLen (strCat (ByteArray.mk #[(84 : UInt8)]) (strCat (strCat s_1 s_2) s_3))) 9223372036854775807) (K (Value.string (strCat (strCat (strCat (ByteArray.mk #[(45 : UInt8)]) (ByteArray.mk #[(80 : UInt8)])) s) (strCat (ByteArray.mk #[(84 : UInt8)]) (strCat (strCat s_1 s_2) s_3)))) 18446744073709551616) False) False) False) (bsel (Nat.ble (2 + strLen s) 9223372036854775807) (bsel (Nat.ble (strLen (strCat (strCat (ByteArray.mk #[(45 : UInt8)]) (ByteArray.mk #[(80 : UInt8)])) s) + strLen (strCat (strCat s_1 s_2) s_3)) 9223372036854775807) (K (Value.string (strCat (strCat (strCat (ByteArray.mk #[(45 : UInt8)]) (ByteArray.mk #[(80 : UInt8)])) s) (strCat (strCat s_1 s_2) s_3))) 18446744073709551616) False) False))) (bsel (!strEq (strCat (strCat s_1 s_2) s_3) (ByteArray.mk #[])) (bsel (Nat.ble (1 + strLen (strCat (strCat s_1 s_2) s_3)) 9223372036854775807) (bsel (Nat.ble (2 + strLen s) 9223372036854775807) (bsel (Nat.ble (strLen (strCat (strCat (ByteArray.mk #[(45 : UInt8)]) (ByteArray.mk #[(80 : UInt8)])) s) + strLen (strCat (ByteArray.mk #[(84 : UInt8)]) (strCat (strCat s_1 s_2) s_3))) 9223372036854775807) (K (Value.string (strCat (strCat (strCat (ByteArray.mk #[(45 : UInt8)]) (ByteArray.mk #[(80 : UInt8)])) s) (strCat (ByteArray.mk #[(84 : UInt8)]) (strCat (strCat s_1 s_2) s_3)))) 18446744073709551616) False) False) False) (bsel (Nat.ble (2 + strLen s) 9223372036854775807) (bsel (Nat.ble (strLen (strCat (strCat (ByteArray.mk #[(45 : UInt8)]) (ByteArray.mk #[(80 : UInt8)])) s) + strLen (strCat (strCat s_1 s_2) s_3)) 9223372036854775807) (K (Value.string (strCat (strCat (strCat (ByteArray.mk #[(45 : UInt8)]) (ByteArray.mk #[(80 : UInt8)])) s) (strCat (strCat s_1 s_2) s_3))) 18446744073709551616) False) False))) False) False) (rng (IntKind.wrap .i64 (Int.tdiv n (86400 : Int))) ∧ 1 ≤ 1 ∧ ∀ (s : ByteArray), strLen s ≤ 24 → rng (IntKind.wrap .i64 (Int.tdiv (Int.tmod n (86400 : Int)) (3600 : Int))) ∧ 1 ≤ 1 ∧ ∀ (s_1 : ByteArray), strLen s_1 ≤ 24 → rng (Int.tmod (IntKind.wrap .i64 (Int.tdiv (Int.tmod n (86400 : Int)) (60 : Int))) (60 : Int)) ∧ 1 ≤ 1 ∧ ∀ (s_2 : ByteArray), strLen s_2 ≤ 24 → bsel (Nat.ble (strLen s_1 + strLen s_2) 9223372036854775807) (rng (Int.tmod (Int.tmod n (86400 : Int)) (60 : Int)) ∧ 1 ≤ 1 ∧ ∀ (s_3 : ByteArray), strLen s_3 ≤ 24 → bsel (Nat.ble (strLen (strCat s_1 s_2) + strLen s_3) 9223372036854775807) (bsel (strEq s (ByteArray.mk #[])) (bsel (strEq (strCat (strCat s_1 s_2) s_3) (ByteArray.mk #[])) (K (Value.string (ByteArray.mk #[(80 : UInt8), (84 : UInt8), (48 : UInt8), (83 : UInt8)])) 18446744073709551616) (bsel (!strEq (strCat (strCat s_1 s_2) s_3) (ByteArray.mk #[])) (bsel (Nat.ble (1 + strLen (strCat (strCat s_1 s_2) s_3)) 9223372036854775807) (bsel (Nat.ble (1 + strLen s) 9223372036854775807) (bsel (Nat.ble (strLen (strCat (strCat (ByteArray.mk #[]) (ByteArray.mk #[(80 : UInt8)])) s) + strLen (strCat (ByteArray.mk #[(84 : UInt8)]) (strCat (strCat s_1 s_2) s_3))) 9223372036854775807) (K (Value.string (strCat (strCat (strCat (ByteArray.mk #[]) (ByteArray.mk #[(80 : UInt8)])) s) (strCat (ByteArray.mk #[(84 : UInt8)]) (strCat (strCat s_1 s_2) s_3)))) 18446744073709551616) False) False) False) (bsel (Nat.ble (1 + strLen s) 9223372036854775807) (bsel (Nat.ble (strLen (strCat (strCat (ByteArray.mk #[]) (ByteArray.mk #[(80 : UInt8)])) s) + strLen (strCat (strCat s_1 s_2) s_3)) 9223372036854775807) (K (Value.string (strCat (strCat (strCat (ByteArray.mk #[]) (ByteArray.mk #[(80 : UInt8)])) s) (strCat (strCat s_1 s_2) s_3))) 18446744073709551616) False) False))) (bsel (!strEq (strCat (strCat s_1 s_2) s_3) (ByteArray.mk #[])) (bsel (Nat.ble (1 + strLen (strCat (strCat s_1 s_2) s_3)) 9223372036854775807) (bsel (Nat.ble (1 + strLen s) 9223372036854775807) (bsel (Nat.ble (strLen (strCat (strCat (ByteArray.mk #[]) (ByteArray.mk #[(80 : UInt8)])) s) + strLen (strCat (ByteArray.mk #[(84 : UInt8)]) (strCat (strCat s_1 s_2) s_3))) 9223372036854775807) (K (Value.string (strCat (strCat (strCat (ByteArray.mk #[]) (ByteArray.mk #[(80 : UInt8)])) s) (strCat (ByteArray.mk #[(84 : UInt8)]) (strCat (strCat s_1 s_2) s_3)))) 18446744073709551616) False) False) False) (bsel (Nat.ble (1 + strLen s) 9223372036854775807) (bsel (Nat.ble (strLen (strCat (strCat (ByteArray.mk #[]) (ByteArray.mk #[(80 : UInt8)])) s) + strLen (strCat (strCat s_1 s_2) s_3)) 9223372036854775807) (K (Value.string (strCat (strCat (strCat (ByteArray.mk #[]) (ByteArray.mk #[(80 : UInt8)])) s) (strCat (strCat s_1 s_2) s_3))) 18446744073709551616) False) False))) False) False)))) := by kernel_rfl
theorem ldays_hk (n : Int)  : ReckE (env rulesT2) 30 53 [.int .i64 n] (isShort 500) := by
  constructor
  rw [ldays_hk_tree fun u mw => (isShort 500) u ∧ Tryz.prog.globals.size ≤ mw]
  repeat' (first | exact ⟨⟨_, rfl, by first | exact Nat.zero_le _ | omega | (simp only [strLen_cat, sl0, sl1, slL, List.length_cons, List.length_nil]; omega)⟩, globals_big⟩ | exact ⟨⟨_, rfl, by first | exact Nat.zero_le _ | omega | (simp only [strLen_cat, sl0, sl1, slL, List.length_cons, List.length_nil]; omega)⟩, Nat.le_of_ble_eq_true (by kernel_rfl)⟩ | assumption | exact Or.inl rfl | exact Or.inr rfl | exact rng_wrap _ | exact rngT (by decide) (by decide) | exact Nat.le_refl _ | refine And.intro ?_ ?_ | refine bsel_of (fun _ => ?_) (fun h => noBig (by first | omega | (simp only [strLen_cat, sl0, sl1, slL, List.length_cons, List.length_nil]; omega)) h) | refine bsel_of (fun _ => ?_) (fun _ => ?_) | intro _)
theorem lmonths_hk_tree (K : Value → Nat → Prop) (n : Int) :
 funcK (env rulesT2) 30 54 [.int .i64 n] tabs Tryz.prog.globals.size (fun u _ _ mw => K u mw) =
 (bsel (decide (n < (-9007199254740992 : Int))) (K (Value.string (ByteArray.mk #[])) 18446744073709551616) (bsel (decide (n > (9007199254740992 : Int))) (K (Value.string (ByteArray.mk #[])) 18446744073709551616) (bsel (decide (n < (0 : Int))) (bsel (IntKind.wrap .i64 ((0 : Int) - n) == (0 : Int)) (K (Value.string (ByteArray.mk #[(80 : UInt8), (48 : UInt8), (77 : UInt8)])) 18446744073709551616) (rng (IntKind.wrap .i64 (Int.tdiv (IntKind.wrap .i64 ((0 : Int) - n)) (12 : Int))) ∧ 1 ≤ 1 ∧ ∀ (s : ByteArray), strLen s ≤ 24 → bsel (Nat.ble (2 + strLen s) 9223372036854775807) (rng (Int.tmod (IntKind.wrap .i64 ((0 : Int) - n)) (12 : Int)) ∧ 1 ≤ 1 ∧ ∀ (s_1 : ByteArray), strLen s_1 ≤ 24 → bsel (Nat.ble (strLen (strCat (strCat (ByteArray.mk #[(45 : UInt8)]) (ByteArray.mk #[(80 : UInt8)])) s) + strLen s_1) 9223372036854775807) (K (Value.string (strCat (strCat (strCat (ByteArray.mk #[(45 : UInt8)]) (ByteArray.mk #[(80 : UInt8)])) s) s_1)) 18446744073709551616) False) False)) (bsel (n == (0 : Int)) (K (Value.string (ByteArray.mk #[(80 : UInt8), (48 : UInt8), (77 : UInt8)])) 18446744073709551616) (rng (IntKind.wrap .i64 (Int.tdiv n (12 : Int))) ∧ 1 ≤ 1 ∧ ∀ (s : ByteArray), strLen s ≤ 24 → bsel (Nat.ble (1 + strLen s) 9223372036854775807) (rng (Int.tmod n (12 : Int)) ∧ 1 ≤ 1 ∧ ∀ (s_1 : ByteArray), strLen s_1 ≤ 24 → bsel (Nat.ble (strLen (strCat (strCat (ByteArray.mk #[]) (ByteArray.mk #[(80 : UInt8)])) s) + strLen s_1) 9223372036854775807) (K (Value.string (strCat (strCat (strCat (ByteArray.mk #[]) (ByteArray.mk #[(80 : UInt8)])) s) s_1)) 18446744073709551616) False) False))))) := by kernel_rfl
theorem lmonths_hk (n : Int)  : ReckE (env rulesT2) 30 54 [.int .i64 n] (isShort 500) := by
  constructor
  rw [lmonths_hk_tree fun u mw => (isShort 500) u ∧ Tryz.prog.globals.size ≤ mw]
  repeat' (first | exact ⟨⟨_, rfl, by first | exact Nat.zero_le _ | omega | (simp only [strLen_cat, sl0, sl1, slL, List.length_cons, List.length_nil]; omega)⟩, globals_big⟩ | exact ⟨⟨_, rfl, by first | exact Nat.zero_le _ | omega | (simp only [strLen_cat, sl0, sl1, slL, List.length_cons, List.length_nil]; omega)⟩, Nat.le_of_ble_eq_true (by kernel_rfl)⟩ | assumption | exact Or.inl rfl | exact Or.inr rfl | exact rng_wrap _ | exact rngT (by decide) (by decide) | exact Nat.le_refl _ | refine And.intro ?_ ?_ | refine bsel_of (fun _ => ?_) (fun h => noBig (by first | omega | (simp only [strLen_cat, sl0, sl1, slL, List.length_cons, List.length_nil]; omega)) h) | refine bsel_of (fun _ => ?_) (fun _ => ?_) | intro _)
theorem short_tot {base : World} {rules : List (Nat × Rule)} (hr : ∀ x ∈ rules, RuleOk Tryz.prog base x.1 x.2) {f : Nat} {args : List Value} {k : Nat} (ha : ∀ x ∈ args, pureV 6 x = true) (hk : ReckE (env rules) 30 f args (isShort k)) : ∃ x, Tot base f args (.string x) := by
  obtain ⟨v, ⟨x, rfl, _⟩, ht⟩ := tot_ofE (base := base) (env_ok hr) env_loops rfl hk isShort_pure ha
  exact ⟨x, ht⟩
theorem ldateX_tot {base : World} (B : Begun base) (y m d : Int) : ∃ x, Tot base 50 [dateC y m d] (.string x) := by
  by_cases hd : dateOk y m d
  · exact short_tot (rulesT2_ok B) (pure1 (by kernel_rfl)) (ldate_hk hd)
  · obtain ⟨v, rfl, ht⟩ := tot_ofE (env_ok (rulesMn_ok base)) env_loops rfl (ldateN_hk y m d hd) (fun v hv => by subst hv; kernel_rfl) (pure1 (by kernel_rfl))
    exact ⟨_, ht⟩
theorem rdays_tot {base : World} {s : ByteArray} (hs : strLen s ≤ 1048576) : ∃ (n : Int) (ok : Bool), (-9007199254740992 ≤ n ∧ n ≤ 9007199254740992) ∧ Tot base 33 [.string s] (.tuple #[.int .i64 n, .bool ok]) := by
  obtain ⟨v, ⟨r0, r1, rfl, hf⟩, ht⟩ := totA_of (base := base) (envK_ok (rulesTk_ok base)) (findL_ok (l := []) rfl fun _ h => nomatch h) rfl (rdays_hk _ hs) (fun v ⟨_, _, hv, _⟩ => by subst hv; kernel_rfl) (List.forall_mem_cons.2 ⟨by kernel_rfl, fun _ h => nomatch h⟩)
  exact ⟨r0, r1, hf, ht.tot⟩
theorem rmonths_tot {base : World} {s : ByteArray} (hs : strLen s ≤ 1048576) : ∃ (n : Int) (ok : Bool), (-9007199254740992 ≤ n ∧ n ≤ 9007199254740992) ∧ Tot base 34 [.string s] (.tuple #[.int .i64 n, .bool ok]) := by
  obtain ⟨v, ⟨r0, r1, rfl, hf⟩, ht⟩ := totA_of (base := base) (envK_ok (rulesTk_ok base)) (findL_ok (l := []) rfl fun _ h => nomatch h) rfl (rmonths_hk _ hs) (fun v ⟨_, _, hv, _⟩ => by subst hv; kernel_rfl) (List.forall_mem_cons.2 ⟨by kernel_rfl, fun _ h => nomatch h⟩)
  exact ⟨r0, r1, hf, ht.tot⟩
theorem nsigned_tot {base : World} (B : Stood base) {s : ByteArray} (hs : strLen s ≤ 1048576) : ∃ (n : Bool) (a b e : Int) (ok : Bool), decOk n a b e ∧ Tot base 47 [.string s] (.tuple #[decC n a b e, .bool ok]) := by
  obtain ⟨v, ⟨r0, r1, r2, r3, r4, rfl, hf⟩, ht⟩ := totA_of (base := base) (envW_ok (rulesSg_ok B)) (findL_ok (l := []) rfl fun _ h => nomatch h) rfl (nsigned_hk s (by omega)) (fun v ⟨_, _, _, _, _, hv, _⟩ => by subst hv; kernel_rfl) (List.forall_mem_cons.2 ⟨by kernel_rfl, fun _ h => nomatch h⟩)
  exact ⟨r0, r1, r2, r3, r4, hf, ht.tot⟩
theorem listEq_eq : ∀ a b : List UInt8, listEq a b = true → a = b := by
  intro a
  induction a with
  | nil => intro b h; cases b with | nil => rfl | cons y b => simp [listEq] at h
  | cons x a ih =>
    intro b h
    cases b with
    | nil => simp [listEq] at h
    | cons y b =>
      unfold listEq at h
      split at h
      · rename_i hb
        have := beq_true hb
        rw [ih b h, UInt8.toNat_inj.1 this]
      · cases h
theorem strEq_comm {a b : ByteArray} (h : strEq a b = true) : strEq b a = true := by
  unfold strEq at h ⊢
  rw [listEq_eq _ _ h]
  exact strEq_refl _
theorem ruleX {base : World} {f : Nat} {R : PRule} (H : ∀ args T K, R args = some T → T K → ∃ v, Tot base f args v ∧ K v) : RuleOk Tryz.prog base f (rule1 R) := ruleOk_of fun args T K hT hK => by
  obtain ⟨v, h1, h2⟩ := H args T K hT hK
  exact ⟨v, h2, h1⟩
theorem rulesVr_ok {base : World} (ha : Tot base 45 [] (.bool true)) : ∀ x ∈ rulesVr base, RuleOk Tryz.prog base x.1 x.2 := by
  unfold rulesVr
  refine List.forall_mem_cons.2 ⟨ruleOk_at ha, ?_⟩
  refine List.forall_mem_cons.2 ⟨?_, ?_⟩
  · dsimp only
    refine ruleX fun args T K hT hK => ?_
    cases hT
    obtain ⟨_, _, hK⟩ := hK
    exact ⟨_, hK⟩
  refine List.forall_mem_cons.2 ⟨?_, ?_⟩
  · dsimp only
    refine ruleX fun args T K hT hK => ?_
    cases hT
    obtain ⟨_, _, _, hK⟩ := hK
    exact ⟨_, hK⟩
  refine List.forall_mem_cons.2 ⟨?_, ?_⟩
  · dsimp only
    refine ruleX fun args T K hT hK => ?_
    cases hT
    obtain ⟨_, _, _, _, _, hK⟩ := hK
    exact ⟨_, hK⟩
  refine List.forall_mem_cons.2 ⟨?_, ?_⟩
  · dsimp only
    refine ruleX fun args T K hT hK => ?_
    cases hT
    obtain ⟨_, _, _, _, hK⟩ := hK
    exact ⟨_, hK⟩
  refine List.forall_mem_cons.2 ⟨?_, ?_⟩
  · dsimp only
    refine ruleX fun args T K hT hK => ?_
    cases hT
    obtain ⟨_, _, _, _, hK⟩ := hK
    exact ⟨_, hK⟩
  refine List.forall_mem_cons.2 ⟨?_, ?_⟩
  · dsimp only
    refine ruleX fun args T K hT hK => ?_
    cases hT
    obtain ⟨_, _, _, _, _, _, _, hK⟩ := hK
    exact ⟨_, hK⟩
  refine List.forall_mem_cons.2 ⟨?_, ?_⟩
  · dsimp only
    refine ruleX fun args T K hT hK => ?_
    cases hT
    obtain ⟨_, _, hK⟩ := hK
    exact ⟨_, hK⟩
  refine List.forall_mem_cons.2 ⟨?_, ?_⟩
  · dsimp only
    refine ruleX fun args T K hT hK => ?_
    cases hT
    obtain ⟨_, _, hK⟩ := hK
    exact ⟨_, hK⟩
  refine List.forall_mem_cons.2 ⟨strX_ok, ?_⟩
  refine List.forall_mem_cons.2 ⟨strX_ok, ?_⟩
  refine List.forall_mem_cons.2 ⟨strX_ok, ?_⟩
  refine List.forall_mem_cons.2 ⟨strX_ok, ?_⟩
  refine List.forall_mem_cons.2 ⟨strX_ok, ?_⟩
  refine List.forall_mem_cons.2 ⟨strX_ok, ?_⟩
  refine List.forall_mem_cons.2 ⟨?_, ?_⟩
  · dsimp only
    refine ruleX fun args T K hT hK => ?_
    cases hT
    obtain ⟨_, hK⟩ := hK
    exact ⟨_, hK⟩
  exact rules4_ok base
theorem kind_of {k : Int} (h0 : 0 ≤ k) : ∃ c : Nat, 1 ≤ c ∧ c ≤ 16 ∧ IntKind.wrap .i64 (IntKind.wrap .u8 (1 + Int.tmod k 16)) = (c : Int) := by
  have e : Int.tmod k 16 = k % 16 := Int.tmod_eq_emod_of_nonneg h0
  rw [e]
  have h1 : 0 ≤ k % 16 := Int.emod_nonneg _ (by decide)
  have h2 : k % 16 < 16 := Int.emod_lt_of_pos _ (by decide)
  obtain ⟨m, hm⟩ := Int.eq_ofNat_of_zero_le h1
  rw [hm] at h2 ⊢
  have h3 : m < 16 := by omega
  refine ⟨m + 1, by omega, by omega, ?_⟩
  clear h1 h2 hm e
  match m, h3 with
  | 0, _ | 1, _ | 2, _ | 3, _ | 4, _ | 5, _ | 6, _ | 7, _ | 8, _ | 9, _ | 10, _ | 11, _ | 12, _ | 13, _ | 14, _ | 15, _ => rfl
  | m + 16, h => omega
theorem reads_run {base : World} (B : Firm base) (hU : Utf8At base) {k : Int} (h0 : 0 ≤ k) {s : ByteArray} (hs : strLen s ≤ 1048576) : ∃ c, ReckE (envX c (rulesVr base)) 30 6 [.int .u8 k, .string s] (· = .bool true) := by
  obtain ⟨c, h1, h2, hk⟩ := kind_of h0
  have pN := tPl1 base
  match c, h1, h2, hk with
  | 1, _, _, hk => exact ⟨_, r1 base k s hk (tOf1 base s) pN⟩
  | 2, _, _, hk =>
    cases e1 : strEq s ⟨#[116, 114, 117, 101]⟩ with
    | true => exact ⟨_, r2T base k s hk e1 (strEq_comm e1) (tOf2T base s e1) (tPl2T base)⟩
    | false =>
      cases e2 : strEq s ⟨#[102, 97, 108, 115, 101]⟩ with
      | true => exact ⟨_, r2F base k s hk e1 e2 (strEq_comm e2) (tOf2F base s e1 e2) (tPl2F base)⟩
      | false => exact ⟨_, r2N base k s hk e1 e2 (tOf2N base s e1 e2) pN⟩
  | 3, _, _, hk =>
    obtain ⟨n, a, b, e, ok, hd, hr⟩ := nsigned_tot B.stood hs
    have hd' := hd
    obtain ⟨u1, u2, k1, k2, _⟩ := hd'
    obtain ⟨x, _, hx⟩ := ntext_tot B.begun n u1 u2 (show i64 e by unfold i64; omega)
    cases ok with
    | true => exact ⟨_, r3T base k s n a b e x hk hr (tOf3T base s n a b e hr (dmay_tot hd).tot) hx (tPl3 base x n a b e hx)⟩
    | false => exact ⟨_, r3F base k s n a b e x hk hr (tOf3F base s n a b e hr) hx pN⟩
  | 4, _, _, hk =>
    have hv := valid_tot B.begun.low hU s (Nat.le_trans (show s.size ≤ 1048576 from hs) (by decide))
    cases hb : Lib.validD s.data.toList with
    | true =>
      rw [hb] at hv
      exact ⟨_, r4T base k s hk (by omega) hv (tOf4T base s hv (by omega)) (tPl4 base s)⟩
    | false =>
      rw [hb] at hv
      exact ⟨_, r4F base k s hk hv (tOf4F base s hv) pN⟩
  | 5, _, _, hk =>
    obtain ⟨y, m, d, ok, hd, hr⟩ := rdate_tot B hs
    obtain ⟨x, hx⟩ := ldateX_tot B.begun y m d
    cases ok with
    | true => exact ⟨_, r5T base k s y m d x hk hr (tOf5T base s y m d hr (hd rfl)) hx (tPl5 base x y m d hx)⟩
    | false => exact ⟨_, r5F base k s y m d x hk hr (tOf5F base s y m d hr) hx pN⟩
  | 6, _, _, hk =>
    obtain ⟨t, o, z, ok, hd, hr⟩ := rtime_tot B hs
    obtain ⟨x, hx⟩ := short_tot (rulesT2_ok B.begun) (pure1 (by kernel_rfl)) (ltime_hk hd)
    cases ok with
    | true => exact ⟨_, r6T base k s t o z x hk hr (tOf6T base s t o z hr hd) hx (tPl6 base x t o z hx)⟩
    | false => exact ⟨_, r6F base k s t o z x hk hr (tOf6F base s t o z hr) hx pN⟩
  | 7, _, _, hk =>
    obtain ⟨_, ⟨y, m, d, t, o, z, ok, rfl, q1, q2⟩, hr⟩ := rmom_tot B hs
    cases ok with
    | true =>
      obtain ⟨g1, g2⟩ := q1 rfl
      obtain ⟨x, hx⟩ := short_tot (rulesT3_ok B.begun) (pure1 (by kernel_rfl)) (lmom_hk y m d t o z g1 g2)
      exact ⟨_, r7T base k s y m d t o z x hk hr (tOf7T base s y m d t o z hr g1 g2) hx (tPl7 base x y m d t o z hx)⟩
    | false =>
      have e := q2 rfl
      rw [e] at hr
      obtain ⟨x, hx⟩ := short_tot (rulesMn_ok base) (pure1 (by kernel_rfl)) lmom0_hk
      exact ⟨_, r7F base k s 0 0 0 0 0 false x hk hr (tOf7F base s 0 0 0 0 0 false hr) hx pN⟩
  | 8, _, _, hk =>
    obtain ⟨n, ok, ⟨q1, q2⟩, hr⟩ := rdays_tot (base := base) hs
    obtain ⟨x, hx⟩ := short_tot (rulesT2_ok B.begun) (pure1 (by kernel_rfl)) (ldays_hk n)
    cases ok with
    | true => exact ⟨_, r8T base k s n x hk hr (tOf8T base s n hr q1 q2) hx (tPl8 base x n hx)⟩
    | false => exact ⟨_, r8F base k s n x hk hr (tOf8F base s n hr) hx pN⟩
  | 9, _, _, hk =>
    obtain ⟨n, ok, ⟨q1, q2⟩, hr⟩ := rmonths_tot (base := base) hs
    obtain ⟨x, hx⟩ := short_tot (rulesT2_ok B.begun) (pure1 (by kernel_rfl)) (lmonths_hk n)
    cases ok with
    | true => exact ⟨_, r9T base k s n x hk hr (tOf9T base s n hr q1 q2) hx (tPl9 base x n hx)⟩
    | false => exact ⟨_, r9F base k s n x hk hr (tOf9F base s n hr) hx pN⟩
  | 10, _, _, hk =>
    cases e1 : strEq s ⟨#[]⟩ with
    | true => exact ⟨_, r10T base k s hk e1 (tOf10T base s e1) (tPl10 base)⟩
    | false => exact ⟨_, r10F base k s hk e1 (tOf10F base s e1) pN⟩
  | 11, _, _, hk =>
    cases e1 : strEq s ⟨#[]⟩ with
    | true => exact ⟨_, r11T base k s hk e1 (tOf11T base s e1) (tPl11 base)⟩
    | false => exact ⟨_, r11F base k s hk e1 (tOf11F base s e1) pN⟩
  | 12, _, _, hk => exact ⟨_, r99 base k s 12 hk (by decide) (tOf12 base s) pN⟩
  | 13, _, _, hk => exact ⟨_, r99 base k s 13 hk (by decide) (tOf13 base s) pN⟩
  | 14, _, _, hk => exact ⟨_, r99 base k s 14 hk (by decide) (tOf14 base s) pN⟩
  | 15, _, _, hk => exact ⟨_, r99 base k s 15 hk (by decide) (tOf15 base s) pN⟩
  | 16, _, _, hk => exact ⟨_, r99 base k s 16 hk (by decide) (tOf16 base s) pN⟩
  | c + 17, _, h, _ => omega

theorem reads_calls {W : World} (hs : W.ShapedOpen Tryz.prog) (hT : Lib.TabIs Tryz.prog W "internal/strconv.uint64pow10" .u64 pow10s) (B : Firm W) (hE : ErrAt W) (hU : Utf8At W) {k : Int} (h0 : 0 ≤ k) {s : ByteArray} (hz : strLen s ≤ 1048576) :
    Calls Tryz.prog 6 #[.int .u8 k, .string s] W (fun e w' => e = .returned (.bool true) ∧ Below W.heap.size W w') := by
  obtain ⟨c, hk⟩ := reads_run B hU h0 hz
  exact law_calls hs hT (envX_ok (rulesVr_ok (awake11_tot B.begun (by kernel_rfl) hE))) envX_loops rfl Tryz.func6 (by kernel_rfl) (List.forall_mem_cons.2 ⟨by kernel_rfl, pure1 (by kernel_rfl)⟩) hk
end Go.Proofs.YtdbjbmdaekgbhaaGreatDoor
