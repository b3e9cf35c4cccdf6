/-
  lexical.ReadDate: what is read may be.
-/
import Derived.Test.YtdbjbmdaekgbhaaGreatDoorXiA
import Derived.Test.YtdbjbmdaekgbhaaGreatDoorEs
namespace Go.Proofs.YtdbjbmdaekgbhaaGreatDoor
open Go Go.Pe Go.RowKit

/-- What the readers ask of the world they begin in. -/
structure Firm (base : World) : Prop where
  stood : Stood base
  begun : Begun base
def ruleMayN : Rule := rule1 fun args => match args with
  | [.agg ⟨[.int .i64 y, .int .i64 m, .int .i64 d]⟩] => some fun K => ¬ dateOk y m d ∧ K (.bool false)
  | _ => none
theorem mayN_ok (base : World) : RuleOk Tryz.prog base 120 ruleMayN := ruleOk_of fun args T K hT hK => by
  split at hT
  · cases hT
    rename_i y m d
    obtain ⟨v, hv, ht⟩ := tot_ofE (env_ok (rules1_ok base)) env_loops rfl (mayD_hk y m d) isMayD_pure (pure1 (by kernel_rfl))
    rcases hv with ⟨rfl, h⟩ | ⟨rfl, h⟩
    · exact absurd h hK.1
    · exact ⟨_, hK.2, ht⟩
  · cases hT
def rulesMn : List (Nat × Rule) := (120, ruleMayN) :: rules1
theorem rulesMn_ok (base : World) : ∀ x ∈ rulesMn, RuleOk Tryz.prog base x.1 x.2 := List.forall_mem_cons.2 ⟨mayN_ok base, rules1_ok base⟩
theorem ldateN_hk_tree (K : Value → Nat → Prop) (y m d : Int) :
 funcK (env rulesMn) 30 50 [dateC y m d] tabs Tryz.prog.globals.size (fun u _ _ mw => K u mw) =
 (¬dateOk y m d ∧ K (Value.string (ByteArray.mk #[])) 18446744073709551616) := by kernel_rfl
theorem ldateN_hk (y m d : Int) (hd : ¬ dateOk y m d) : ReckE (env rulesMn) 30 50 [dateC y m d] (fun u => u = .string ⟨#[]⟩) := by
  constructor
  rw [ldateN_hk_tree fun u mw => (fun u => u = .string ⟨#[]⟩) u ∧ Tryz.prog.globals.size ≤ mw]
  exact ⟨hd, ⟨rfl, globals_big⟩⟩
def ruleLDateX : Rule := rule1 fun args => match args with
  | [.agg ⟨[.int .i64 y, .int .i64 m, .int .i64 d]⟩] => some fun K => ∀ s : ByteArray, strLen s ≤ 200 → (¬ dateOk y m d → strLen s = 0) → K (.string s)
  | _ => none
theorem lDateX_ok {base : World} (B : Begun base) : RuleOk Tryz.prog base 50 ruleLDateX := ruleOk_of fun args T K hT hK => by
  split at hT
  · cases hT
    rename_i y m d
    by_cases hd : dateOk y m d
    · obtain ⟨v, ⟨s, rfl, hs⟩, ht⟩ := tot_ofE (env_ok (rulesT2_ok B)) env_loops rfl (ldate_hk hd) isShort_pure (pure1 (by kernel_rfl))
      exact ⟨_, hK s hs fun h => absurd hd h, ht⟩
    · obtain ⟨v, rfl, ht⟩ := tot_ofE (env_ok (rulesMn_ok base)) env_loops rfl (ldateN_hk y m d hd) (fun v hv => by subst hv; kernel_rfl) (pure1 (by kernel_rfl))
      exact ⟨_, hK _ (by decide) fun _ => rfl, ht⟩
  · cases hT
def rulesRd0 : List (Nat × Rule) := (110, ruleSplit3) :: (50, ruleLDateX) :: (47, ruleNsigned) :: rulesSg
theorem rulesRd0_ok {base : World} (B : Firm base) : ∀ x ∈ rulesRd0, RuleOk Tryz.prog base x.1 x.2 := List.forall_mem_cons.2 ⟨split3_ok B.stood, List.forall_mem_cons.2 ⟨lDateX_ok B.begun, List.forall_mem_cons.2 ⟨nsigned_ok B.stood, rulesSg_ok B.stood⟩⟩⟩
def isRdate (u : Value) : Prop := ∃ (y m d : Int) (ok : Bool), u = .tuple #[dateC y m d, .bool ok] ∧ (ok = true → dateOk y m d)
theorem isRdate_pure : ∀ v, isRdate v → pureV 6 v = true := fun v ⟨_, _, _, _, hv, _⟩ => by subst hv; kernel_rfl
theorem rdateLeaf {s t s1 : ByteArray} {e : Bool} {y m d : Int} {k : Nat} (h0 : ¬ dateOk y m d → strLen s1 = 0) (h1 : e = true → 2 ≤ strLen t) (he : e = true) (ht : strLen t ≤ strLen s) (hs : (!strEq s1 s) = false) (hk : Tryz.prog.globals.size ≤ k) :
    isRdate (.tuple #[dateC y m d, .bool true]) ∧ Tryz.prog.globals.size ≤ k := by
  refine ⟨⟨_, _, _, _, rfl, fun _ => Classical.byContradiction fun hn => ?_⟩, hk⟩
  have h0 := h0 hn
  have h1 := h1 he
  have h2 := strEq_len (a := s1) (b := s) (by simpa using hs)
  omega
theorem rdateBad {s t : ByteArray} {e : Bool} (h1 : e = true → 2 ≤ strLen t) (he : e = true) (ht : strLen t ≤ strLen s) (hs : (decide ((0 : Int) ≤ 0) && decide ((0 : Int) < (strLen s : Int))) = false) : False := by
  have h1 := h1 he
  simp only [Bool.and_eq_false_iff, decide_eq_false_iff_not] at hs
  omega
theorem mBad3 {m : Nat} (h : m ≠ 3) (h2 : ((m : Int) != 3) = false) : False := by
  simp only [bne_eq_false_iff_eq] at h2
  omega
theorem rdate_hk_tree (K : Value → Nat → Prop) (s : ByteArray) :
 funcK (envW rulesRd0 []) 30 30 [.string s] tabs Tryz.prog.globals.size (fun u _ _ mw => K u mw) =
 ((ByteArray.mk #[(45 : UInt8)] = ByteArray.mk #[(45 : UInt8)] ∨ ByteArray.mk #[(45 : UInt8)] = ByteArray.mk #[(43 : UInt8)]) ∧ ∀ (t : ByteArray), strLen t ≤ strLen s → (strLen t < 4294967281 ∧ 1 ≤ 1) ∧ ∀ (e : Bool) (a b c : ByteArray) (m : Nat), strLen a ≤ strLen t → strLen b ≤ strLen t → strLen c ≤ strLen t → m ≠ 3 → m < 18446744073709551616 → (e = true → 2 ≤ strLen t) → bsel e ((Int.ofNat 0 ≤ Int.ofNat 9 ∧ Int.ofNat 9 ≤ Int.ofNat 15) ∧ ∀ (n : Int) (ok : Bool), Int.ofNat 0 ≤ n → n < Int.ofNat 1000000000 → bsel ok ((Int.ofNat 0 ≤ Int.ofNat 2 ∧ Int.ofNat 2 ≤ Int.ofNat 15) ∧ ∀ (n_1 : Int) (ok : Bool), Int.ofNat 0 ≤ n_1 → n_1 < Int.ofNat 100 → bsel ok ((Int.ofNat 0 ≤ Int.ofNat 2 ∧ Int.ofNat 2 ≤ Int.ofNat 15) ∧ ∀ (n_2 : Int) (ok : Bool), Int.ofNat 0 ≤ n_2 → n_2 < Int.ofNat 100 → bsel ok (bsel (decide ((0 : Int) ≤ (0 : Int)) && decide ((0 : Int) < (↑(strLen s) : Int))) (bsel ((↑(UInt8.toNat (byteAt (Array.toList (ByteArray.data s)) (Int.toNat (0 : Int)))) : Int) == (45 : Int)) (∀ (s_1 : ByteArray), strLen s_1 ≤ 200 → (¬dateOk (IntKind.wrap .i64 ((0 : Int) - n)) n_1 n_2 → strLen s_1 = 0) → bsel (!strEq s_1 s) (K (Value.tuple (Array.mk [Value.agg (Array.mk [Value.int .i64 (Int.ofNat 0), Value.int .i64 (Int.ofNat 0), Value.int .i64 (Int.ofNat 0)]), Value.bool false])) 10) (K (Value.tuple (Array.mk [Value.agg (Array.mk [Value.int .i64 (IntKind.wrap .i64 ((0 : Int) - n)), Value.int .i64 n_1, Value.int .i64 n_2]), Value.bool true])) 10)) (∀ (s_1 : ByteArray), strLen s_1 ≤ 200 → (¬dateOk n n_1 n_2 → strLen s_1 = 0) → bsel (!strEq s_1 s) (K (Value.tuple (Array.mk [Value.agg (Array.mk [Value.int .i64 (Int.ofNat 0), Value.int .i64 (Int.ofNat 0), Value.int .i64 (Int.ofNat 0)]), Value.bool false])) 10) (K (Value.tuple (Array.mk [Value.agg (Array.mk [Value.int .i64 n, Value.int .i64 n_1, Value.int .i64 n_2]), Value.bool true])) 10))) False) (bsel (decide ((0 : Int) ≤ (0 : Int)) && decide ((0 : Int) < (↑(strLen s) : Int))) (bsel ((↑(UInt8.toNat (byteAt (Array.toList (ByteArray.data s)) (Int.toNat (0 : Int)))) : Int) == (45 : Int)) (K (Value.tuple (Array.mk [Value.agg (Array.mk [Value.int .i64 (Int.ofNat 0), Value.int .i64 (Int.ofNat 0), Value.int .i64 (Int.ofNat 0)]), Value.bool false])) 10) (K (Value.tuple (Array.mk [Value.agg (Array.mk [Value.int .i64 (Int.ofNat 0), Value.int .i64 (Int.ofNat 0), Value.int .i64 (Int.ofNat 0)]), Value.bool false])) 10)) False)) ((Int.ofNat 0 ≤ Int.ofNat 2 ∧ Int.ofNat 2 ≤ Int.ofNat 15) ∧ ∀ (n : Int) (ok : Bool), Int.ofNat 0 ≤ n → n < Int.ofNat 100 → bsel ok (bsel (decide ((0 : Int) ≤ (0 : Int)) && decide ((0 : Int) < (↑(strLen s) : Int))) (bsel ((↑(UInt8.toNat (byteAt (Array.toList (ByteArray.data s)) (Int.toNat (0 : Int)))) : Int) == (45 : Int)) (K (Value.tuple (Array.mk [Value.agg (Array.mk [Value.int .i64 (Int.ofNat 0), Value.int .i64 (Int.ofNat 0), Value.int .i64 (Int.ofNat 0)]), Value.bool false])) 10) (K (Value.tuple (Array.mk [Value.agg (Array.mk [Value.int .i64 (Int.ofNat 0), Value.int .i64 (Int.ofNat 0), Value.int .i64 (Int.ofNat 0)]), Value.bool false])) 10)) False) (bsel (decide ((0 : Int) ≤ (0 : Int)) && decide ((0 : Int) < (↑(strLen s) : Int))) (bsel ((↑(UInt8.toNat (byteAt (Array.toList (ByteArray.data s)) (Int.toNat (0 : Int)))) : Int) == (45 : Int)) (K (Value.tuple (Array.mk [Value.agg (Array.mk [Value.int .i64 (Int.ofNat 0), Value.int .i64 (Int.ofNat 0), Value.int .i64 (Int.ofNat 0)]), Value.bool false])) 10) (K (Value.tuple (Array.mk [Value.agg (Array.mk [Value.int .i64 (Int.ofNat 0), Value.int .i64 (Int.ofNat 0), Value.int .i64 (Int.ofNat 0)]), Value.bool false])) 10)) False))) ((Int.ofNat 0 ≤ Int.ofNat 2 ∧ Int.ofNat 2 ≤ Int.ofNat 15) ∧ ∀ (n : Int) (ok : Bool), Int.ofNat 0 ≤ n → n < Int.ofNat 100 → bsel ok ((Int.ofNat 0 ≤ Int.ofNat 2 ∧ Int.ofNat 2 ≤ Int.ofNat 15) ∧ ∀ (n : Int) (ok : Bool), Int.ofNat 0 ≤ n → n < Int.ofNat 100 → bsel ok (bsel (decide ((0 : Int) ≤ (0 : Int)) && decide ((0 : Int) < (↑(strLen s) : Int))) (bsel ((↑(UInt8.toNat (byteAt (Array.toList (ByteArray.data s)) (Int.toNat (0 : Int)))) : Int) == (45 : Int)) (K (Value.tuple (Array.mk [Value.agg (Array.mk [Value.int .i64 (Int.ofNat 0), Value.int .i64 (Int.ofNat 0), Value.int .i64 (Int.ofNat 0)]), Value.bool false])) 10) (K (Value.tuple (Array.mk [Value.agg (Array.mk [Value.int .i64 (Int.ofNat 0), Value.int .i64 (Int.ofNat 0), Value.int .i64 (Int.ofNat 0)]), Value.bool false])) 10)) False) (bsel (decide ((0 : Int) ≤ (0 : Int)) && decide ((0 : Int) < (↑(strLen s) : Int))) (bsel ((↑(UInt8.toNat (byteAt (Array.toList (ByteArray.data s)) (Int.toNat (0 : Int)))) : Int) == (45 : Int)) (K (Value.tuple (Array.mk [Value.agg (Array.mk [Value.int .i64 (Int.ofNat 0), Value.int .i64 (Int.ofNat 0), Value.int .i64 (Int.ofNat 0)]), Value.bool false])) 10) (K (Value.tuple (Array.mk [Value.agg (Array.mk [Value.int .i64 (Int.ofNat 0), Value.int .i64 (Int.ofNat 0), Value.int .i64 (Int.ofNat 0)]), Value.bool false])) 10)) False)) ((Int.ofNat 0 ≤ Int.ofNat 2 ∧ Int.ofNat 2 ≤ Int.ofNat 15) ∧ ∀ (n : Int) (ok : Bool), Int.ofNat 0 ≤ n → n < Int.ofNat 100 → bsel ok (bsel (decide ((0 : Int) ≤ (0 : Int)) && decide ((0 : Int) < (↑(strLen s) : Int))) (bsel ((↑(UInt8.toNat (byteAt (Array.toList (ByteArray.data s)) (Int.toNat (0 : Int)))) : Int) == (45 : Int)) (K (Value.tuple (Array.mk [Value.agg (Array.mk [Value.int .i64 (Int.ofNat 0), Value.int .i64 (Int.ofNat 0), Value.int .i64 (Int.ofNat 0)]), Value.bool false])) 10) (K (Value.tuple (Array.mk [Value.agg (Array.mk [Value.int .i64 (Int.ofNat 0), Value.int .i64 (Int.ofNat 0), Value.int .i64 (Int.ofNat 0)]), Value.bool false])) 10)) False) (bsel (decide ((0 : Int) ≤ (0 : Int)) && decide ((0 : Int) < (↑(strLen s) : Int))) (bsel ((↑(UInt8.toNat (byteAt (Array.toList (ByteArray.data s)) (Int.toNat (0 : Int)))) : Int) == (45 : Int)) (K (Value.tuple (Array.mk [Value.agg (Array.mk [Value.int .i64 (Int.ofNat 0), Value.int .i64 (Int.ofNat 0), Value.int .i64 (Int.ofNat 0)]), Value.bool false])) 10) (K (Value.tuple (Array.mk [Value.agg (Array.mk [Value.int .i64 (Int.ofNat 0), Value.int .i64 (Int.ofNat 0), Value.int .i64 (Int.ofNat 0)]), Value.bool false])) 10)) False)))) (bsel ((↑m : Int) != (3 : Int)) (K (Value.tuple (Array.mk [Value.agg (Array.mk [Value.int .i64 (Int.ofNat 0), Value.int .i64 (Int.ofNat 0), Value.int .i64 (Int.ofNat 0)]), Value.bool false])) 10) (bsel (decide ((0 : Int) ≤ (0 : Int)) && decide ((0 : Int) < (↑m : Int))) False False))) := by kernel_rfl
theorem rdate_hk (s : ByteArray) (hs : strLen s ≤ 1048576) : ReckE (envW rulesRd0 []) 30 30 [.string s] (isRdate) := by
  constructor
  rw [rdate_hk_tree fun u mw => (isRdate) u ∧ Tryz.prog.globals.size ≤ mw]
  repeat' (first | exact ⟨⟨_, _, _, _, rfl, fun (h : false = true) => nomatch h⟩, globals_big⟩ | exact ⟨⟨_, _, _, _, rfl, fun (h : false = true) => nomatch h⟩, Nat.le_of_ble_eq_true (by kernel_rfl)⟩ | exact rdateLeaf (by assumption) (by assumption) (by assumption) (by assumption) (by assumption) (by first | exact globals_big | exact Nat.le_of_ble_eq_true (by kernel_rfl)) | refine bsel_of (fun _ => ?_) (fun _ => ?_) | refine And.intro (by (first | exact True.intro | assumption | exact rfl | exact .inl rfl | exact .inr rfl | omega | decide | (refine And.intro (by omega) (by omega)))) ?_ | intro _)
  all_goals (exfalso; first | exact rdateBad (by assumption) (by assumption) (by assumption) (by assumption) | exact mBad3 (by assumption) (by assumption))
theorem rdate_tot {base : World} (B : Firm base) {s : ByteArray} (hs : strLen s ≤ 1048576) : ∃ (y m d : Int) (ok : Bool), (ok = true → dateOk y m d) ∧ Tot base 30 [.string s] (.tuple #[dateC y m d, .bool ok]) := by
  obtain ⟨_, ⟨y, m, d, ok, rfl, h⟩, ht⟩ := tot_ofE (base := base) (envW_ok (rulesRd0_ok B)) (findL_ok (l := []) rfl fun _ h => nomatch h) rfl (rdate_hk s hs) isRdate_pure (pure1 (by kernel_rfl))
  exact ⟨y, m, d, ok, h, ht⟩
end Go.Proofs.YtdbjbmdaekgbhaaGreatDoor
