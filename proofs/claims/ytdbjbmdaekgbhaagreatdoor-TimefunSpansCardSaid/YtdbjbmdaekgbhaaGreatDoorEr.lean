/-
  Temporal values are told plainly.
-/
import Derived.Test.YtdbjbmdaekgbhaaGreatDoorEn
namespace Go.Proofs.YtdbjbmdaekgbhaaGreatDoor
open Go Go.Pe Go.RowKit

def ruleLDate : Rule := rule1 fun args => match args with
  | [.agg ⟨[.int .i64 y, .int .i64 m, .int .i64 d]⟩] => some fun K => dateOk y m d ∧ ∀ s, strLen s ≤ 200 → K (.string s)
  | _ => none

def ruleLTime : Rule := rule1 fun args => match args with
  | [.agg ⟨[.int .i64 s, .bool z, .int .i64 o]⟩] => some fun K => timeOk s z o ∧ ∀ t, strLen t ≤ 200 → K (.string t)
  | _ => none

def rulesT3 : List (Nat × Rule) := (50, ruleLDate) :: (51, ruleLTime) :: rules4

theorem pdate_tree (K : Value → Nat → Prop) (y m d : Int) :
    funcK (env rulesT3) 30 97 [dateV y m d] tabs Tryz.prog.globals.size (fun u _ _ mw => K u mw) =
  (dateOk y m d ∧
 ∀ (s : ByteArray),
 strLen s ≤ (200 : Nat) →
 K
 (Value.agg
 (Array.mk
 [Value.int IntKind.i64 (Int.ofNat (5 : Nat)), Value.string s, Value.slice Option.none (0 : Nat) (0 : Nat), Value.slice Option.none (0 : Nat) (0 : Nat),
 Value.bool Bool.false, Value.bool Bool.false]))
 (11 : Nat)) := by kernel_rfl
theorem ptime_tree (K : Value → Nat → Prop) (s o : Int) (z : Bool) :
    funcK (env rulesT3) 30 97 [timeV s z o] tabs Tryz.prog.globals.size (fun u _ _ mw => K u mw) =
  (timeOk s z o ∧
 ∀ (t : ByteArray),
 strLen t ≤ (200 : Nat) →
 K
 (Value.agg
 (Array.mk
 [Value.int IntKind.i64 (Int.ofNat (6 : Nat)), Value.string t, Value.slice Option.none (0 : Nat) (0 : Nat), Value.slice Option.none (0 : Nat) (0 : Nat),
 Value.bool Bool.false, Value.bool Bool.false]))
 (11 : Nat)) := by kernel_rfl
theorem pmoment_tree (K : Value → Nat → Prop) (y m d s o : Int) (z : Bool) :
    funcK (env rulesT3) 30 97 [momentV y m d s z o] tabs Tryz.prog.globals.size (fun u _ _ mw => K u mw) =
  (dateOk y m d ∧
 timeOk s z o ∧
 dateOk y m d ∧
 ∀ (s_1 : ByteArray),
 strLen s_1 ≤ (200 : Nat) →
 bsel (Nat.ble (strLen s_1 + (1 : Nat)) (9223372036854775807 : Nat))
 (timeOk s z o ∧
 ∀ (t : ByteArray),
 strLen t ≤ (200 : Nat) →
 bsel (Nat.ble (strLen (strCat s_1 (ByteArray.mk #[(84 : UInt8)])) + strLen t) (9223372036854775807 : Nat))
 (K
 (Value.agg
 (Array.mk
 [Value.int IntKind.i64 (Int.ofNat (7 : Nat)), Value.string (strCat (strCat s_1 (ByteArray.mk #[(84 : UInt8)])) t),
 Value.slice Option.none (0 : Nat) (0 : Nat), Value.slice Option.none (0 : Nat) (0 : Nat), Value.bool Bool.false, Value.bool Bool.false]))
 (11 : Nat))
 False)
 False) := by kernel_rfl
theorem pnull_tree (K : Value → Nat → Prop) :
    funcK (env rulesT3) 30 97 [nullV] tabs Tryz.prog.globals.size (fun u _ _ mw => K u mw) =
  (K
 (Value.agg
 (Array.mk
 [Value.int IntKind.i64 (Int.ofNat (1 : Nat)), Value.string (ByteArray.mk #[]), Value.slice Option.none (0 : Nat) (0 : Nat), Value.slice Option.none (0 : Nat) (0 : Nat),
 Value.bool Bool.false, Value.bool Bool.false]))
 (11 : Nat)) := by kernel_rfl

theorem lDate_ok {base : World} (B : Begun base) : RuleOk Tryz.prog base 50 ruleLDate := ruleOk_of fun args T K hT hK => by
  split at hT
  · cases hT
    obtain ⟨hd, hK⟩ := hK
    obtain ⟨v, ⟨s, rfl, hs⟩, ht⟩ := tot_ofE (env_ok (rulesT2_ok B)) env_loops rfl (ldate_hk hd) isShort_pure (pure1 (by kernel_rfl))
    exact ⟨_, hK s hs, ht⟩
  · cases hT

theorem lTime_ok {base : World} (B : Begun base) : RuleOk Tryz.prog base 51 ruleLTime := ruleOk_of fun args T K hT hK => by
  split at hT
  · cases hT
    obtain ⟨hd, hK⟩ := hK
    obtain ⟨v, ⟨s, rfl, hs⟩, ht⟩ := tot_ofE (env_ok (rulesT2_ok B)) env_loops rfl (ltime_hk hd) isShort_pure (pure1 (by kernel_rfl))
    exact ⟨_, hK s hs, ht⟩
  · cases hT

theorem rulesT3_ok {base : World} (B : Begun base) : ∀ x ∈ rulesT3, RuleOk Tryz.prog base x.1 x.2 := List.forall_mem_cons.2 ⟨lDate_ok B, List.forall_mem_cons.2 ⟨lTime_ok B, rules4_ok base⟩⟩

theorem plainly_of {base : World} {rules : List (Nat × Rule)} (hr : ∀ x ∈ rules, RuleOk Tryz.prog base x.1 x.2) {v : Value} (hv : pureV 6 v = true) (hk : ReckE (env rules) 30 97 [v] isDat) : Plainly base v := by
  obtain ⟨_, ⟨k, s, rfl⟩, ht⟩ := tot_ofE (env_ok hr) env_loops rfl hk isDat_pure (pure1 hv)
  exact ⟨hv, k, s, ht⟩

theorem plainly_date {base : World} (B : Begun base) {y m d : Int} (hd : dateOk y m d) : Plainly base (dateV y m d) := plainly_of (rulesT3_ok B) (by kernel_rfl) (by
  constructor
  rw [pdate_tree fun u mw => isDat u ∧ Tryz.prog.globals.size ≤ mw]
  repeat' (first
    | exact ⟨⟨_, _, rfl⟩, Nat.le_of_ble_eq_true (by kernel_rfl)⟩
    | assumption
    | refine And.intro ?_ ?_
    | refine bsel_of (fun _ => ?_) (fun h => noBig (by first | omega | (simp only [strLen_cat, sl0, sl1, slL, List.length_cons, List.length_nil]; omega)) h)
    | refine bsel_of (fun _ => ?_) (fun _ => ?_)
    | intro _))

theorem plainly_time {base : World} (B : Begun base) {s o : Int} {z : Bool} (ht : timeOk s z o) : Plainly base (timeV s z o) := plainly_of (rulesT3_ok B) (by kernel_rfl) (by
  constructor
  rw [ptime_tree fun u mw => isDat u ∧ Tryz.prog.globals.size ≤ mw]
  repeat' (first
    | exact ⟨⟨_, _, rfl⟩, Nat.le_of_ble_eq_true (by kernel_rfl)⟩
    | assumption
    | refine And.intro ?_ ?_
    | refine bsel_of (fun _ => ?_) (fun h => noBig (by first | omega | (simp only [strLen_cat, sl0, sl1, slL, List.length_cons, List.length_nil]; omega)) h)
    | refine bsel_of (fun _ => ?_) (fun _ => ?_)
    | intro _))

theorem plainly_moment {base : World} (B : Begun base) {y m d s o : Int} {z : Bool} (hd : dateOk y m d) (ht : timeOk s z o) : Plainly base (momentV y m d s z o) := plainly_of (rulesT3_ok B) (by kernel_rfl) (by
  constructor
  rw [pmoment_tree fun u mw => isDat u ∧ Tryz.prog.globals.size ≤ mw]
  repeat' (first
    | exact ⟨⟨_, _, rfl⟩, Nat.le_of_ble_eq_true (by kernel_rfl)⟩
    | assumption
    | refine And.intro ?_ ?_
    | refine bsel_of (fun _ => ?_) (fun h => noBig (by first | omega | (simp only [strLen_cat, sl0, sl1, slL, List.length_cons, List.length_nil]; omega)) h)
    | refine bsel_of (fun _ => ?_) (fun _ => ?_)
    | intro _))

theorem plainly_null {base : World} (B : Begun base) : Plainly base nullV := plainly_of (rulesT3_ok B) (by kernel_rfl) (by
  constructor
  rw [pnull_tree fun u mw => isDat u ∧ Tryz.prog.globals.size ≤ mw]
  exact ⟨⟨_, _, rfl⟩, Nat.le_of_ble_eq_true (by kernel_rfl)⟩)

theorem plainly_days {base : World} (B : Begun base) (n : Int) : Plainly base (daysV n) := plainly_of (rulesT2_ok B) (by kernel_rfl) (gdays_hk n)
theorem plainly_months {base : World} (B : Begun base) (n : Int) : Plainly base (monthsV n) := plainly_of (rulesT2_ok B) (by kernel_rfl) (gmonths_hk n)

end Go.Proofs.YtdbjbmdaekgbhaaGreatDoor
