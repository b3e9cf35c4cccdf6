/-
  Temporal values are told plainly.
-/
import Derived.Test.YtdbjbmdaekgbhaaGreatDoorEn
namespace Go.Proofs.YtdbjbmdaekgbhaaGreatDoor
open Go Go.Pe Go.RowKit

def ruleLDate : Rule := rule1 fun args => match args with
  | [.agg ⟨[.int .i64 y, .int .i64 m, .int .i64 d]⟩] => some fun K => dateOk y m d ∧ ∀ s, strLen s ≤ 200 → K (.string s)
  | _ => none

def ruleLTime : Rule := rule1 fun args => match args with
  | [.agg ⟨[.int .i64 s, .bool z, .int .i64 o]⟩] => some fun K => timeOk s z o ∧ ∀ t, strLen t ≤ 200 → K (.string t)
  | _ => none

def rulesT3 : List (Nat × Rule) := (50, ruleLDate) :: (51, ruleLTime) :: rules4

theorem lDate_ok {base : World} (B : Begun base) : RuleOk Tryz.prog base 50 ruleLDate := ruleOk_of fun args T K hT hK => by
  split at hT
  · cases hT
    obtain ⟨hd, hK⟩ := hK
    obtain ⟨v, ⟨s, rfl, hs⟩, ht⟩ := tot_ofE (env_ok (rulesT2_ok B)) env_loops rfl (ldate_hk hd) isShort_pure (pure1 (by kernel_rfl))
    exact ⟨_, hK s hs, ht⟩
  · cases hT

theorem lTime_ok {base : World} (B : Begun base) : RuleOk Tryz.prog base 51 ruleLTime := ruleOk_of fun args T K hT hK => by
  split at hT
  · cases hT
    obtain ⟨hd, hK⟩ := hK
    obtain ⟨v, ⟨s, rfl, hs⟩, ht⟩ := tot_ofE (env_ok (rulesT2_ok B)) env_loops rfl (ltime_hk hd) isShort_pure (pure1 (by kernel_rfl))
    exact ⟨_, hK s hs, ht⟩
  · cases hT

theorem rulesT3_ok {base : World} (B : Begun base) : ∀ x ∈ rulesT3, RuleOk Tryz.prog base x.1 x.2 := List.forall_mem_cons.2 ⟨lDate_ok B, List.forall_mem_cons.2 ⟨lTime_ok B, rules4_ok base⟩⟩

end Go.Proofs.YtdbjbmdaekgbhaaGreatDoor
