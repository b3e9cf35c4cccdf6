/-
  Days and moments that are reckoned: whatever they are, they may be, or there is none.
-/
import Derived.Test.YtdbjbmdaekgbhaaGreatDoorEr
namespace Go.Proofs.YtdbjbmdaekgbhaaGreatDoor
open Go Go.Pe Go.RowKit

def ruleMayD : Rule := rule1 fun args => match args with
  | [.agg ⟨[.int .i64 y, .int .i64 m, .int .i64 d]⟩] => some fun K => (dateOk y m d → K (.bool true)) ∧ (¬ dateOk y m d → K (.bool false))
  | _ => none

theorem may2_tree (K : Value → Nat → Prop) (y m d : Int) :
 funcK (env rules1) 30 120 [dateC y m d] tabs Tryz.prog.globals.size (fun u _ _ mw => K u mw) =
 (bsel (decide (y ≥ (-999999999 : Int)))
 (bsel (decide (y ≤ (999999999 : Int)))
 (bsel (decide (d ≥ (1 : Int)))
 (bsel (m == (1 : Int))
 (bsel (decide (d ≤ (31 : Int))) (K (Value.bool true) big) (K (Value.bool false) big))
 (bsel (m == (3 : Int))
 (bsel (decide (d ≤ (31 : Int))) (K (Value.bool true) big) (K (Value.bool false) big))
 (bsel (m == (5 : Int))
 (bsel (decide (d ≤ (31 : Int))) (K (Value.bool true) big) (K (Value.bool false) big))
 (bsel (m == (7 : Int))
 (bsel (decide (d ≤ (31 : Int))) (K (Value.bool true) big) (K (Value.bool false) big))
 (bsel (m == (8 : Int))
 (bsel (decide (d ≤ (31 : Int))) (K (Value.bool true) big) (K (Value.bool false) big))
 (bsel (m == (10 : Int))
 (bsel (decide (d ≤ (31 : Int))) (K (Value.bool true) big) (K (Value.bool false) big))
 (bsel (m == (12 : Int))
 (bsel (decide (d ≤ (31 : Int))) (K (Value.bool true) big) (K (Value.bool false) big))
 (bsel (m == (4 : Int))
 (bsel (decide (d ≤ (30 : Int))) (K (Value.bool true) big) (K (Value.bool false) big))
 (bsel (m == (6 : Int))
 (bsel (decide (d ≤ (30 : Int))) (K (Value.bool true) big) (K (Value.bool false) big))
 (bsel (m == (9 : Int))
 (bsel (decide (d ≤ (30 : Int))) (K (Value.bool true) big) (K (Value.bool false) big))
 (bsel (m == (11 : Int))
 (bsel (decide (d ≤ (30 : Int))) (K (Value.bool true) big) (K (Value.bool false) big))
 (bsel (m == (2 : Int))
 (bsel (Int.tmod y (4 : Int) == (0 : Int))
 (bsel (Int.tmod y (100 : Int) != (0 : Int))
 (bsel (decide (d ≤ (29 : Int))) (K (Value.bool true) big)
 (K (Value.bool false) big))
 (bsel (Int.tmod y (400 : Int) == (0 : Int))
 (bsel (decide (d ≤ (29 : Int))) (K (Value.bool true) big)
 (K (Value.bool false) big))
 (bsel (decide (d ≤ (28 : Int))) (K (Value.bool true) big)
 (K (Value.bool false) big))))
 (bsel (decide (d ≤ (28 : Int))) (K (Value.bool true) big) (K (Value.bool false) big)))
 (bsel (decide (d ≤ (0 : Int))) (K (Value.bool true) big)
 (K (Value.bool false) big))))))))))))))
 (K (Value.bool false) big))
 (K (Value.bool false) big))
 (K (Value.bool false) big)) := by kernel_rfl
def isMayD (y m d : Int) (u : Value) : Prop := (u = .bool true ∧ dateOk y m d) ∨ (u = .bool false ∧ ¬ dateOk y m d)
theorem isMayD_pure {y m d : Int} : ∀ v, isMayD y m d v → pureV 6 v = true := by
  rintro v (⟨rfl, _⟩ | ⟨rfl, _⟩) <;> kernel_rfl

theorem mayD_hk (y m d : Int) : ReckE (env rules1) 30 120 [dateC y m d] (isMayD y m d) := by
  constructor
  rw [may2_tree fun u mw => isMayD y m d u ∧ Tryz.prog.globals.size ≤ mw]
  repeat' (refine bsel_of (fun _ => ?_) (fun _ => ?_))
  all_goals first
    | exact ⟨.inl ⟨rfl, by grind [dateOk, lenF, leapF]⟩, globals_big⟩
    | exact ⟨.inr ⟨rfl, by grind [dateOk, lenF, leapF]⟩, globals_big⟩
    | (exfalso; grind)

theorem mayD_ok (base : World) : RuleOk Tryz.prog base 120 ruleMayD := ruleOk_of fun args T K hT hK => by
  split at hT
  · cases hT
    rename_i y m d
    obtain ⟨v, hv, ht⟩ := tot_ofE (env_ok (rules1_ok base)) env_loops rfl (mayD_hk y m d) isMayD_pure (pure1 (by kernel_rfl))
    rcases hv with ⟨rfl, h⟩ | ⟨rfl, h⟩
    · exact ⟨_, hK.1 h, ht⟩
    · exact ⟨_, hK.2 h, ht⟩
  · cases hT

end Go.Proofs.YtdbjbmdaekgbhaaGreatDoor
