/-
  Values that are made of days, times, lengths of time: of a kind, or null; what a law's 'arith' asks.
-/
import Derived.Test.YtdbjbmdaekgbhaaGreatDoorEs
namespace Go.Proofs.YtdbjbmdaekgbhaaGreatDoor
open Go Go.Pe Go.RowKit

theorem tot_lit {base : World} {rules : List (Nat × Rule)} (hr : ∀ x ∈ rules, RuleOk Tryz.prog base x.1 x.2) {d : Nat} {f : FuncId} {args : List Value} {v : Value} (hk : ReckE (env rules) d f args (· = v))
    (hp : pureV 6 v = true) (ha : ∀ x ∈ args, pureV 6 x = true) : Tot base f args v := by
  obtain ⟨_, rfl, ht⟩ := tot_ofE (env_ok hr) env_loops rfl hk (fun u hu => hu ▸ hp) ha
  exact ht

def ruleTMayD : Rule := rule1 fun args => match args with
  | [.agg ⟨[.int .i64 s, .bool z, .int .i64 o]⟩] => some fun K => (timeOk s z o → K (.bool true)) ∧ (¬ timeOk s z o → K (.bool false))
  | _ => none

def isTMayD (s : Int) (z : Bool) (o : Int) (u : Value) : Prop := (u = .bool true ∧ timeOk s z o) ∨ (u = .bool false ∧ ¬ timeOk s z o)
theorem isTMayD_pure {s : Int} {z : Bool} {o : Int} : ∀ v, isTMayD s z o v → pureV 6 v = true := by
  rintro v (⟨rfl, _⟩ | ⟨rfl, _⟩) <;> kernel_rfl

theorem tmayD_hk_tree (K : Value → Nat → Prop) (s o : Int) (z : Bool) :
 funcK (env rules1) 30 122 [timeC s z o] tabs Tryz.prog.globals.size (fun u _ _ mw => K u mw) =
 (bsel (decide (s ≥ (0 : Int)))
 (bsel (decide (s < (86400 : Int)))
 (bsel (decide (o ≥ (-64800 : Int)))
 (bsel (decide (o ≤ (64800 : Int)))
 (bsel z (K (Value.bool true) big)
 (bsel (o == (0 : Int)) (K (Value.bool true) big) (K (Value.bool false) big)))
 (K (Value.bool false) big))
 (K (Value.bool false) big))
 (K (Value.bool false) big))
 (K (Value.bool false) big)) := by kernel_rfl
theorem tmayD_hk (s o : Int) (z : Bool)  : ReckE (env rules1) 30 122 [timeC s z o] (isTMayD s z o) := by
  constructor
  rw [tmayD_hk_tree fun u mw => (isTMayD s z o) u ∧ Tryz.prog.globals.size ≤ mw]
  repeat' (refine bsel_of (fun _ => ?_) (fun _ => ?_))
  all_goals first
    | exact ⟨.inl ⟨rfl, by grind [timeOk]⟩, Nat.le_of_ble_eq_true (by kernel_rfl)⟩
    | exact ⟨.inr ⟨rfl, by grind [timeOk]⟩, Nat.le_of_ble_eq_true (by kernel_rfl)⟩
    | (exfalso; grind)

theorem tmayD_ok (base : World) : RuleOk Tryz.prog base 122 ruleTMayD := ruleOk_of fun args T K hT hK => by
  split at hT
  · cases hT
    rename_i s z o
    obtain ⟨v, hv, ht⟩ := tot_ofE (env_ok (rules1_ok base)) env_loops rfl (tmayD_hk s o z) isTMayD_pure (pure1 (by kernel_rfl))
    rcases hv with ⟨rfl, h⟩ | ⟨rfl, h⟩
    · exact ⟨_, hK.1 h, ht⟩
    · exact ⟨_, hK.2 h, ht⟩
  · cases hT

def rulesV1 : List (Nat × Rule) := (120, ruleMayD) :: (122, ruleTMayD) :: rules1
theorem rulesV1_ok (base : World) : ∀ x ∈ rulesV1, RuleOk Tryz.prog base x.1 x.2 := List.forall_mem_cons.2 ⟨mayD_ok base, List.forall_mem_cons.2 ⟨tmayD_ok base, rules1_ok base⟩⟩

end Go.Proofs.YtdbjbmdaekgbhaaGreatDoor
