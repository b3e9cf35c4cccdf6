/-
  What a law asks of simple values: a whole number, a text, the same; the parts of a length of time.
-/
import Derived.Test.YtdbjbmdaekgbhaaGreatDoorEf
namespace Go.Proofs.YtdbjbmdaekgbhaaGreatDoor
open Go Go.Pe Go.RowKit

def rulesI (n : Int) : List (Nat × Rule) := (64, ruleAt [intV n] (.tuple #[.int .i64 n, .bool true])) :: rules4
theorem rulesI_ok (base : World) {n : Int} (h : rng n) : ∀ x ∈ rulesI n, RuleOk Tryz.prog base x.1 x.2 := List.forall_mem_cons.2 ⟨ruleOk_at (asInt_tot h), rules4_ok base⟩
def rulesS (v d : Value) : List (Nat × Rule) := (97, ruleAt [v] d) :: rules4

theorem int1_tree (K : Value → Nat → Prop) (n : Int) :
    funcK (env (rulesI n)) 30 16 [intV n, .int .i64 n] tabs Tryz.prog.globals.size (fun u _ _ mw => K u mw) =
  (Same
 [Value.agg
 (Array.mk
 [Value.iface (123 : Nat)
 (Value.agg
 (Array.mk
 [Value.bool (decide (n < (0 : Int))), Value.int IntKind.u64 (Int.ofNat (0 : Nat)), Value.int IntKind.u64 (Int.ofNat (Int.natAbs n)),
 Value.int IntKind.i64 (Int.ofNat (0 : Nat))]))])]
 [Value.agg
 (Array.mk
 [Value.iface (123 : Nat)
 (Value.agg
 (Array.mk
 [Value.bool (decide (n < (0 : Int))), Value.int IntKind.u64 (Int.ofNat (0 : Nat)), Value.int IntKind.u64 (Int.ofNat (Int.natAbs n)),
 Value.int IntKind.i64 (Int.ofNat (0 : Nat))]))])] ∧
 bsel (n == n) (K (Value.bool Bool.true) (18446744073709551616 : Nat)) (K (Value.bool Bool.false) (18446744073709551616 : Nat))) := by kernel_rfl
theorem told_tree (K : Value → Nat → Prop) (s : ByteArray) :
    funcK (env rules4) 30 44 [textV s, .int .i64 4, .string s] tabs Tryz.prog.globals.size (fun u _ _ mw => K u mw) =
  (bsel (strEq s s) (K (Value.bool Bool.true) (12 : Nat)) (K (Value.bool Bool.false) (12 : Nat))) := by kernel_rfl
theorem same_tree (K : Value → Nat → Prop) (k : Int) (v : Value) (s : ByteArray) :
    funcK (env (rulesS (.agg ⟨[v]⟩) (datC k s))) 30 18 [.agg ⟨[v]⟩, .agg ⟨[v]⟩] tabs Tryz.prog.globals.size (fun u _ _ mw => K u mw) =
  (Same [Value.agg (Array.mk [v])] [Value.agg (Array.mk [v])] ∧
 Same [Value.agg (Array.mk [v])] [Value.agg (Array.mk [v])] ∧
 bsel (k == k) (bsel (strEq s s) (K (Value.bool Bool.true) (12 : Nat)) (K (Value.bool Bool.false) (12 : Nat))) (K (Value.bool Bool.false) (12 : Nat))) := by kernel_rfl

theorem int1_hk {n : Int} (_ : rng n) : Reck (rulesI n) 30 16 [intV n, .int .i64 n] tabs (.bool true) := by
  constructor
  rw [int1_tree fun u mw => u = .bool true ∧ Tryz.prog.globals.size ≤ mw]
  refine ⟨rfl, bsel_of (fun _ => ⟨rfl, globals_big⟩) fun h => ?_⟩
  simp at h

theorem told_hk (s : ByteArray) : Reck rules4 30 44 [textV s, .int .i64 4, .string s] tabs (.bool true) := by
  constructor
  rw [told_tree fun u mw => u = .bool true ∧ Tryz.prog.globals.size ≤ mw, strEq_refl]
  exact ⟨rfl, Nat.le_of_ble_eq_true (by kernel_rfl)⟩

theorem same_hk (v : Value) (k : Int) (s : ByteArray) : Reck (rulesS (.agg ⟨[v]⟩) (datC k s)) 30 18 [.agg ⟨[v]⟩, .agg ⟨[v]⟩] tabs (.bool true) := by
  constructor
  rw [same_tree fun u mw => u = .bool true ∧ Tryz.prog.globals.size ≤ mw, strEq_refl]
  refine ⟨rfl, rfl, bsel_of (fun _ => ⟨rfl, Nat.le_of_ble_eq_true (by kernel_rfl)⟩) fun h => ?_⟩
  simp at h

/-- A value that is told plainly. -/
def Plainly (base : World) (v : Value) : Prop := pureV 6 v = true ∧ ∃ k s, Tot base 97 [v] (datC k s)

def ruleInt1 : Rule := rule1 fun args => match args with
  | [v, .int .i64 n] => some fun K => v = intV n ∧ rng n ∧ K (.bool true)
  | _ => none

def ruleTold : Rule := rule1 fun args => match args with
  | [v, .int .i64 k, .string s] => some fun K => v = textV s ∧ k = 4 ∧ K (.bool true)
  | _ => none

def ruleSame' (base : World) : Rule := rule1 fun args => match args with
  | [.agg ⟨[v]⟩, .agg ⟨[w]⟩] => some fun K => v = w ∧ Plainly base (.agg ⟨[v]⟩) ∧ K (.bool true)
  | _ => none

theorem int1_ok (base : World) : RuleOk Tryz.prog base 16 ruleInt1 := ruleOk_of fun args T K hT hK => by
  split at hT
  · cases hT
    obtain ⟨rfl, h, hK⟩ := hK
    exact ⟨_, hK, tot_reck (rulesI_ok base h) (int1_hk h) (by kernel_rfl) (List.forall_mem_cons.2 ⟨by kernel_rfl, pure1 (by kernel_rfl)⟩)⟩
  · cases hT

theorem told_ok (base : World) : RuleOk Tryz.prog base 44 ruleTold := ruleOk_of fun args T K hT hK => by
  split at hT
  · cases hT
    obtain ⟨rfl, rfl, hK⟩ := hK
    exact ⟨_, hK, tot_reck (rules4_ok base) (told_hk _) (by kernel_rfl) (List.forall_mem_cons.2 ⟨by kernel_rfl, List.forall_mem_cons.2 ⟨by kernel_rfl, pure1 (by kernel_rfl)⟩⟩)⟩
  · cases hT

theorem same_ok (base : World) : RuleOk Tryz.prog base 18 (ruleSame' base) := ruleOk_of fun args T K hT hK => by
  split at hT
  · cases hT
    obtain ⟨rfl, ⟨hp, k, s, ht⟩, hK⟩ := hK
    exact ⟨_, hK, tot_reck (List.forall_mem_cons.2 ⟨ruleOk_at ht, rules4_ok base⟩) (same_hk _ k s) (by kernel_rfl) (List.forall_mem_cons.2 ⟨hp, pure1 hp⟩)⟩
  · cases hT

def rules5 (base : World) : List (Nat × Rule) := (16, ruleInt1) :: (44, ruleTold) :: (18, ruleSame' base) :: rules4
theorem rules5_ok (base : World) : ∀ x ∈ rules5 base, RuleOk Tryz.prog base x.1 x.2 := List.forall_mem_cons.2 ⟨int1_ok base, List.forall_mem_cons.2 ⟨told_ok base, List.forall_mem_cons.2 ⟨same_ok base, rules4_ok base⟩⟩⟩

end Go.Proofs.YtdbjbmdaekgbhaaGreatDoor
