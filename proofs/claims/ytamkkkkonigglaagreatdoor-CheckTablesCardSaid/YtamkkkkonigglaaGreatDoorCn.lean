/-
  CheckTables: what the law reckons.
-/
import Derived.Test.YtamkkkkonigglaaGreatDoorCb
namespace Go.Proofs.YtamkkkkonigglaaGreatDoor
open Go Go.Pe Go.RowKit

def ruleIntP (base : World) (f : FuncId) : Rule := fun args h n => some fun K => ∃ x, TotP base f args (.int .i64 x) ∧ K (.int .i64 x) h n big
def ruleTrueP (base : World) (f : FuncId) : Rule := fun args h n => some fun K => TotP base f args (.bool true) ∧ K (.bool true) h n big
theorem ruleOk_intP {base : World} {f : FuncId} : RuleOk Tryz.prog base f (ruleIntP base f) := by
  intro E hE args h n T K hT hK
  cases hT
  obtain ⟨s, h1, h2⟩ := hK
  exact ⟨_, _, _, _, h2, h1 E hE h n⟩
theorem ruleOk_trueP {base : World} {f : FuncId} : RuleOk Tryz.prog base f (ruleTrueP base f) := by
  intro E hE args h n T K hT hK
  cases hT
  exact ⟨_, _, _, _, hK.2, hK.1 E hE h n⟩
def rulesCt (base : World) : List (Nat × Rule) := [(6, ruleTrueP base 6), (7, ruleIntP base 7), (8, ruleIntP base 8), (9, ruleIntP base 9), (10, ruleIntP base 10)]
theorem rulesCt_ok (base : World) : ∀ x ∈ rulesCt base, RuleOk Tryz.prog base x.1 x.2 := List.forall_mem_cons.2 ⟨ruleOk_trueP, List.forall_mem_cons.2 ⟨ruleOk_intP, List.forall_mem_cons.2 ⟨ruleOk_intP, List.forall_mem_cons.2 ⟨ruleOk_intP, List.forall_mem_cons.2 ⟨ruleOk_intP, fun _ h => nomatch h⟩⟩⟩⟩⟩
theorem tables_tree (K : Value → Nat → Prop) (base : World) (op s : ByteArray) (a b : Int) :
 funcK (envP 285 [] (rulesCt base)) 30 3 [.string op, .int .u8 a, .int .u8 b, .string s] [] Tryz.prog.globals.size (fun u _ _ mw => K u mw) =
 (TotP base (6 : Nat) [] (Value.bool true) ∧
 ∃ (x : Int),
 TotP base (7 : Nat)
 [Value.string op, Value.int .i64 (IntKind.wrap .i64 (Int.tmod a (16 : Int))), Value.int .i64 (IntKind.wrap .i64 (Int.tmod b (16 : Int)))]
 (Value.int .i64 x) ∧
 ∃ (x_1 : Int),
 TotP base (8 : Nat)
 [Value.string op, Value.int .i64 (IntKind.wrap .i64 (Int.tmod a (16 : Int))),
 Value.int .i64 (IntKind.wrap .i64 (Int.tmod b (16 : Int)))]
 (Value.int .i64 x_1) ∧
 bsel (x == x_1)
 (∃ (x : Int),
 TotP base (9 : Nat) [Value.int .i64 (IntKind.wrap .i64 (Int.tmod a (16 : Int))), Value.string s]
 (Value.int .i64 x) ∧
 ∃ (x_2 : Int),
 TotP base (10 : Nat) [Value.int .i64 (IntKind.wrap .i64 (Int.tmod a (16 : Int))), Value.string s]
 (Value.int .i64 x_2) ∧
 bsel (x == x_2) (K (Value.bool true) big) (K (Value.bool false) big))
 (K (Value.bool false) big)) := by kernel_rfl
end Go.Proofs.YtamkkkkonigglaaGreatDoor
