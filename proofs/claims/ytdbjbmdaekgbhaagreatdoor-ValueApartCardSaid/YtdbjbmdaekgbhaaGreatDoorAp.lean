/-
  ValueApart: what it reckons.
-/
import Derived.Test.YtdbjbmdaekgbhaaGreatDoorVb
import Derived.Test.YtdbjbmdaekgbhaaGreatDoorWc
namespace Go.Proofs.YtdbjbmdaekgbhaaGreatDoor
open Go Go.Pe Go.RowKit

/-- A text is UTF-8, or is not: asked for. -/
def ruleVal (base : World) (v : Bool) : Rule := rule1 fun args => some fun K => Tot base 49 args (.bool v) ∧ K (.bool v)
theorem val_ok {base : World} {v : Bool} : RuleOk Tryz.prog base 49 (ruleVal base v) := ruleOk_of fun args T K hT hK => by
  cases hT
  exact ⟨_, hK.2, hK.1⟩

def rawC (a1 a2 a3 a4 a5 : Int) (a6 : Bool) : Value := .agg ⟨[.int .i64 a1, .int .i64 a2, .int .i64 a3, .int .i64 a4, .int .i64 a5, .bool a6]⟩
def rulesAp (base : World) (v : Bool) (raw dr : Value) (n : Bool) (h l e : Int) (y m d s o : Int) (z : Bool) : List (Nat × Rule) :=
  (45, ruleAt [] (.bool true)) :: (56, ruleAt [raw] (momentC y m d s z o)) :: (11, ruleAt [dr] (decC n h l e)) ::
  (12, ruleAt [decC n h l e] (numV n h l e)) :: (36, ruleAt [momentC y m d s z o] (momentV y m d s z o)) :: (49, ruleVal base v) :: rules1

theorem apart_t (K : Value → Nat → Prop) (base : World) (a1 a2 a3 a4 a5 h0 l0 e0 : Int) (a6 n0 : Bool) (n : Bool) (h l e y m d s o : Int) (z : Bool) (name : ByteArray) :
    funcK (envC (rulesAp base true (rawC a1 a2 a3 a4 a5 a6) (decC n0 h0 l0 e0) n h l e y m d s o z)) 30 7 [rawC a1 a2 a3 a4 a5 a6, decC n0 h0 l0 e0, .string name] tabs Tryz.prog.globals.size (fun u _ _ mw => K u mw) =
  (Same [] [] ∧ Same [Value.agg (Array.mk [Value.bool n0, Value.int IntKind.u64 h0, Value.int IntKind.u64 l0, Value.int IntKind.i64 e0])] [Value.agg (Array.mk [Value.bool n0, Value.int IntKind.u64 h0, Value.int IntKind.u64 l0, Value.int IntKind.i64 e0])] ∧ Same [Value.agg (Array.mk [Value.bool n, Value.int IntKind.u64 h, Value.int IntKind.u64 l, Value.int IntKind.i64 e])] [Value.agg (Array.mk [Value.bool n, Value.int IntKind.u64 h, Value.int IntKind.u64 l, Value.int IntKind.i64 e])] ∧ Same [Value.agg (Array.mk [Value.int IntKind.i64 a1, Value.int IntKind.i64 a2, Value.int IntKind.i64 a3, Value.int IntKind.i64 a4, Value.int IntKind.i64 a5, Value.bool a6])] [Value.agg (Array.mk [Value.int IntKind.i64 a1, Value.int IntKind.i64 a2, Value.int IntKind.i64 a3, Value.int IntKind.i64 a4, Value.int IntKind.i64 a5, Value.bool a6])] ∧ Same [Value.agg (Array.mk [Value.int IntKind.i64 y, Value.int IntKind.i64 m, Value.int IntKind.i64 d, Value.int IntKind.i64 s, Value.bool z, Value.int IntKind.i64 o])] [Value.agg (Array.mk [Value.int IntKind.i64 y, Value.int IntKind.i64 m, Value.int IntKind.i64 d, Value.int IntKind.i64 s, Value.bool z, Value.int IntKind.i64 o])] ∧ bsel (Nat.ble (strLen name + 1) 9223372036854775807) (Tot base 49 [Value.string name] (Value.bool Bool.true) ∧ bsel (strEq (strCat name (ByteArray.mk #[(120 : UInt8)])) name) (Tot base 49 [Value.string name] (Value.bool Bool.true) ∧ K (Value.bool Bool.false) 12) (Tot base 49 [Value.string (strCat name (ByteArray.mk #[(120 : UInt8)]))] (Value.bool Bool.true) ∧ bsel (strEq name name) (K (Value.bool Bool.true) 12) (bsel (strEq name (strCat name (ByteArray.mk #[(120 : UInt8)]))) (K (Value.bool Bool.false) 12) (K (Value.bool Bool.false) 12)))) False) := by kernel_rfl
theorem apart_f (K : Value → Nat → Prop) (base : World) (a1 a2 a3 a4 a5 h0 l0 e0 : Int) (a6 n0 : Bool) (n : Bool) (h l e y m d s o : Int) (z : Bool) (name : ByteArray) :
    funcK (envC (rulesAp base false (rawC a1 a2 a3 a4 a5 a6) (decC n0 h0 l0 e0) n h l e y m d s o z)) 30 7 [rawC a1 a2 a3 a4 a5 a6, decC n0 h0 l0 e0, .string name] tabs Tryz.prog.globals.size (fun u _ _ mw => K u mw) =
  (Same [] [] ∧ Same [Value.agg (Array.mk [Value.bool n0, Value.int IntKind.u64 h0, Value.int IntKind.u64 l0, Value.int IntKind.i64 e0])] [Value.agg (Array.mk [Value.bool n0, Value.int IntKind.u64 h0, Value.int IntKind.u64 l0, Value.int IntKind.i64 e0])] ∧ Same [Value.agg (Array.mk [Value.bool n, Value.int IntKind.u64 h, Value.int IntKind.u64 l, Value.int IntKind.i64 e])] [Value.agg (Array.mk [Value.bool n, Value.int IntKind.u64 h, Value.int IntKind.u64 l, Value.int IntKind.i64 e])] ∧ Same [Value.agg (Array.mk [Value.int IntKind.i64 a1, Value.int IntKind.i64 a2, Value.int IntKind.i64 a3, Value.int IntKind.i64 a4, Value.int IntKind.i64 a5, Value.bool a6])] [Value.agg (Array.mk [Value.int IntKind.i64 a1, Value.int IntKind.i64 a2, Value.int IntKind.i64 a3, Value.int IntKind.i64 a4, Value.int IntKind.i64 a5, Value.bool a6])] ∧ Same [Value.agg (Array.mk [Value.int IntKind.i64 y, Value.int IntKind.i64 m, Value.int IntKind.i64 d, Value.int IntKind.i64 s, Value.bool z, Value.int IntKind.i64 o])] [Value.agg (Array.mk [Value.int IntKind.i64 y, Value.int IntKind.i64 m, Value.int IntKind.i64 d, Value.int IntKind.i64 s, Value.bool z, Value.int IntKind.i64 o])] ∧ bsel (Nat.ble (strLen name + 1) 9223372036854775807) (Tot base 49 [Value.string name] (Value.bool Bool.false) ∧ Tot base 49 [Value.string name] (Value.bool Bool.false) ∧ K (Value.bool Bool.true) 12) False) := by kernel_rfl

end Go.Proofs.YtdbjbmdaekgbhaaGreatDoor
