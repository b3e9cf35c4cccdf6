/-
  The law ParseOperators: what it reckons.
-/
import Derived.Test.YtapmcocefoccdaaGreatDoorKb
namespace Go.Proofs.YtapmcocefoccdaaGreatDoor
open Go Go.Pe Go.RowKit

/-- Calls whose results are asked for. -/
def ruleStrP (base : World) (f : FuncId) : Rule := fun args h n => some fun K => ∃ s, TotP base f args (.string s) ∧ K (.string s) h n big
def ruleIntP (base : World) (f : FuncId) : Rule := fun args h n => some fun K => ∃ x, TotP base f args (.int .i64 x) ∧ K (.int .i64 x) h n big
def ruleTrueP (base : World) (f : FuncId) : Rule := fun args h n => some fun K => TotP base f args (.bool true) ∧ K (.bool true) h n big
def ruleFailP (base : World) (f : FuncId) : Rule := fun args h n => some fun K => TotP base f args failV ∧ K failV h n big

theorem ruleOk_strP {base : World} {f : FuncId} : RuleOk Tryz.prog base f (ruleStrP base f) := by
  intro E hE args h n T K hT hK
  cases hT
  obtain ⟨s, h1, h2⟩ := hK
  exact ⟨_, _, _, _, h2, h1 E hE h n⟩
theorem ruleOk_intP {base : World} {f : FuncId} : RuleOk Tryz.prog base f (ruleIntP base f) := by
  intro E hE args h n T K hT hK
  cases hT
  obtain ⟨s, h1, h2⟩ := hK
  exact ⟨_, _, _, _, h2, h1 E hE h n⟩
theorem ruleOk_trueP {base : World} {f : FuncId} : RuleOk Tryz.prog base f (ruleTrueP base f) := by
  intro E hE args h n T K hT hK
  cases hT
  exact ⟨_, _, _, _, hK.2, hK.1 E hE h n⟩
theorem ruleOk_failP {base : World} {f : FuncId} : RuleOk Tryz.prog base f (ruleFailP base f) := by
  intro E hE args h n T K hT hK
  cases hT
  exact ⟨_, _, _, _, hK.2, hK.1 E hE h n⟩

def rulesOps (base : World) : List (Nat × Rule) := [(7, ruleTrueP base 7), (8, ruleStrP base 8),
  (9, ruleIntP base 9), (11, ruleTrueP base 11), (10, ruleFailP base 10)]
theorem rulesOps_ok (base : World) : ∀ x ∈ rulesOps base, RuleOk Tryz.prog base x.1 x.2 := by
  unfold rulesOps
  exact List.forall_mem_cons.2 ⟨ruleOk_trueP, List.forall_mem_cons.2 ⟨ruleOk_strP, List.forall_mem_cons.2 ⟨ruleOk_intP, List.forall_mem_cons.2 ⟨ruleOk_trueP, List.forall_mem_cons.2 ⟨ruleOk_failP, fun _ h => nomatch h⟩⟩⟩⟩⟩

theorem ops_tree (K : Value → Nat → Prop) (base : World) (p q r : Int) :
    funcK (envP 241 [] (rulesOps base)) 30 3 [.int .u8 p, .int .u8 q, .int .u8 r] [] Tryz.prog.globals.size (fun u _ _ mw => K u mw) =
  (TotP base (7 : Nat) [] (Value.bool Bool.true) ∧
 ∃ (x : ByteArray),
 TotP base (8 : Nat) [Value.int IntKind.u8 p] (Value.string x) ∧
 ∃ (x_1 : ByteArray),
 TotP base (8 : Nat) [Value.int IntKind.u8 q] (Value.string x_1) ∧
 ∃ (x_2 : ByteArray),
 TotP base (8 : Nat) [Value.int IntKind.u8 r] (Value.string x_2) ∧
 ∃ (x_3 : Int),
 TotP base (9 : Nat) [Value.string x] (Value.int IntKind.i64 x_3) ∧
 ∃ (x_4 : Int),
 TotP base (9 : Nat) [Value.string x_1] (Value.int IntKind.i64 x_4) ∧
 bsel (Nat.ble ((2 : Nat) + strLen x) (9223372036854775807 : Nat))
 (bsel (Nat.ble (strLen (strCat (ByteArray.mk #[(49 : UInt8), (32 : UInt8)]) x) + (3 : Nat)) (9223372036854775807 : Nat))
 (bsel
 (Nat.ble
 (strLen (strCat (strCat (ByteArray.mk #[(49 : UInt8), (32 : UInt8)]) x) (ByteArray.mk #[(32 : UInt8), (50 : UInt8), (32 : UInt8)])) + strLen x_1)
 (9223372036854775807 : Nat))
 (bsel
 (Nat.ble
 (strLen
 (strCat (strCat (strCat (ByteArray.mk #[(49 : UInt8), (32 : UInt8)]) x) (ByteArray.mk #[(32 : UInt8), (50 : UInt8), (32 : UInt8)])) x_1) +
 (2 : Nat))
 (9223372036854775807 : Nat))
 (bsel (x_3 == (3 : Int))
 (bsel (x_4 == (3 : Int))
 (TotP base (10 : Nat)
 [Value.string
 (strCat
 (strCat (strCat (strCat (ByteArray.mk #[(49 : UInt8), (32 : UInt8)]) x) (ByteArray.mk #[(32 : UInt8), (50 : UInt8), (32 : UInt8)])) x_1)
 (ByteArray.mk #[(32 : UInt8), (51 : UInt8)])),
 Value.slice Option.none (0 : Nat) (0 : Nat)]
 (Value.tuple
 (Array.mk
 [Value.agg
 (Array.mk
 [Value.int IntKind.i64 (Int.ofNat (0 : Nat)), Value.string (ByteArray.mk #[]), Value.slice Option.none (0 : Nat) (0 : Nat),
 Value.slice Option.none (0 : Nat) (0 : Nat), Value.slice Option.none (0 : Nat) (0 : Nat), Value.bool Bool.false, Value.bool Bool.false]),
 Value.bool Bool.false])) ∧
 K (Value.bool Bool.true) (10 : Nat))
 (bsel (Nat.ble ((3 : Nat) + strLen x) (9223372036854775807 : Nat))
 (bsel (Nat.ble (strLen (strCat (ByteArray.mk #[(40 : UInt8), (49 : UInt8), (32 : UInt8)]) x) + (4 : Nat)) (9223372036854775807 : Nat))
 (bsel
 (Nat.ble
 (strLen
 (strCat (strCat (ByteArray.mk #[(40 : UInt8), (49 : UInt8), (32 : UInt8)]) x)
 (ByteArray.mk #[(32 : UInt8), (50 : UInt8), (41 : UInt8), (32 : UInt8)])) +
 strLen x_1)
 (9223372036854775807 : Nat))
 (bsel
 (Nat.ble
 (strLen
 (strCat
 (strCat (strCat (ByteArray.mk #[(40 : UInt8), (49 : UInt8), (32 : UInt8)]) x)
 (ByteArray.mk #[(32 : UInt8), (50 : UInt8), (41 : UInt8), (32 : UInt8)]))
 x_1) +
 (2 : Nat))
 (9223372036854775807 : Nat))
 (bsel (Nat.ble ((2 : Nat) + strLen x) (9223372036854775807 : Nat))
 (bsel (Nat.ble (strLen (strCat (ByteArray.mk #[(49 : UInt8), (32 : UInt8)]) x) + (4 : Nat)) (9223372036854775807 : Nat))
 (bsel
 (Nat.ble
 (strLen
 (strCat (strCat (ByteArray.mk #[(49 : UInt8), (32 : UInt8)]) x)
 (ByteArray.mk #[(32 : UInt8), (40 : UInt8), (50 : UInt8), (32 : UInt8)])) +
 strLen x_1)
 (9223372036854775807 : Nat))
 (bsel
 (Nat.ble
 (strLen
 (strCat
 (strCat (strCat (ByteArray.mk #[(49 : UInt8), (32 : UInt8)]) x)
 (ByteArray.mk #[(32 : UInt8), (40 : UInt8), (50 : UInt8), (32 : UInt8)]))
 x_1) +
 (3 : Nat))
 (9223372036854775807 : Nat))
 (bsel (decide (x_3 ≥ x_4))
 (TotP base (11 : Nat)
 [Value.string
 (strCat
 (strCat
 (strCat (strCat (ByteArray.mk #[(49 : UInt8), (32 : UInt8)]) x) (ByteArray.mk #[(32 : UInt8), (50 : UInt8), (32 : UInt8)]))
 x_1)
 (ByteArray.mk #[(32 : UInt8), (51 : UInt8)])),
 Value.string
 (strCat
 (strCat
 (strCat (strCat (ByteArray.mk #[(40 : UInt8), (49 : UInt8), (32 : UInt8)]) x)
 (ByteArray.mk #[(32 : UInt8), (50 : UInt8), (41 : UInt8), (32 : UInt8)]))
 x_1)
 (ByteArray.mk #[(32 : UInt8), (51 : UInt8)])),
 Value.slice Option.none (0 : Nat) (0 : Nat)]
 (Value.bool Bool.true) ∧
 bsel (decide (x_3 < x_4))
 (TotP base (11 : Nat)
 [Value.string
 (strCat
 (strCat
 (strCat (strCat (ByteArray.mk #[(49 : UInt8), (32 : UInt8)]) x)
 (ByteArray.mk #[(32 : UInt8), (50 : UInt8), (32 : UInt8)]))
 x_1)
 (ByteArray.mk #[(32 : UInt8), (51 : UInt8)])),
 Value.string
 (strCat
 (strCat
 (strCat (strCat (ByteArray.mk #[(49 : UInt8), (32 : UInt8)]) x)
 (ByteArray.mk #[(32 : UInt8), (40 : UInt8), (50 : UInt8), (32 : UInt8)]))
 x_1)
 (ByteArray.mk #[(32 : UInt8), (51 : UInt8), (41 : UInt8)])),
 Value.slice Option.none (0 : Nat) (0 : Nat)]
 (Value.bool Bool.true) ∧
 bsel (Nat.ble ((3 : Nat) + strLen x_2) (9223372036854775807 : Nat))
 (bsel
 (Nat.ble (strLen (strCat (ByteArray.mk #[(45 : UInt8), (49 : UInt8), (32 : UInt8)]) x_2) + (3 : Nat))
 (9223372036854775807 : Nat))
 (bsel (Nat.ble ((5 : Nat) + strLen x_2) (9223372036854775807 : Nat))
 (bsel
 (Nat.ble
 (strLen (strCat (ByteArray.mk #[(40 : UInt8), (45 : UInt8), (49 : UInt8), (41 : UInt8), (32 : UInt8)]) x_2) + (5 : Nat))
 (9223372036854775807 : Nat))
 (TotP base (11 : Nat)
 [Value.string
 (strCat (strCat (ByteArray.mk #[(45 : UInt8), (49 : UInt8), (32 : UInt8)]) x_2)
 (ByteArray.mk #[(32 : UInt8), (45 : UInt8), (50 : UInt8)])),
 Value.string
 (strCat (strCat (ByteArray.mk #[(40 : UInt8), (45 : UInt8), (49 : UInt8), (41 : UInt8), (32 : UInt8)]) x_2)
 (ByteArray.mk #[(32 : UInt8), (40 : UInt8), (45 : UInt8), (50 : UInt8), (41 : UInt8)])),
 Value.slice Option.none (0 : Nat) (0 : Nat)]
 (Value.bool Bool.true) ∧
 bsel (Nat.ble ((4 : Nat) + strLen x_2) (9223372036854775807 : Nat))
 (bsel
 (Nat.ble (strLen (strCat (ByteArray.mk #[(102 : UInt8), (40 : UInt8), (49 : UInt8), (32 : UInt8)]) x_2) + (3 : Nat))
 (9223372036854775807 : Nat))
 (bsel (Nat.ble ((6 : Nat) + strLen x_2) (9223372036854775807 : Nat))
 (bsel
 (Nat.ble
 (strLen
 (strCat (ByteArray.mk #[(40 : UInt8), (102 : UInt8), (41 : UInt8), (40 : UInt8), (49 : UInt8), (32 : UInt8)])
 x_2) +
 (3 : Nat))
 (9223372036854775807 : Nat))
 (TotP base (11 : Nat)
 [Value.string
 (strCat (strCat (ByteArray.mk #[(102 : UInt8), (40 : UInt8), (49 : UInt8), (32 : UInt8)]) x_2)
 (ByteArray.mk #[(32 : UInt8), (50 : UInt8), (41 : UInt8)])),
 Value.string
 (strCat
 (strCat
 (ByteArray.mk #[(40 : UInt8), (102 : UInt8), (41 : UInt8), (40 : UInt8), (49 : UInt8), (32 : UInt8)]) x_2)
 (ByteArray.mk #[(32 : UInt8), (50 : UInt8), (41 : UInt8)])),
 Value.slice Option.none (0 : Nat) (0 : Nat)]
 (Value.bool Bool.true) ∧
 bsel (Nat.ble ((3 : Nat) + strLen x_2) (9223372036854775807 : Nat))
 (bsel
 (Nat.ble (strLen (strCat (ByteArray.mk #[(91 : UInt8), (49 : UInt8), (32 : UInt8)]) x_2) + (6 : Nat))
 (9223372036854775807 : Nat))
 (bsel (Nat.ble ((3 : Nat) + strLen x_2) (9223372036854775807 : Nat))
 (bsel
 (Nat.ble (strLen (strCat (ByteArray.mk #[(91 : UInt8), (49 : UInt8), (32 : UInt8)]) x_2) + (6 : Nat))
 (9223372036854775807 : Nat))
 (TotP base (11 : Nat)
 [Value.string
 (strCat (strCat (ByteArray.mk #[(91 : UInt8), (49 : UInt8), (32 : UInt8)]) x_2)
 (ByteArray.mk #[(32 : UInt8), (50 : UInt8), (44 : UInt8), (32 : UInt8), (51 : UInt8), (93 : UInt8)])),
 Value.string
 (strCat (strCat (ByteArray.mk #[(91 : UInt8), (49 : UInt8), (32 : UInt8)]) x_2)
 (ByteArray.mk #[(32 : UInt8), (50 : UInt8), (44 : UInt8), (32 : UInt8), (51 : UInt8), (93 : UInt8)])),
 Value.slice Option.none (0 : Nat) (0 : Nat)]
 (Value.bool Bool.true) ∧
 K (Value.bool Bool.true) (18446744073709551616 : Nat))
 False)
 False)
 False)
 False)
 False)
 False)
 False)
 False)
 False)
 False)
 False)
 False)
 (bsel (Nat.ble ((3 : Nat) + strLen x_2) (9223372036854775807 : Nat))
 (bsel
 (Nat.ble (strLen (strCat (ByteArray.mk #[(45 : UInt8), (49 : UInt8), (32 : UInt8)]) x_2) + (3 : Nat))
 (9223372036854775807 : Nat))
 (bsel (Nat.ble ((5 : Nat) + strLen x_2) (9223372036854775807 : Nat))
 (bsel
 (Nat.ble
 (strLen (strCat (ByteArray.mk #[(40 : UInt8), (45 : UInt8), (49 : UInt8), (41 : UInt8), (32 : UInt8)]) x_2) + (5 : Nat))
 (9223372036854775807 : Nat))
 (TotP base (11 : Nat)
 [Value.string
 (strCat (strCat (ByteArray.mk #[(45 : UInt8), (49 : UInt8), (32 : UInt8)]) x_2)
 (ByteArray.mk #[(32 : UInt8), (45 : UInt8), (50 : UInt8)])),
 Value.string
 (strCat (strCat (ByteArray.mk #[(40 : UInt8), (45 : UInt8), (49 : UInt8), (41 : UInt8), (32 : UInt8)]) x_2)
 (ByteArray.mk #[(32 : UInt8), (40 : UInt8), (45 : UInt8), (50 : UInt8), (41 : UInt8)])),
 Value.slice Option.none (0 : Nat) (0 : Nat)]
 (Value.bool Bool.true) ∧
 bsel (Nat.ble ((4 : Nat) + strLen x_2) (9223372036854775807 : Nat))
 (bsel
 (Nat.ble (strLen (strCat (ByteArray.mk #[(102 : UInt8), (40 : UInt8), (49 : UInt8), (32 : UInt8)]) x_2) + (3 : Nat))
 (9223372036854775807 : Nat))
 (bsel (Nat.ble ((6 : Nat) + strLen x_2) (9223372036854775807 : Nat))
 (bsel
 (Nat.ble
 (strLen
 (strCat (ByteArray.mk #[(40 : UInt8), (102 : UInt8), (41 : UInt8), (40 : UInt8), (49 : UInt8), (32 : UInt8)])
 x_2) +
 (3 : Nat))
 (9223372036854775807 : Nat))
 (TotP base (11 : Nat)
 [Value.string
 (strCat (strCat (ByteArray.mk #[(102 : UInt8), (40 : UInt8), (49 : UInt8), (32 : UInt8)]) x_2)
 (ByteArray.mk #[(32 : UInt8), (50 : UInt8), (41 : UInt8)])),
 Value.string
 (strCat
 (strCat (ByteArray.mk #[(40 : UInt8), (102 : UInt8), (41 : UInt8), (40 : UInt8), (49 : UInt8), (32 : UInt8)])
 x_2)
 (ByteArray.mk #[(32 : UInt8), (50 : UInt8), (41 : UInt8)])),
 Value.slice Option.none (0 : Nat) (0 : Nat)]
 (Value.bool Bool.true) ∧
 bsel (Nat.ble ((3 : Nat) + strLen x_2) (9223372036854775807 : Nat))
 (bsel
 (Nat.ble (strLen (strCat (ByteArray.mk #[(91 : UInt8), (49 : UInt8), (32 : UInt8)]) x_2) + (6 : Nat))
 (9223372036854775807 : Nat))
 (bsel (Nat.ble ((3 : Nat) + strLen x_2) (9223372036854775807 : Nat))
 (bsel
 (Nat.ble (strLen (strCat (ByteArray.mk #[(91 : UInt8), (49 : UInt8), (32 : UInt8)]) x_2) + (6 : Nat))
 (9223372036854775807 : Nat))
 (TotP base (11 : Nat)
 [Value.string
 (strCat (strCat (ByteArray.mk #[(91 : UInt8), (49 : UInt8), (32 : UInt8)]) x_2)
 (ByteArray.mk #[(32 : UInt8), (50 : UInt8), (44 : UInt8), (32 : UInt8), (51 : UInt8), (93 : UInt8)])),
 Value.string
 (strCat (strCat (ByteArray.mk #[(91 : UInt8), (49 : UInt8), (32 : UInt8)]) x_2)
 (ByteArray.mk #[(32 : UInt8), (50 : UInt8), (44 : UInt8), (32 : UInt8), (51 : UInt8), (93 : UInt8)])),
 Value.slice Option.none (0 : Nat) (0 : Nat)]
 (Value.bool Bool.true) ∧
 K (Value.bool Bool.true) (18446744073709551616 : Nat))
 False)
 False)
 False)
 False)
 False)
 False)
 False)
 False)
 False)
 False)
 False)
 False))
 (bsel (decide (x_3 < x_4))
 (TotP base (11 : Nat)
 [Value.string
 (strCat
 (strCat
 (strCat (strCat (ByteArray.mk #[(49 : UInt8), (32 : UInt8)]) x)
 (ByteArray.mk #[(32 : UInt8), (50 : UInt8), (32 : UInt8)]))
 x_1)
 (ByteArray.mk #[(32 : UInt8), (51 : UInt8)])),
 Value.string
 (strCat
 (strCat
 (strCat (strCat (ByteArray.mk #[(49 : UInt8), (32 : UInt8)]) x)
 (ByteArray.mk #[(32 : UInt8), (40 : UInt8), (50 : UInt8), (32 : UInt8)]))
 x_1)
 (ByteArray.mk #[(32 : UInt8), (51 : UInt8), (41 : UInt8)])),
 Value.slice Option.none (0 : Nat) (0 : Nat)]
 (Value.bool Bool.true) ∧
 bsel (Nat.ble ((3 : Nat) + strLen x_2) (9223372036854775807 : Nat))
 (bsel
 (Nat.ble (strLen (strCat (ByteArray.mk #[(45 : UInt8), (49 : UInt8), (32 : UInt8)]) x_2) + (3 : Nat))
 (9223372036854775807 : Nat))
 (bsel (Nat.ble ((5 : Nat) + strLen x_2) (9223372036854775807 : Nat))
 (bsel
 (Nat.ble
 (strLen (strCat (ByteArray.mk #[(40 : UInt8), (45 : UInt8), (49 : UInt8), (41 : UInt8), (32 : UInt8)]) x_2) + (5 : Nat))
 (9223372036854775807 : Nat))
 (TotP base (11 : Nat)
 [Value.string
 (strCat (strCat (ByteArray.mk #[(45 : UInt8), (49 : UInt8), (32 : UInt8)]) x_2)
 (ByteArray.mk #[(32 : UInt8), (45 : UInt8), (50 : UInt8)])),
 Value.string
 (strCat (strCat (ByteArray.mk #[(40 : UInt8), (45 : UInt8), (49 : UInt8), (41 : UInt8), (32 : UInt8)]) x_2)
 (ByteArray.mk #[(32 : UInt8), (40 : UInt8), (45 : UInt8), (50 : UInt8), (41 : UInt8)])),
 Value.slice Option.none (0 : Nat) (0 : Nat)]
 (Value.bool Bool.true) ∧
 bsel (Nat.ble ((4 : Nat) + strLen x_2) (9223372036854775807 : Nat))
 (bsel
 (Nat.ble (strLen (strCat (ByteArray.mk #[(102 : UInt8), (40 : UInt8), (49 : UInt8), (32 : UInt8)]) x_2) + (3 : Nat))
 (9223372036854775807 : Nat))
 (bsel (Nat.ble ((6 : Nat) + strLen x_2) (9223372036854775807 : Nat))
 (bsel
 (Nat.ble
 (strLen
 (strCat (ByteArray.mk #[(40 : UInt8), (102 : UInt8), (41 : UInt8), (40 : UInt8), (49 : UInt8), (32 : UInt8)])
 x_2) +
 (3 : Nat))
 (9223372036854775807 : Nat))
 (TotP base (11 : Nat)
 [Value.string
 (strCat (strCat (ByteArray.mk #[(102 : UInt8), (40 : UInt8), (49 : UInt8), (32 : UInt8)]) x_2)
 (ByteArray.mk #[(32 : UInt8), (50 : UInt8), (41 : UInt8)])),
 Value.string
 (strCat
 (strCat (ByteArray.mk #[(40 : UInt8), (102 : UInt8), (41 : UInt8), (40 : UInt8), (49 : UInt8), (32 : UInt8)])
 x_2)
 (ByteArray.mk #[(32 : UInt8), (50 : UInt8), (41 : UInt8)])),
 Value.slice Option.none (0 : Nat) (0 : Nat)]
 (Value.bool Bool.true) ∧
 bsel (Nat.ble ((3 : Nat) + strLen x_2) (9223372036854775807 : Nat))
 (bsel
 (Nat.ble (strLen (strCat (ByteArray.mk #[(91 : UInt8), (49 : UInt8), (32 : UInt8)]) x_2) + (6 : Nat))
 (9223372036854775807 : Nat))
 (bsel (Nat.ble ((3 : Nat) + strLen x_2) (9223372036854775807 : Nat))
 (bsel
 (Nat.ble (strLen (strCat (ByteArray.mk #[(91 : UInt8), (49 : UInt8), (32 : UInt8)]) x_2) + (6 : Nat))
 (9223372036854775807 : Nat))
 (TotP base (11 : Nat)
 [Value.string
 (strCat (strCat (ByteArray.mk #[(91 : UInt8), (49 : UInt8), (32 : UInt8)]) x_2)
 (ByteArray.mk #[(32 : UInt8), (50 : UInt8), (44 : UInt8), (32 : UInt8), (51 : UInt8), (93 : UInt8)])),
 Value.string
 (strCat (strCat (ByteArray.mk #[(91 : UInt8), (49 : UInt8), (32 : UInt8)]) x_2)
 (ByteArray.mk #[(32 : UInt8), (50 : UInt8), (44 : UInt8), (32 : UInt8), (51 : UInt8), (93 : UInt8)])),
 Value.slice Option.none (0 : Nat) (0 : Nat)]
 (Value.bool Bool.true) ∧
 K (Value.bool Bool.true) (18446744073709551616 : Nat))
 False)
 False)
 False)
 False)
 False)
 False)
 False)
 False)
 False)
 False)
 False)
 False)
 (bsel (Nat.ble ((3 : Nat) + strLen x_2) (9223372036854775807 : Nat))
 (bsel
 (Nat.ble (strLen (strCat (ByteArray.mk #[(45 : UInt8), (49 : UInt8), (32 : UInt8)]) x_2) + (3 : Nat)) (9223372036854775807 : Nat))
 (bsel (Nat.ble ((5 : Nat) + strLen x_2) (9223372036854775807 : Nat))
 (bsel
 (Nat.ble
 (strLen (strCat (ByteArray.mk #[(40 : UInt8), (45 : UInt8), (49 : UInt8), (41 : UInt8), (32 : UInt8)]) x_2) + (5 : Nat))
 (9223372036854775807 : Nat))
 (TotP base (11 : Nat)
 [Value.string
 (strCat (strCat (ByteArray.mk #[(45 : UInt8), (49 : UInt8), (32 : UInt8)]) x_2)
 (ByteArray.mk #[(32 : UInt8), (45 : UInt8), (50 : UInt8)])),
 Value.string
 (strCat (strCat (ByteArray.mk #[(40 : UInt8), (45 : UInt8), (49 : UInt8), (41 : UInt8), (32 : UInt8)]) x_2)
 (ByteArray.mk #[(32 : UInt8), (40 : UInt8), (45 : UInt8), (50 : UInt8), (41 : UInt8)])),
 Value.slice Option.none (0 : Nat) (0 : Nat)]
 (Value.bool Bool.true) ∧
 bsel (Nat.ble ((4 : Nat) + strLen x_2) (9223372036854775807 : Nat))
 (bsel
 (Nat.ble (strLen (strCat (ByteArray.mk #[(102 : UInt8), (40 : UInt8), (49 : UInt8), (32 : UInt8)]) x_2) + (3 : Nat))
 (9223372036854775807 : Nat))
 (bsel (Nat.ble ((6 : Nat) + strLen x_2) (9223372036854775807 : Nat))
 (bsel
 (Nat.ble
 (strLen
 (strCat (ByteArray.mk #[(40 : UInt8), (102 : UInt8), (41 : UInt8), (40 : UInt8), (49 : UInt8), (32 : UInt8)]) x_2) +
 (3 : Nat))
 (9223372036854775807 : Nat))
 (TotP base (11 : Nat)
 [Value.string
 (strCat (strCat (ByteArray.mk #[(102 : UInt8), (40 : UInt8), (49 : UInt8), (32 : UInt8)]) x_2)
 (ByteArray.mk #[(32 : UInt8), (50 : UInt8), (41 : UInt8)])),
 Value.string
 (strCat
 (strCat (ByteArray.mk #[(40 : UInt8), (102 : UInt8), (41 : UInt8), (40 : UInt8), (49 : UInt8), (32 : UInt8)])
 x_2)
 (ByteArray.mk #[(32 : UInt8), (50 : UInt8), (41 : UInt8)])),
 Value.slice Option.none (0 : Nat) (0 : Nat)]
 (Value.bool Bool.true) ∧
 bsel (Nat.ble ((3 : Nat) + strLen x_2) (9223372036854775807 : Nat))
 (bsel
 (Nat.ble (strLen (strCat (ByteArray.mk #[(91 : UInt8), (49 : UInt8), (32 : UInt8)]) x_2) + (6 : Nat))
 (9223372036854775807 : Nat))
 (bsel (Nat.ble ((3 : Nat) + strLen x_2) (9223372036854775807 : Nat))
 (bsel
 (Nat.ble (strLen (strCat (ByteArray.mk #[(91 : UInt8), (49 : UInt8), (32 : UInt8)]) x_2) + (6 : Nat))
 (9223372036854775807 : Nat))
 (TotP base (11 : Nat)
 [Value.string
 (strCat (strCat (ByteArray.mk #[(91 : UInt8), (49 : UInt8), (32 : UInt8)]) x_2)
 (ByteArray.mk #[(32 : UInt8), (50 : UInt8), (44 : UInt8), (32 : UInt8), (51 : UInt8), (93 : UInt8)])),
 Value.string
 (strCat (strCat (ByteArray.mk #[(91 : UInt8), (49 : UInt8), (32 : UInt8)]) x_2)
 (ByteArray.mk #[(32 : UInt8), (50 : UInt8), (44 : UInt8), (32 : UInt8), (51 : UInt8), (93 : UInt8)])),
 Value.slice Option.none (0 : Nat) (0 : Nat)]
 (Value.bool Bool.true) ∧
 K (Value.bool Bool.true) (18446744073709551616 : Nat))
 False)
 False)
 False)
 False)
 False)
 False)
 False)
 False)
 False)
 False)
 False)
 False)))
 False)
 False)
 False)
 False)
 False)
 False)
 False)
 False))
 (bsel (Nat.ble ((3 : Nat) + strLen x) (9223372036854775807 : Nat))
 (bsel (Nat.ble (strLen (strCat (ByteArray.mk #[(40 : UInt8), (49 : UInt8), (32 : UInt8)]) x) + (4 : Nat)) (9223372036854775807 : Nat))
 (bsel
 (Nat.ble
 (strLen
 (strCat (strCat (ByteArray.mk #[(40 : UInt8), (49 : UInt8), (32 : UInt8)]) x)
 (ByteArray.mk #[(32 : UInt8), (50 : UInt8), (41 : UInt8), (32 : UInt8)])) +
 strLen x_1)
 (9223372036854775807 : Nat))
 (bsel
 (Nat.ble
 (strLen
 (strCat
 (strCat (strCat (ByteArray.mk #[(40 : UInt8), (49 : UInt8), (32 : UInt8)]) x)
 (ByteArray.mk #[(32 : UInt8), (50 : UInt8), (41 : UInt8), (32 : UInt8)]))
 x_1) +
 (2 : Nat))
 (9223372036854775807 : Nat))
 (bsel (Nat.ble ((2 : Nat) + strLen x) (9223372036854775807 : Nat))
 (bsel (Nat.ble (strLen (strCat (ByteArray.mk #[(49 : UInt8), (32 : UInt8)]) x) + (4 : Nat)) (9223372036854775807 : Nat))
 (bsel
 (Nat.ble
 (strLen
 (strCat (strCat (ByteArray.mk #[(49 : UInt8), (32 : UInt8)]) x)
 (ByteArray.mk #[(32 : UInt8), (40 : UInt8), (50 : UInt8), (32 : UInt8)])) +
 strLen x_1)
 (9223372036854775807 : Nat))
 (bsel
 (Nat.ble
 (strLen
 (strCat
 (strCat (strCat (ByteArray.mk #[(49 : UInt8), (32 : UInt8)]) x)
 (ByteArray.mk #[(32 : UInt8), (40 : UInt8), (50 : UInt8), (32 : UInt8)]))
 x_1) +
 (3 : Nat))
 (9223372036854775807 : Nat))
 (bsel (decide (x_3 ≥ x_4))
 (TotP base (11 : Nat)
 [Value.string
 (strCat
 (strCat
 (strCat (strCat (ByteArray.mk #[(49 : UInt8), (32 : UInt8)]) x) (ByteArray.mk #[(32 : UInt8), (50 : UInt8), (32 : UInt8)]))
 x_1)
 (ByteArray.mk #[(32 : UInt8), (51 : UInt8)])),
 Value.string
 (strCat
 (strCat
 (strCat (strCat (ByteArray.mk #[(40 : UInt8), (49 : UInt8), (32 : UInt8)]) x)
 (ByteArray.mk #[(32 : UInt8), (50 : UInt8), (41 : UInt8), (32 : UInt8)]))
 x_1)
 (ByteArray.mk #[(32 : UInt8), (51 : UInt8)])),
 Value.slice Option.none (0 : Nat) (0 : Nat)]
 (Value.bool Bool.true) ∧
 bsel (decide (x_3 < x_4))
 (TotP base (11 : Nat)
 [Value.string
 (strCat
 (strCat
 (strCat (strCat (ByteArray.mk #[(49 : UInt8), (32 : UInt8)]) x)
 (ByteArray.mk #[(32 : UInt8), (50 : UInt8), (32 : UInt8)]))
 x_1)
 (ByteArray.mk #[(32 : UInt8), (51 : UInt8)])),
 Value.string
 (strCat
 (strCat
 (strCat (strCat (ByteArray.mk #[(49 : UInt8), (32 : UInt8)]) x)
 (ByteArray.mk #[(32 : UInt8), (40 : UInt8), (50 : UInt8), (32 : UInt8)]))
 x_1)
 (ByteArray.mk #[(32 : UInt8), (51 : UInt8), (41 : UInt8)])),
 Value.slice Option.none (0 : Nat) (0 : Nat)]
 (Value.bool Bool.true) ∧
 bsel (Nat.ble ((3 : Nat) + strLen x_2) (9223372036854775807 : Nat))
 (bsel
 (Nat.ble (strLen (strCat (ByteArray.mk #[(45 : UInt8), (49 : UInt8), (32 : UInt8)]) x_2) + (3 : Nat))
 (9223372036854775807 : Nat))
 (bsel (Nat.ble ((5 : Nat) + strLen x_2) (9223372036854775807 : Nat))
 (bsel
 (Nat.ble
 (strLen (strCat (ByteArray.mk #[(40 : UInt8), (45 : UInt8), (49 : UInt8), (41 : UInt8), (32 : UInt8)]) x_2) + (5 : Nat))
 (9223372036854775807 : Nat))
 (TotP base (11 : Nat)
 [Value.string
 (strCat (strCat (ByteArray.mk #[(45 : UInt8), (49 : UInt8), (32 : UInt8)]) x_2)
 (ByteArray.mk #[(32 : UInt8), (45 : UInt8), (50 : UInt8)])),
 Value.string
 (strCat (strCat (ByteArray.mk #[(40 : UInt8), (45 : UInt8), (49 : UInt8), (41 : UInt8), (32 : UInt8)]) x_2)
 (ByteArray.mk #[(32 : UInt8), (40 : UInt8), (45 : UInt8), (50 : UInt8), (41 : UInt8)])),
 Value.slice Option.none (0 : Nat) (0 : Nat)]
 (Value.bool Bool.true) ∧
 bsel (Nat.ble ((4 : Nat) + strLen x_2) (9223372036854775807 : Nat))
 (bsel
 (Nat.ble (strLen (strCat (ByteArray.mk #[(102 : UInt8), (40 : UInt8), (49 : UInt8), (32 : UInt8)]) x_2) + (3 : Nat))
 (9223372036854775807 : Nat))
 (bsel (Nat.ble ((6 : Nat) + strLen x_2) (9223372036854775807 : Nat))
 (bsel
 (Nat.ble
 (strLen
 (strCat (ByteArray.mk #[(40 : UInt8), (102 : UInt8), (41 : UInt8), (40 : UInt8), (49 : UInt8), (32 : UInt8)])
 x_2) +
 (3 : Nat))
 (9223372036854775807 : Nat))
 (TotP base (11 : Nat)
 [Value.string
 (strCat (strCat (ByteArray.mk #[(102 : UInt8), (40 : UInt8), (49 : UInt8), (32 : UInt8)]) x_2)
 (ByteArray.mk #[(32 : UInt8), (50 : UInt8), (41 : UInt8)])),
 Value.string
 (strCat
 (strCat (ByteArray.mk #[(40 : UInt8), (102 : UInt8), (41 : UInt8), (40 : UInt8), (49 : UInt8), (32 : UInt8)])
 x_2)
 (ByteArray.mk #[(32 : UInt8), (50 : UInt8), (41 : UInt8)])),
 Value.slice Option.none (0 : Nat) (0 : Nat)]
 (Value.bool Bool.true) ∧
 bsel (Nat.ble ((3 : Nat) + strLen x_2) (9223372036854775807 : Nat))
 (bsel
 (Nat.ble (strLen (strCat (ByteArray.mk #[(91 : UInt8), (49 : UInt8), (32 : UInt8)]) x_2) + (6 : Nat))
 (9223372036854775807 : Nat))
 (bsel (Nat.ble ((3 : Nat) + strLen x_2) (9223372036854775807 : Nat))
 (bsel
 (Nat.ble (strLen (strCat (ByteArray.mk #[(91 : UInt8), (49 : UInt8), (32 : UInt8)]) x_2) + (6 : Nat))
 (9223372036854775807 : Nat))
 (TotP base (11 : Nat)
 [Value.string
 (strCat (strCat (ByteArray.mk #[(91 : UInt8), (49 : UInt8), (32 : UInt8)]) x_2)
 (ByteArray.mk #[(32 : UInt8), (50 : UInt8), (44 : UInt8), (32 : UInt8), (51 : UInt8), (93 : UInt8)])),
 Value.string
 (strCat (strCat (ByteArray.mk #[(91 : UInt8), (49 : UInt8), (32 : UInt8)]) x_2)
 (ByteArray.mk #[(32 : UInt8), (50 : UInt8), (44 : UInt8), (32 : UInt8), (51 : UInt8), (93 : UInt8)])),
 Value.slice Option.none (0 : Nat) (0 : Nat)]
 (Value.bool Bool.true) ∧
 K (Value.bool Bool.true) (18446744073709551616 : Nat))
 False)
 False)
 False)
 False)
 False)
 False)
 False)
 False)
 False)
 False)
 False)
 False)
 (bsel (Nat.ble ((3 : Nat) + strLen x_2) (9223372036854775807 : Nat))
 (bsel
 (Nat.ble (strLen (strCat (ByteArray.mk #[(45 : UInt8), (49 : UInt8), (32 : UInt8)]) x_2) + (3 : Nat)) (9223372036854775807 : Nat))
 (bsel (Nat.ble ((5 : Nat) + strLen x_2) (9223372036854775807 : Nat))
 (bsel
 (Nat.ble
 (strLen (strCat (ByteArray.mk #[(40 : UInt8), (45 : UInt8), (49 : UInt8), (41 : UInt8), (32 : UInt8)]) x_2) + (5 : Nat))
 (9223372036854775807 : Nat))
 (TotP base (11 : Nat)
 [Value.string
 (strCat (strCat (ByteArray.mk #[(45 : UInt8), (49 : UInt8), (32 : UInt8)]) x_2)
 (ByteArray.mk #[(32 : UInt8), (45 : UInt8), (50 : UInt8)])),
 Value.string
 (strCat (strCat (ByteArray.mk #[(40 : UInt8), (45 : UInt8), (49 : UInt8), (41 : UInt8), (32 : UInt8)]) x_2)
 (ByteArray.mk #[(32 : UInt8), (40 : UInt8), (45 : UInt8), (50 : UInt8), (41 : UInt8)])),
 Value.slice Option.none (0 : Nat) (0 : Nat)]
 (Value.bool Bool.true) ∧
 bsel (Nat.ble ((4 : Nat) + strLen x_2) (9223372036854775807 : Nat))
 (bsel
 (Nat.ble (strLen (strCat (ByteArray.mk #[(102 : UInt8), (40 : UInt8), (49 : UInt8), (32 : UInt8)]) x_2) + (3 : Nat))
 (9223372036854775807 : Nat))
 (bsel (Nat.ble ((6 : Nat) + strLen x_2) (9223372036854775807 : Nat))
 (bsel
 (Nat.ble
 (strLen
 (strCat (ByteArray.mk #[(40 : UInt8), (102 : UInt8), (41 : UInt8), (40 : UInt8), (49 : UInt8), (32 : UInt8)]) x_2) +
 (3 : Nat))
 (9223372036854775807 : Nat))
 (TotP base (11 : Nat)
 [Value.string
 (strCat (strCat (ByteArray.mk #[(102 : UInt8), (40 : UInt8), (49 : UInt8), (32 : UInt8)]) x_2)
 (ByteArray.mk #[(32 : UInt8), (50 : UInt8), (41 : UInt8)])),
 Value.string
 (strCat
 (strCat (ByteArray.mk #[(40 : UInt8), (102 : UInt8), (41 : UInt8), (40 : UInt8), (49 : UInt8), (32 : UInt8)])
 x_2)
 (ByteArray.mk #[(32 : UInt8), (50 : UInt8), (41 : UInt8)])),
 Value.slice Option.none (0 : Nat) (0 : Nat)]
 (Value.bool Bool.true) ∧
 bsel (Nat.ble ((3 : Nat) + strLen x_2) (9223372036854775807 : Nat))
 (bsel
 (Nat.ble (strLen (strCat (ByteArray.mk #[(91 : UInt8), (49 : UInt8), (32 : UInt8)]) x_2) + (6 : Nat))
 (9223372036854775807 : Nat))
 (bsel (Nat.ble ((3 : Nat) + strLen x_2) (9223372036854775807 : Nat))
 (bsel
 (Nat.ble (strLen (strCat (ByteArray.mk #[(91 : UInt8), (49 : UInt8), (32 : UInt8)]) x_2) + (6 : Nat))
 (9223372036854775807 : Nat))
 (TotP base (11 : Nat)
 [Value.string
 (strCat (strCat (ByteArray.mk #[(91 : UInt8), (49 : UInt8), (32 : UInt8)]) x_2)
 (ByteArray.mk #[(32 : UInt8), (50 : UInt8), (44 : UInt8), (32 : UInt8), (51 : UInt8), (93 : UInt8)])),
 Value.string
 (strCat (strCat (ByteArray.mk #[(91 : UInt8), (49 : UInt8), (32 : UInt8)]) x_2)
 (ByteArray.mk #[(32 : UInt8), (50 : UInt8), (44 : UInt8), (32 : UInt8), (51 : UInt8), (93 : UInt8)])),
 Value.slice Option.none (0 : Nat) (0 : Nat)]
 (Value.bool Bool.true) ∧
 K (Value.bool Bool.true) (18446744073709551616 : Nat))
 False)
 False)
 False)
 False)
 False)
 False)
 False)
 False)
 False)
 False)
 False)
 False))
 (bsel (decide (x_3 < x_4))
 (TotP base (11 : Nat)
 [Value.string
 (strCat
 (strCat
 (strCat (strCat (ByteArray.mk #[(49 : UInt8), (32 : UInt8)]) x) (ByteArray.mk #[(32 : UInt8), (50 : UInt8), (32 : UInt8)]))
 x_1)
 (ByteArray.mk #[(32 : UInt8), (51 : UInt8)])),
 Value.string
 (strCat
 (strCat
 (strCat (strCat (ByteArray.mk #[(49 : UInt8), (32 : UInt8)]) x)
 (ByteArray.mk #[(32 : UInt8), (40 : UInt8), (50 : UInt8), (32 : UInt8)]))
 x_1)
 (ByteArray.mk #[(32 : UInt8), (51 : UInt8), (41 : UInt8)])),
 Value.slice Option.none (0 : Nat) (0 : Nat)]
 (Value.bool Bool.true) ∧
 bsel (Nat.ble ((3 : Nat) + strLen x_2) (9223372036854775807 : Nat))
 (bsel
 (Nat.ble (strLen (strCat (ByteArray.mk #[(45 : UInt8), (49 : UInt8), (32 : UInt8)]) x_2) + (3 : Nat)) (9223372036854775807 : Nat))
 (bsel (Nat.ble ((5 : Nat) + strLen x_2) (9223372036854775807 : Nat))
 (bsel
 (Nat.ble
 (strLen (strCat (ByteArray.mk #[(40 : UInt8), (45 : UInt8), (49 : UInt8), (41 : UInt8), (32 : UInt8)]) x_2) + (5 : Nat))
 (9223372036854775807 : Nat))
 (TotP base (11 : Nat)
 [Value.string
 (strCat (strCat (ByteArray.mk #[(45 : UInt8), (49 : UInt8), (32 : UInt8)]) x_2)
 (ByteArray.mk #[(32 : UInt8), (45 : UInt8), (50 : UInt8)])),
 Value.string
 (strCat (strCat (ByteArray.mk #[(40 : UInt8), (45 : UInt8), (49 : UInt8), (41 : UInt8), (32 : UInt8)]) x_2)
 (ByteArray.mk #[(32 : UInt8), (40 : UInt8), (45 : UInt8), (50 : UInt8), (41 : UInt8)])),
 Value.slice Option.none (0 : Nat) (0 : Nat)]
 (Value.bool Bool.true) ∧
 bsel (Nat.ble ((4 : Nat) + strLen x_2) (9223372036854775807 : Nat))
 (bsel
 (Nat.ble (strLen (strCat (ByteArray.mk #[(102 : UInt8), (40 : UInt8), (49 : UInt8), (32 : UInt8)]) x_2) + (3 : Nat))
 (9223372036854775807 : Nat))
 (bsel (Nat.ble ((6 : Nat) + strLen x_2) (9223372036854775807 : Nat))
 (bsel
 (Nat.ble
 (strLen
 (strCat (ByteArray.mk #[(40 : UInt8), (102 : UInt8), (41 : UInt8), (40 : UInt8), (49 : UInt8), (32 : UInt8)]) x_2) +
 (3 : Nat))
 (9223372036854775807 : Nat))
 (TotP base (11 : Nat)
 [Value.string
 (strCat (strCat (ByteArray.mk #[(102 : UInt8), (40 : UInt8), (49 : UInt8), (32 : UInt8)]) x_2)
 (ByteArray.mk #[(32 : UInt8), (50 : UInt8), (41 : UInt8)])),
 Value.string
 (strCat
 (strCat (ByteArray.mk #[(40 : UInt8), (102 : UInt8), (41 : UInt8), (40 : UInt8), (49 : UInt8), (32 : UInt8)])
 x_2)
 (ByteArray.mk #[(32 : UInt8), (50 : UInt8), (41 : UInt8)])),
 Value.slice Option.none (0 : Nat) (0 : Nat)]
 (Value.bool Bool.true) ∧
 bsel (Nat.ble ((3 : Nat) + strLen x_2) (9223372036854775807 : Nat))
 (bsel
 (Nat.ble (strLen (strCat (ByteArray.mk #[(91 : UInt8), (49 : UInt8), (32 : UInt8)]) x_2) + (6 : Nat))
 (9223372036854775807 : Nat))
 (bsel (Nat.ble ((3 : Nat) + strLen x_2) (9223372036854775807 : Nat))
 (bsel
 (Nat.ble (strLen (strCat (ByteArray.mk #[(91 : UInt8), (49 : UInt8), (32 : UInt8)]) x_2) + (6 : Nat))
 (9223372036854775807 : Nat))
 (TotP base (11 : Nat)
 [Value.string
 (strCat (strCat (ByteArray.mk #[(91 : UInt8), (49 : UInt8), (32 : UInt8)]) x_2)
 (ByteArray.mk #[(32 : UInt8), (50 : UInt8), (44 : UInt8), (32 : UInt8), (51 : UInt8), (93 : UInt8)])),
 Value.string
 (strCat (strCat (ByteArray.mk #[(91 : UInt8), (49 : UInt8), (32 : UInt8)]) x_2)
 (ByteArray.mk #[(32 : UInt8), (50 : UInt8), (44 : UInt8), (32 : UInt8), (51 : UInt8), (93 : UInt8)])),
 Value.slice Option.none (0 : Nat) (0 : Nat)]
 (Value.bool Bool.true) ∧
 K (Value.bool Bool.true) (18446744073709551616 : Nat))
 False)
 False)
 False)
 False)
 False)
 False)
 False)
 False)
 False)
 False)
 False)
 False)
 (bsel (Nat.ble ((3 : Nat) + strLen x_2) (9223372036854775807 : Nat))
 (bsel
 (Nat.ble (strLen (strCat (ByteArray.mk #[(45 : UInt8), (49 : UInt8), (32 : UInt8)]) x_2) + (3 : Nat)) (9223372036854775807 : Nat))
 (bsel (Nat.ble ((5 : Nat) + strLen x_2) (9223372036854775807 : Nat))
 (bsel
 (Nat.ble
 (strLen (strCat (ByteArray.mk #[(40 : UInt8), (45 : UInt8), (49 : UInt8), (41 : UInt8), (32 : UInt8)]) x_2) + (5 : Nat))
 (9223372036854775807 : Nat))
 (TotP base (11 : Nat)
 [Value.string
 (strCat (strCat (ByteArray.mk #[(45 : UInt8), (49 : UInt8), (32 : UInt8)]) x_2)
 (ByteArray.mk #[(32 : UInt8), (45 : UInt8), (50 : UInt8)])),
 Value.string
 (strCat (strCat (ByteArray.mk #[(40 : UInt8), (45 : UInt8), (49 : UInt8), (41 : UInt8), (32 : UInt8)]) x_2)
 (ByteArray.mk #[(32 : UInt8), (40 : UInt8), (45 : UInt8), (50 : UInt8), (41 : UInt8)])),
 Value.slice Option.none (0 : Nat) (0 : Nat)]
 (Value.bool Bool.true) ∧
 bsel (Nat.ble ((4 : Nat) + strLen x_2) (9223372036854775807 : Nat))
 (bsel
 (Nat.ble (strLen (strCat (ByteArray.mk #[(102 : UInt8), (40 : UInt8), (49 : UInt8), (32 : UInt8)]) x_2) + (3 : Nat))
 (9223372036854775807 : Nat))
 (bsel (Nat.ble ((6 : Nat) + strLen x_2) (9223372036854775807 : Nat))
 (bsel
 (Nat.ble
 (strLen
 (strCat (ByteArray.mk #[(40 : UInt8), (102 : UInt8), (41 : UInt8), (40 : UInt8), (49 : UInt8), (32 : UInt8)]) x_2) +
 (3 : Nat))
 (9223372036854775807 : Nat))
 (TotP base (11 : Nat)
 [Value.string
 (strCat (strCat (ByteArray.mk #[(102 : UInt8), (40 : UInt8), (49 : UInt8), (32 : UInt8)]) x_2)
 (ByteArray.mk #[(32 : UInt8), (50 : UInt8), (41 : UInt8)])),
 Value.string
 (strCat
 (strCat (ByteArray.mk #[(40 : UInt8), (102 : UInt8), (41 : UInt8), (40 : UInt8), (49 : UInt8), (32 : UInt8)]) x_2)
 (ByteArray.mk #[(32 : UInt8), (50 : UInt8), (41 : UInt8)])),
 Value.slice Option.none (0 : Nat) (0 : Nat)]
 (Value.bool Bool.true) ∧
 bsel (Nat.ble ((3 : Nat) + strLen x_2) (9223372036854775807 : Nat))
 (bsel
 (Nat.ble (strLen (strCat (ByteArray.mk #[(91 : UInt8), (49 : UInt8), (32 : UInt8)]) x_2) + (6 : Nat))
 (9223372036854775807 : Nat))
 (bsel (Nat.ble ((3 : Nat) + strLen x_2) (9223372036854775807 : Nat))
 (bsel
 (Nat.ble (strLen (strCat (ByteArray.mk #[(91 : UInt8), (49 : UInt8), (32 : UInt8)]) x_2) + (6 : Nat))
 (9223372036854775807 : Nat))
 (TotP base (11 : Nat)
 [Value.string
 (strCat (strCat (ByteArray.mk #[(91 : UInt8), (49 : UInt8), (32 : UInt8)]) x_2)
 (ByteArray.mk #[(32 : UInt8), (50 : UInt8), (44 : UInt8), (32 : UInt8), (51 : UInt8), (93 : UInt8)])),
 Value.string
 (strCat (strCat (ByteArray.mk #[(91 : UInt8), (49 : UInt8), (32 : UInt8)]) x_2)
 (ByteArray.mk #[(32 : UInt8), (50 : UInt8), (44 : UInt8), (32 : UInt8), (51 : UInt8), (93 : UInt8)])),
 Value.slice Option.none (0 : Nat) (0 : Nat)]
 (Value.bool Bool.true) ∧
 K (Value.bool Bool.true) (18446744073709551616 : Nat))
 False)
 False)
 False)
 False)
 False)
 False)
 False)
 False)
 False)
 False)
 False)
 False)))
 False)
 False)
 False)
 False)
 False)
 False)
 False)
 False))
 False)
 False)
 False)
 False) := by kernel_rfl
/-- The same, what is loaded of strings by a name. -/
noncomputable def envPS (S : List (Option Value) → Nat → ByteArray) : Env :=
  { P := Tryz.prog, isBool := bools, oracle := findR [], eqAgg := eqA (env []) eqTs, loops := 100000, loopP := fun _ _ => none, guess := fun _ _ => none, strF := S, wild := fun f _ => elemN f [], sure := fun f => Nat.blt f 241,
    low := Tryz.prog.globals.size + 1 }

theorem opsAt_tree (K : Value → Nat → Prop) (S : List (Option Value) → Nat → ByteArray) (p : Int) :
    funcK (envPS S) 30 8 [.int .u8 p] [] Tryz.prog.globals.size (fun u _ _ mw => K u mw) =
  (bsel (decide ((0 : Int) ≤ Int.tmod p (13 : Int)) && decide (Int.tmod p (13 : Int) < ↑(13 : Nat)))
 (bsel (Nat.blt ((0 : Nat) + Int.toNat (Int.tmod p (13 : Int)) * (1 : Nat)) (13 : Nat))
 (K
 (Value.string
 (S
 [Option.some (Value.string (ByteArray.mk #[(111 : UInt8), (114 : UInt8)])), Option.some (Value.string (ByteArray.mk #[(97 : UInt8), (110 : UInt8), (100 : UInt8)])),
 Option.some (Value.string (ByteArray.mk #[(61 : UInt8)])), Option.some (Value.string (ByteArray.mk #[(33 : UInt8), (61 : UInt8)])),
 Option.some (Value.string (ByteArray.mk #[(60 : UInt8)])), Option.some (Value.string (ByteArray.mk #[(60 : UInt8), (61 : UInt8)])),
 Option.some (Value.string (ByteArray.mk #[(62 : UInt8)])), Option.some (Value.string (ByteArray.mk #[(62 : UInt8), (61 : UInt8)])),
 Option.some (Value.string (ByteArray.mk #[(43 : UInt8)])), Option.some (Value.string (ByteArray.mk #[(45 : UInt8)])), Option.some (Value.string (ByteArray.mk #[(42 : UInt8)])),
 Option.some (Value.string (ByteArray.mk #[(47 : UInt8)])), Option.some (Value.string (ByteArray.mk #[(42 : UInt8), (42 : UInt8)]))]
 ((0 : Nat) + Int.toNat (Int.tmod p (13 : Int)) * (1 : Nat))))
 (18446744073709551616 : Nat))
 False)
 False) := by kernel_rfl

end Go.Proofs.YtapmcocefoccdaaGreatDoor
