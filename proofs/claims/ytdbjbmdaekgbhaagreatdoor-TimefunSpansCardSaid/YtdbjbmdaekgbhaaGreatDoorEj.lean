/-
  A length of time as a text, of less than a day; texts that are values.
-/
import Derived.Test.YtdbjbmdaekgbhaaGreatDoorEi
namespace Go.Proofs.YtdbjbmdaekgbhaaGreatDoor
open Go Go.Pe Go.RowKit

/-- A function that is not to be called. -/
def ruleWall : Rule := fun _ _ _ => some fun _ => False
theorem wall_ok {base : World} {f : FuncId} : RuleOk Tryz.prog base f ruleWall := fun _ _ _ _ _ _ _ hT hK => by
  cases hT
  exact hK.elim

def rulesD : List (Nat × Rule) := (264, ruleWall) :: rules4
theorem rulesD_ok (base : World) : ∀ x ∈ rulesD, RuleOk Tryz.prog base x.1 x.2 := List.forall_mem_cons.2 ⟨wall_ok, rules4_ok base⟩

/-- A short text. -/
def isShort (k : Nat) (u : Value) : Prop := ∃ s, u = .string s ∧ strLen s ≤ k
theorem isShort_pure {k : Nat} : ∀ v, isShort k v → pureV 6 v = true := by
  rintro v ⟨_, rfl, _⟩
  kernel_rfl

def ruleItoaS : Rule := rule1 fun args => match args with
  | [.int .i64 n] => some fun K => 0 ≤ n ∧ n < 100 ∧ ∀ s, strLen s ≤ 2 → K (.string s)
  | _ => none

def rulePieceS : Rule := rule1 fun args => match args with
  | [.int .i64 n, .string l] => some fun K => 0 ≤ n ∧ n < 100 ∧ strLen l ≤ 1 ∧ ∀ s, strLen s ≤ 3 → K (.string s)
  | _ => none

def rulesE : List (Nat × Rule) := (133, ruleItoaS) :: rules4
def rulesF : List (Nat × Rule) := (139, rulePieceS) :: rules4

/-- Told plainly. -/
def isDat (u : Value) : Prop := ∃ k s, u = datC k s
theorem isDat_pure : ∀ v, isDat v → pureV 6 v = true := by
  rintro v ⟨_, _, rfl⟩
  kernel_rfl

def ruleDays : Rule := rule1 fun args => match args with
  | [.int .i64 n] => some fun K => (-9007199254740992 ≤ n ∧ n ≤ 9007199254740992) ∧ K (daysV n)
  | _ => none

def ruleMonths : Rule := rule1 fun args => match args with
  | [.int .i64 n] => some fun K => (-9007199254740992 ≤ n ∧ n ≤ 9007199254740992) ∧ K (monthsV n)
  | _ => none

theorem vdays_tree (K : Value → Nat → Prop) (n : Int) :
    funcK (env rules4) 30 13 [.int .i64 n] tabs Tryz.prog.globals.size (fun u _ _ mw => K u mw) =
  (bsel (decide (n ≥ (-9007199254740992 : Int)))
 (bsel (decide (n ≤ (9007199254740992 : Int))) (K (Value.agg (Array.mk [Value.iface (125 : Nat) (Value.int IntKind.i64 n)])) (10 : Nat))
 (K (Value.agg (Array.mk [Value.nilIface])) (10 : Nat)))
 (K (Value.agg (Array.mk [Value.nilIface])) (10 : Nat))) := by kernel_rfl
theorem vmonths_tree (K : Value → Nat → Prop) (n : Int) :
    funcK (env rules4) 30 14 [.int .i64 n] tabs Tryz.prog.globals.size (fun u _ _ mw => K u mw) =
  (bsel (decide (n ≥ (-9007199254740992 : Int)))
 (bsel (decide (n ≤ (9007199254740992 : Int))) (K (Value.agg (Array.mk [Value.iface (126 : Nat) (Value.int IntKind.i64 n)])) (10 : Nat))
 (K (Value.agg (Array.mk [Value.nilIface])) (10 : Nat)))
 (K (Value.agg (Array.mk [Value.nilIface])) (10 : Nat))) := by kernel_rfl
theorem itoa_tree (K : Value → Nat → Prop) (n : Int) :
    funcK (env rulesD) 30 133 [.int .i64 n] tabs Tryz.prog.globals.size (fun u _ _ mw => K u mw) =
  (bsel (decide ((0 : Int) ≤ n))
 (bsel (decide (n < (100 : Int)))
 (bsel (decide (n < (10 : Int)))
 (bsel
 (decide ((0 : Int) ≤ IntKind.wrap IntKind.i64 (n + (1 : Int))) &&
 decide
 (IntKind.wrap IntKind.i64 (n + (1 : Int)) ≤
 ↑(strLen
 (ByteArray.mk
 #[(48 : UInt8), (49 : UInt8), (50 : UInt8), (51 : UInt8), (52 : UInt8), (53 : UInt8), (54 : UInt8), (55 : UInt8), (56 : UInt8), (57 : UInt8), (97 : UInt8), (98 : UInt8),
 (99 : UInt8), (100 : UInt8), (101 : UInt8), (102 : UInt8), (103 : UInt8), (104 : UInt8), (105 : UInt8), (106 : UInt8), (107 : UInt8), (108 : UInt8), (109 : UInt8), (110 : UInt8),
 (111 : UInt8), (112 : UInt8), (113 : UInt8), (114 : UInt8), (115 : UInt8), (116 : UInt8), (117 : UInt8), (118 : UInt8), (119 : UInt8), (120 : UInt8), (121 : UInt8),
 (122 : UInt8)]))))
 (bsel (decide ((0 : Int) ≤ n) && decide (n ≤ ↑(Int.toNat (IntKind.wrap IntKind.i64 (n + (1 : Int))))))
 (K
 (Value.string
 (strCut
 (ByteArray.mk
 #[(48 : UInt8), (49 : UInt8), (50 : UInt8), (51 : UInt8), (52 : UInt8), (53 : UInt8), (54 : UInt8), (55 : UInt8), (56 : UInt8), (57 : UInt8), (97 : UInt8), (98 : UInt8),
 (99 : UInt8), (100 : UInt8), (101 : UInt8), (102 : UInt8), (103 : UInt8), (104 : UInt8), (105 : UInt8), (106 : UInt8), (107 : UInt8), (108 : UInt8), (109 : UInt8), (110 : UInt8),
 (111 : UInt8), (112 : UInt8), (113 : UInt8), (114 : UInt8), (115 : UInt8), (116 : UInt8), (117 : UInt8), (118 : UInt8), (119 : UInt8), (120 : UInt8), (121 : UInt8), (122 : UInt8)])
 (Int.toNat n) (Int.toNat (IntKind.wrap IntKind.i64 (n + (1 : Int))))))
 (18446744073709551616 : Nat))
 False)
 False)
 (bsel
 (decide ((0 : Int) ≤ IntKind.wrap IntKind.i64 (IntKind.wrap IntKind.i64 (n * (2 : Int)) + (2 : Int))) &&
 decide
 (IntKind.wrap IntKind.i64 (IntKind.wrap IntKind.i64 (n * (2 : Int)) + (2 : Int)) ≤
 ↑(strLen
 (ByteArray.mk
 (List.toArray
 (List.append
 (List.append
 [(48 : UInt8), (48 : UInt8), (48 : UInt8), (49 : UInt8), (48 : UInt8), (50 : UInt8), (48 : UInt8), (51 : UInt8), (48 : UInt8), (52 : UInt8), (48 : UInt8), (53 : UInt8),
 (48 : UInt8), (54 : UInt8), (48 : UInt8), (55 : UInt8), (48 : UInt8), (56 : UInt8), (48 : UInt8), (57 : UInt8), (49 : UInt8), (48 : UInt8), (49 : UInt8), (49 : UInt8),
 (49 : UInt8), (50 : UInt8), (49 : UInt8), (51 : UInt8), (49 : UInt8), (52 : UInt8), (49 : UInt8), (53 : UInt8), (49 : UInt8), (54 : UInt8), (49 : UInt8), (55 : UInt8),
 (49 : UInt8), (56 : UInt8), (49 : UInt8), (57 : UInt8), (50 : UInt8), (48 : UInt8), (50 : UInt8), (49 : UInt8), (50 : UInt8), (50 : UInt8), (50 : UInt8), (51 : UInt8),
 (50 : UInt8), (52 : UInt8)]
 [(50 : UInt8), (53 : UInt8), (50 : UInt8), (54 : UInt8), (50 : UInt8), (55 : UInt8), (50 : UInt8), (56 : UInt8), (50 : UInt8), (57 : UInt8), (51 : UInt8), (48 : UInt8),
 (51 : UInt8), (49 : UInt8), (51 : UInt8), (50 : UInt8), (51 : UInt8), (51 : UInt8), (51 : UInt8), (52 : UInt8), (51 : UInt8), (53 : UInt8), (51 : UInt8), (54 : UInt8),
 (51 : UInt8), (55 : UInt8), (51 : UInt8), (56 : UInt8), (51 : UInt8), (57 : UInt8), (52 : UInt8), (48 : UInt8), (52 : UInt8), (49 : UInt8), (52 : UInt8), (50 : UInt8),
 (52 : UInt8), (51 : UInt8), (52 : UInt8), (52 : UInt8), (52 : UInt8), (53 : UInt8), (52 : UInt8), (54 : UInt8), (52 : UInt8), (55 : UInt8), (52 : UInt8), (56 : UInt8),
 (52 : UInt8), (57 : UInt8)])
 (List.append
 [(53 : UInt8), (48 : UInt8), (53 : UInt8), (49 : UInt8), (53 : UInt8), (50 : UInt8), (53 : UInt8), (51 : UInt8), (53 : UInt8), (52 : UInt8), (53 : UInt8), (53 : UInt8),
 (53 : UInt8), (54 : UInt8), (53 : UInt8), (55 : UInt8), (53 : UInt8), (56 : UInt8), (53 : UInt8), (57 : UInt8), (54 : UInt8), (48 : UInt8), (54 : UInt8), (49 : UInt8),
 (54 : UInt8), (50 : UInt8), (54 : UInt8), (51 : UInt8), (54 : UInt8), (52 : UInt8), (54 : UInt8), (53 : UInt8), (54 : UInt8), (54 : UInt8), (54 : UInt8), (55 : UInt8),
 (54 : UInt8), (56 : UInt8), (54 : UInt8), (57 : UInt8), (55 : UInt8), (48 : UInt8), (55 : UInt8), (49 : UInt8), (55 : UInt8), (50 : UInt8), (55 : UInt8), (51 : UInt8),
 (55 : UInt8), (52 : UInt8)]
 [(55 : UInt8), (53 : UInt8), (55 : UInt8), (54 : UInt8), (55 : UInt8), (55 : UInt8), (55 : UInt8), (56 : UInt8), (55 : UInt8), (57 : UInt8), (56 : UInt8), (48 : UInt8),
 (56 : UInt8), (49 : UInt8), (56 : UInt8), (50 : UInt8), (56 : UInt8), (51 : UInt8), (56 : UInt8), (52 : UInt8), (56 : UInt8), (53 : UInt8), (56 : UInt8), (54 : UInt8),
 (56 : UInt8), (55 : UInt8), (56 : UInt8), (56 : UInt8), (56 : UInt8), (57 : UInt8), (57 : UInt8), (48 : UInt8), (57 : UInt8), (49 : UInt8), (57 : UInt8), (50 : UInt8),
 (57 : UInt8), (51 : UInt8), (57 : UInt8), (52 : UInt8), (57 : UInt8), (53 : UInt8), (57 : UInt8), (54 : UInt8), (57 : UInt8), (55 : UInt8), (57 : UInt8), (56 : UInt8),
 (57 : UInt8), (57 : UInt8)])))))))
 (bsel
 (decide ((0 : Int) ≤ IntKind.wrap IntKind.i64 (n * (2 : Int))) &&
 decide (IntKind.wrap IntKind.i64 (n * (2 : Int)) ≤ ↑(Int.toNat (IntKind.wrap IntKind.i64 (IntKind.wrap IntKind.i64 (n * (2 : Int)) + (2 : Int))))))
 (K
 (Value.string
 (strCut
 (ByteArray.mk
 (List.toArray
 (List.append
 (List.append
 [(48 : UInt8), (48 : UInt8), (48 : UInt8), (49 : UInt8), (48 : UInt8), (50 : UInt8), (48 : UInt8), (51 : UInt8), (48 : UInt8), (52 : UInt8), (48 : UInt8), (53 : UInt8),
 (48 : UInt8), (54 : UInt8), (48 : UInt8), (55 : UInt8), (48 : UInt8), (56 : UInt8), (48 : UInt8), (57 : UInt8), (49 : UInt8), (48 : UInt8), (49 : UInt8), (49 : UInt8),
 (49 : UInt8), (50 : UInt8), (49 : UInt8), (51 : UInt8), (49 : UInt8), (52 : UInt8), (49 : UInt8), (53 : UInt8), (49 : UInt8), (54 : UInt8), (49 : UInt8), (55 : UInt8),
 (49 : UInt8), (56 : UInt8), (49 : UInt8), (57 : UInt8), (50 : UInt8), (48 : UInt8), (50 : UInt8), (49 : UInt8), (50 : UInt8), (50 : UInt8), (50 : UInt8), (51 : UInt8),
 (50 : UInt8), (52 : UInt8)]
 [(50 : UInt8), (53 : UInt8), (50 : UInt8), (54 : UInt8), (50 : UInt8), (55 : UInt8), (50 : UInt8), (56 : UInt8), (50 : UInt8), (57 : UInt8), (51 : UInt8), (48 : UInt8),
 (51 : UInt8), (49 : UInt8), (51 : UInt8), (50 : UInt8), (51 : UInt8), (51 : UInt8), (51 : UInt8), (52 : UInt8), (51 : UInt8), (53 : UInt8), (51 : UInt8), (54 : UInt8),
 (51 : UInt8), (55 : UInt8), (51 : UInt8), (56 : UInt8), (51 : UInt8), (57 : UInt8), (52 : UInt8), (48 : UInt8), (52 : UInt8), (49 : UInt8), (52 : UInt8), (50 : UInt8),
 (52 : UInt8), (51 : UInt8), (52 : UInt8), (52 : UInt8), (52 : UInt8), (53 : UInt8), (52 : UInt8), (54 : UInt8), (52 : UInt8), (55 : UInt8), (52 : UInt8), (56 : UInt8),
 (52 : UInt8), (57 : UInt8)])
 (List.append
 [(53 : UInt8), (48 : UInt8), (53 : UInt8), (49 : UInt8), (53 : UInt8), (50 : UInt8), (53 : UInt8), (51 : UInt8), (53 : UInt8), (52 : UInt8), (53 : UInt8), (53 : UInt8),
 (53 : UInt8), (54 : UInt8), (53 : UInt8), (55 : UInt8), (53 : UInt8), (56 : UInt8), (53 : UInt8), (57 : UInt8), (54 : UInt8), (48 : UInt8), (54 : UInt8), (49 : UInt8),
 (54 : UInt8), (50 : UInt8), (54 : UInt8), (51 : UInt8), (54 : UInt8), (52 : UInt8), (54 : UInt8), (53 : UInt8), (54 : UInt8), (54 : UInt8), (54 : UInt8), (55 : UInt8),
 (54 : UInt8), (56 : UInt8), (54 : UInt8), (57 : UInt8), (55 : UInt8), (48 : UInt8), (55 : UInt8), (49 : UInt8), (55 : UInt8), (50 : UInt8), (55 : UInt8), (51 : UInt8),
 (55 : UInt8), (52 : UInt8)]
 [(55 : UInt8), (53 : UInt8), (55 : UInt8), (54 : UInt8), (55 : UInt8), (55 : UInt8), (55 : UInt8), (56 : UInt8), (55 : UInt8), (57 : UInt8), (56 : UInt8), (48 : UInt8),
 (56 : UInt8), (49 : UInt8), (56 : UInt8), (50 : UInt8), (56 : UInt8), (51 : UInt8), (56 : UInt8), (52 : UInt8), (56 : UInt8), (53 : UInt8), (56 : UInt8), (54 : UInt8),
 (56 : UInt8), (55 : UInt8), (56 : UInt8), (56 : UInt8), (56 : UInt8), (57 : UInt8), (57 : UInt8), (48 : UInt8), (57 : UInt8), (49 : UInt8), (57 : UInt8), (50 : UInt8),
 (57 : UInt8), (51 : UInt8), (57 : UInt8), (52 : UInt8), (57 : UInt8), (53 : UInt8), (57 : UInt8), (54 : UInt8), (57 : UInt8), (55 : UInt8), (57 : UInt8), (56 : UInt8),
 (57 : UInt8), (57 : UInt8)]))))
 (Int.toNat (IntKind.wrap IntKind.i64 (n * (2 : Int)))) (Int.toNat (IntKind.wrap IntKind.i64 (IntKind.wrap IntKind.i64 (n * (2 : Int)) + (2 : Int))))))
 (18446744073709551616 : Nat))
 False)
 False))
 (bsel (decide (n < (0 : Int))) False False))
 (bsel (decide (n < (0 : Int))) False False)) := by kernel_rfl

theorem piece_tree (K : Value → Nat → Prop) (n : Int) (l : ByteArray) :
    funcK (env rulesE) 30 139 [.int .i64 n, .string l] tabs Tryz.prog.globals.size (fun u _ _ mw => K u mw) =
  (bsel (n == (0 : Int)) (K (Value.string (ByteArray.mk #[])) (18446744073709551616 : Nat))
 (Int.ofNat (0 : Nat) ≤ n ∧
 n < Int.ofNat (100 : Nat) ∧
 ∀ (s : ByteArray),
 strLen s ≤ (2 : Nat) → bsel (Nat.ble (strLen s + strLen l) (9223372036854775807 : Nat)) (K (Value.string (strCat s l)) (18446744073709551616 : Nat)) False)) := by kernel_rfl
theorem days_tree (K : Value → Nat → Prop) (n : Int) :
    funcK (env rulesF) 30 97 [daysV n] tabs Tryz.prog.globals.size (fun u _ _ mw => K u mw) =
  (bsel (decide (n < (-9007199254740992 : Int)))
 (K
 (Value.agg
 (Array.mk
 [Value.int IntKind.i64 (Int.ofNat (8 : Nat)), Value.string (ByteArray.mk #[]), Value.slice Option.none (0 : Nat) (0 : Nat), Value.slice Option.none (0 : Nat) (0 : Nat),
 Value.bool Bool.false, Value.bool Bool.false]))
 (11 : Nat))
 (bsel (decide (n > (9007199254740992 : Int)))
 (K
 (Value.agg
 (Array.mk
 [Value.int IntKind.i64 (Int.ofNat (8 : Nat)), Value.string (ByteArray.mk #[]), Value.slice Option.none (0 : Nat) (0 : Nat), Value.slice Option.none (0 : Nat) (0 : Nat),
 Value.bool Bool.false, Value.bool Bool.false]))
 (11 : Nat))
 (bsel (decide (n < (0 : Int)))
 (Int.ofNat (0 : Nat) ≤ IntKind.wrap IntKind.i64 (Int.tdiv (IntKind.wrap IntKind.i64 ((0 : Int) - n)) (86400 : Int)) ∧
 IntKind.wrap IntKind.i64 (Int.tdiv (IntKind.wrap IntKind.i64 ((0 : Int) - n)) (86400 : Int)) < Int.ofNat (100 : Nat) ∧
 (1 : Nat) ≤ (1 : Nat) ∧
 ∀ (s : ByteArray),
 strLen s ≤ (3 : Nat) →
 Int.ofNat (0 : Nat) ≤ IntKind.wrap IntKind.i64 (Int.tdiv (Int.tmod (IntKind.wrap IntKind.i64 ((0 : Int) - n)) (86400 : Int)) (3600 : Int)) ∧
 IntKind.wrap IntKind.i64 (Int.tdiv (Int.tmod (IntKind.wrap IntKind.i64 ((0 : Int) - n)) (86400 : Int)) (3600 : Int)) < Int.ofNat (100 : Nat) ∧
 (1 : Nat) ≤ (1 : Nat) ∧
 ∀ (s_1 : ByteArray),
 strLen s_1 ≤ (3 : Nat) →
 Int.ofNat (0 : Nat) ≤ Int.tmod (IntKind.wrap IntKind.i64 (Int.tdiv (Int.tmod (IntKind.wrap IntKind.i64 ((0 : Int) - n)) (86400 : Int)) (60 : Int))) (60 : Int) ∧
 Int.tmod (IntKind.wrap IntKind.i64 (Int.tdiv (Int.tmod (IntKind.wrap IntKind.i64 ((0 : Int) - n)) (86400 : Int)) (60 : Int))) (60 : Int) <
 Int.ofNat (100 : Nat) ∧
 (1 : Nat) ≤ (1 : Nat) ∧
 ∀ (s_2 : ByteArray),
 strLen s_2 ≤ (3 : Nat) →
 bsel (Nat.ble (strLen s_1 + strLen s_2) (9223372036854775807 : Nat))
 (Int.ofNat (0 : Nat) ≤ Int.tmod (Int.tmod (IntKind.wrap IntKind.i64 ((0 : Int) - n)) (86400 : Int)) (60 : Int) ∧
 Int.tmod (Int.tmod (IntKind.wrap IntKind.i64 ((0 : Int) - n)) (86400 : Int)) (60 : Int) < Int.ofNat (100 : Nat) ∧
 (1 : Nat) ≤ (1 : Nat) ∧
 ∀ (s_3 : ByteArray),
 strLen s_3 ≤ (3 : Nat) →
 bsel (Nat.ble (strLen (strCat s_1 s_2) + strLen s_3) (9223372036854775807 : Nat))
 (bsel (strEq s (ByteArray.mk #[]))
 (bsel (strEq (strCat (strCat s_1 s_2) s_3) (ByteArray.mk #[]))
 (K
 (Value.agg
 (Array.mk
 [Value.int IntKind.i64 (Int.ofNat (8 : Nat)),
 Value.string (ByteArray.mk #[(80 : UInt8), (84 : UInt8), (48 : UInt8), (83 : UInt8)]), Value.slice Option.none (0 : Nat) (0 : Nat),
 Value.slice Option.none (0 : Nat) (0 : Nat), Value.bool Bool.false, Value.bool Bool.false]))
 (11 : Nat))
 (bsel (!strEq (strCat (strCat s_1 s_2) s_3) (ByteArray.mk #[]))
 (bsel (Nat.ble ((1 : Nat) + strLen (strCat (strCat s_1 s_2) s_3)) (9223372036854775807 : Nat))
 (bsel (Nat.ble ((2 : Nat) + strLen s) (9223372036854775807 : Nat))
 (bsel
 (Nat.ble
 (strLen (strCat (strCat (ByteArray.mk #[(45 : UInt8)]) (ByteArray.mk #[(80 : UInt8)])) s) +
 strLen (strCat (ByteArray.mk #[(84 : UInt8)]) (strCat (strCat s_1 s_2) s_3)))
 (9223372036854775807 : Nat))
 (K
 (Value.agg
 (Array.mk
 [Value.int IntKind.i64 (Int.ofNat (8 : Nat)),
 Value.string
 (strCat (strCat (strCat (ByteArray.mk #[(45 : UInt8)]) (ByteArray.mk #[(80 : UInt8)])) s)
 (strCat (ByteArray.mk #[(84 : UInt8)]) (strCat (strCat s_1 s_2) s_3))),
 Value.slice Option.none (0 : Nat) (0 : Nat), Value.slice Option.none (0 : Nat) (0 : Nat), Value.bool Bool.false,
 Value.bool Bool.false]))
 (11 : Nat))
 False)
 False)
 False)
 (bsel (Nat.ble ((2 : Nat) + strLen s) (9223372036854775807 : Nat))
 (bsel
 (Nat.ble
 (strLen (strCat (strCat (ByteArray.mk #[(45 : UInt8)]) (ByteArray.mk #[(80 : UInt8)])) s) +
 strLen (strCat (strCat s_1 s_2) s_3))
 (9223372036854775807 : Nat))
 (K
 (Value.agg
 (Array.mk
 [Value.int IntKind.i64 (Int.ofNat (8 : Nat)),
 Value.string
 (strCat (strCat (strCat (ByteArray.mk #[(45 : UInt8)]) (ByteArray.mk #[(80 : UInt8)])) s)
 (strCat (strCat s_1 s_2) s_3)),
 Value.slice Option.none (0 : Nat) (0 : Nat), Value.slice Option.none (0 : Nat) (0 : Nat), Value.bool Bool.false,
 Value.bool Bool.false]))
 (11 : Nat))
 False)
 False)))
 (bsel (!strEq (strCat (strCat s_1 s_2) s_3) (ByteArray.mk #[]))
 (bsel (Nat.ble ((1 : Nat) + strLen (strCat (strCat s_1 s_2) s_3)) (9223372036854775807 : Nat))
 (bsel (Nat.ble ((2 : Nat) + strLen s) (9223372036854775807 : Nat))
 (bsel
 (Nat.ble
 (strLen (strCat (strCat (ByteArray.mk #[(45 : UInt8)]) (ByteArray.mk #[(80 : UInt8)])) s) +
 strLen (strCat (ByteArray.mk #[(84 : UInt8)]) (strCat (strCat s_1 s_2) s_3)))
 (9223372036854775807 : Nat))
 (K
 (Value.agg
 (Array.mk
 [Value.int IntKind.i64 (Int.ofNat (8 : Nat)),
 Value.string
 (strCat (strCat (strCat (ByteArray.mk #[(45 : UInt8)]) (ByteArray.mk #[(80 : UInt8)])) s)
 (strCat (ByteArray.mk #[(84 : UInt8)]) (strCat (strCat s_1 s_2) s_3))),
 Value.slice Option.none (0 : Nat) (0 : Nat), Value.slice Option.none (0 : Nat) (0 : Nat), Value.bool Bool.false,
 Value.bool Bool.false]))
 (11 : Nat))
 False)
 False)
 False)
 (bsel (Nat.ble ((2 : Nat) + strLen s) (9223372036854775807 : Nat))
 (bsel
 (Nat.ble
 (strLen (strCat (strCat (ByteArray.mk #[(45 : UInt8)]) (ByteArray.mk #[(80 : UInt8)])) s) +
 strLen (strCat (strCat s_1 s_2) s_3))
 (9223372036854775807 : Nat))
 (K
 (Value.agg
 (Array.mk
 [Value.int IntKind.i64 (Int.ofNat (8 : Nat)),
 Value.string
 (strCat (strCat (strCat (ByteArray.mk #[(45 : UInt8)]) (ByteArray.mk #[(80 : UInt8)])) s)
 (strCat (strCat s_1 s_2) s_3)),
 Value.slice Option.none (0 : Nat) (0 : Nat), Value.slice Option.none (0 : Nat) (0 : Nat), Value.bool Bool.false,
 Value.bool Bool.false]))
 (11 : Nat))
 False)
 False)))
 False)
 False)
 (Int.ofNat (0 : Nat) ≤ IntKind.wrap IntKind.i64 (Int.tdiv n (86400 : Int)) ∧
 IntKind.wrap IntKind.i64 (Int.tdiv n (86400 : Int)) < Int.ofNat (100 : Nat) ∧
 (1 : Nat) ≤ (1 : Nat) ∧
 ∀ (s : ByteArray),
 strLen s ≤ (3 : Nat) →
 Int.ofNat (0 : Nat) ≤ IntKind.wrap IntKind.i64 (Int.tdiv (Int.tmod n (86400 : Int)) (3600 : Int)) ∧
 IntKind.wrap IntKind.i64 (Int.tdiv (Int.tmod n (86400 : Int)) (3600 : Int)) < Int.ofNat (100 : Nat) ∧
 (1 : Nat) ≤ (1 : Nat) ∧
 ∀ (s_1 : ByteArray),
 strLen s_1 ≤ (3 : Nat) →
 Int.ofNat (0 : Nat) ≤ Int.tmod (IntKind.wrap IntKind.i64 (Int.tdiv (Int.tmod n (86400 : Int)) (60 : Int))) (60 : Int) ∧
 Int.tmod (IntKind.wrap IntKind.i64 (Int.tdiv (Int.tmod n (86400 : Int)) (60 : Int))) (60 : Int) < Int.ofNat (100 : Nat) ∧
 (1 : Nat) ≤ (1 : Nat) ∧
 ∀ (s_2 : ByteArray),
 strLen s_2 ≤ (3 : Nat) →
 bsel (Nat.ble (strLen s_1 + strLen s_2) (9223372036854775807 : Nat))
 (Int.ofNat (0 : Nat) ≤ Int.tmod (Int.tmod n (86400 : Int)) (60 : Int) ∧
 Int.tmod (Int.tmod n (86400 : Int)) (60 : Int) < Int.ofNat (100 : Nat) ∧
 (1 : Nat) ≤ (1 : Nat) ∧
 ∀ (s_3 : ByteArray),
 strLen s_3 ≤ (3 : Nat) →
 bsel (Nat.ble (strLen (strCat s_1 s_2) + strLen s_3) (9223372036854775807 : Nat))
 (bsel (strEq s (ByteArray.mk #[]))
 (bsel (strEq (strCat (strCat s_1 s_2) s_3) (ByteArray.mk #[]))
 (K
 (Value.agg
 (Array.mk
 [Value.int IntKind.i64 (Int.ofNat (8 : Nat)),
 Value.string (ByteArray.mk #[(80 : UInt8), (84 : UInt8), (48 : UInt8), (83 : UInt8)]), Value.slice Option.none (0 : Nat) (0 : Nat),
 Value.slice Option.none (0 : Nat) (0 : Nat), Value.bool Bool.false, Value.bool Bool.false]))
 (11 : Nat))
 (bsel (!strEq (strCat (strCat s_1 s_2) s_3) (ByteArray.mk #[]))
 (bsel (Nat.ble ((1 : Nat) + strLen (strCat (strCat s_1 s_2) s_3)) (9223372036854775807 : Nat))
 (bsel (Nat.ble ((1 : Nat) + strLen s) (9223372036854775807 : Nat))
 (bsel
 (Nat.ble
 (strLen (strCat (strCat (ByteArray.mk #[]) (ByteArray.mk #[(80 : UInt8)])) s) +
 strLen (strCat (ByteArray.mk #[(84 : UInt8)]) (strCat (strCat s_1 s_2) s_3)))
 (9223372036854775807 : Nat))
 (K
 (Value.agg
 (Array.mk
 [Value.int IntKind.i64 (Int.ofNat (8 : Nat)),
 Value.string
 (strCat (strCat (strCat (ByteArray.mk #[]) (ByteArray.mk #[(80 : UInt8)])) s)
 (strCat (ByteArray.mk #[(84 : UInt8)]) (strCat (strCat s_1 s_2) s_3))),
 Value.slice Option.none (0 : Nat) (0 : Nat), Value.slice Option.none (0 : Nat) (0 : Nat), Value.bool Bool.false,
 Value.bool Bool.false]))
 (11 : Nat))
 False)
 False)
 False)
 (bsel (Nat.ble ((1 : Nat) + strLen s) (9223372036854775807 : Nat))
 (bsel
 (Nat.ble
 (strLen (strCat (strCat (ByteArray.mk #[]) (ByteArray.mk #[(80 : UInt8)])) s) +
 strLen (strCat (strCat s_1 s_2) s_3))
 (9223372036854775807 : Nat))
 (K
 (Value.agg
 (Array.mk
 [Value.int IntKind.i64 (Int.ofNat (8 : Nat)),
 Value.string
 (strCat (strCat (strCat (ByteArray.mk #[]) (ByteArray.mk #[(80 : UInt8)])) s)
 (strCat (strCat s_1 s_2) s_3)),
 Value.slice Option.none (0 : Nat) (0 : Nat), Value.slice Option.none (0 : Nat) (0 : Nat), Value.bool Bool.false,
 Value.bool Bool.false]))
 (11 : Nat))
 False)
 False)))
 (bsel (!strEq (strCat (strCat s_1 s_2) s_3) (ByteArray.mk #[]))
 (bsel (Nat.ble ((1 : Nat) + strLen (strCat (strCat s_1 s_2) s_3)) (9223372036854775807 : Nat))
 (bsel (Nat.ble ((1 : Nat) + strLen s) (9223372036854775807 : Nat))
 (bsel
 (Nat.ble
 (strLen (strCat (strCat (ByteArray.mk #[]) (ByteArray.mk #[(80 : UInt8)])) s) +
 strLen (strCat (ByteArray.mk #[(84 : UInt8)]) (strCat (strCat s_1 s_2) s_3)))
 (9223372036854775807 : Nat))
 (K
 (Value.agg
 (Array.mk
 [Value.int IntKind.i64 (Int.ofNat (8 : Nat)),
 Value.string
 (strCat (strCat (strCat (ByteArray.mk #[]) (ByteArray.mk #[(80 : UInt8)])) s)
 (strCat (ByteArray.mk #[(84 : UInt8)]) (strCat (strCat s_1 s_2) s_3))),
 Value.slice Option.none (0 : Nat) (0 : Nat), Value.slice Option.none (0 : Nat) (0 : Nat), Value.bool Bool.false,
 Value.bool Bool.false]))
 (11 : Nat))
 False)
 False)
 False)
 (bsel (Nat.ble ((1 : Nat) + strLen s) (9223372036854775807 : Nat))
 (bsel
 (Nat.ble
 (strLen (strCat (strCat (ByteArray.mk #[]) (ByteArray.mk #[(80 : UInt8)])) s) +
 strLen (strCat (strCat s_1 s_2) s_3))
 (9223372036854775807 : Nat))
 (K
 (Value.agg
 (Array.mk
 [Value.int IntKind.i64 (Int.ofNat (8 : Nat)),
 Value.string
 (strCat (strCat (strCat (ByteArray.mk #[]) (ByteArray.mk #[(80 : UInt8)])) s)
 (strCat (strCat s_1 s_2) s_3)),
 Value.slice Option.none (0 : Nat) (0 : Nat), Value.slice Option.none (0 : Nat) (0 : Nat), Value.bool Bool.false,
 Value.bool Bool.false]))
 (11 : Nat))
 False)
 False)))
 False)
 False)))) := by kernel_rfl

theorem strLen_cut (a : ByteArray) (l h : Nat) : strLen (strCut a l h) ≤ h - l := by
  simp only [strLen, strCut, List.length_take]
  omega

theorem strLen_cat (a b : ByteArray) : strLen (strCat a b) = strLen a + strLen b := by simp [strLen, strCat]

theorem itoaS_hk {n : Int} (h0 : 0 ≤ n) (h1 : n < 100) : ReckE (env rulesD) 30 133 [.int .i64 n] (isShort 2) := by
  have e1 : IntKind.wrap .i64 (n + 1) = n + 1 := wrap_i64 _ (by unfold rng; omega)
  have e2 : IntKind.wrap .i64 (n * 2) = n * 2 := wrap_i64 _ (by unfold rng; omega)
  have e3 : IntKind.wrap .i64 (n * 2 + 2) = n * 2 + 2 := wrap_i64 _ (by unfold rng; omega)
  constructor
  rw [itoa_tree fun u mw => isShort 2 u ∧ Tryz.prog.globals.size ≤ mw]
  simp only [e1, e2, e3]
  refine bsel_of (fun _ => bsel_of (fun _ => bsel_of (fun h2 => ?_) (fun h2 => ?_)) (fun h => ?_)) (fun h => ?_)
  · refine bsel_of (fun _ => bsel_of (fun _ => ⟨⟨_, rfl, ?_⟩, globals_big⟩) (fun h => ?_)) (fun h => ?_)
    · exact Nat.le_trans (strLen_cut _ _ _) (by omega)
    · simp at h
      omega
    · generalize hX : strLen _ = q at h
      have : q = 36 := by rw [← hX]; kernel_rfl
      simp at h2 h
      omega
  · refine bsel_of (fun _ => bsel_of (fun _ => ⟨⟨_, rfl, ?_⟩, globals_big⟩) (fun h => ?_)) (fun h => ?_)
    · exact Nat.le_trans (strLen_cut _ _ _) (by omega)
    · simp at h
      omega
    · generalize hX : strLen _ = q at h
      have : q = 200 := by rw [← hX]; kernel_rfl
      simp at h2 h
      omega
  · simp at h
    omega
  · simp at h
    omega

theorem itoaS_ok (base : World) : RuleOk Tryz.prog base 133 ruleItoaS := ruleOk_of fun args T K hT hK => by
  split at hT
  · cases hT
    obtain ⟨h0, h1, hK⟩ := hK
    obtain ⟨v, ⟨s, rfl, hs⟩, ht⟩ := tot_ofE (env_ok (rulesD_ok base)) env_loops rfl (itoaS_hk h0 h1) isShort_pure (pure1 (by kernel_rfl))
    exact ⟨_, hK s hs, ht⟩
  · cases hT

theorem rulesE_ok (base : World) : ∀ x ∈ rulesE, RuleOk Tryz.prog base x.1 x.2 := List.forall_mem_cons.2 ⟨itoaS_ok base, rules4_ok base⟩

theorem pieceS_hk {n : Int} (h0 : 0 ≤ n) (h1 : n < 100) {l : ByteArray} (hl : strLen l ≤ 1) : ReckE (env rulesE) 30 139 [.int .i64 n, .string l] (isShort 3) := by
  constructor
  rw [piece_tree fun u mw => isShort 3 u ∧ Tryz.prog.globals.size ≤ mw]
  refine bsel_of (fun _ => ⟨⟨_, rfl, Nat.zero_le _⟩, globals_big⟩) (fun _ => ⟨h0, h1, fun s hs => bsel_of (fun _ => ⟨⟨_, rfl, ?_⟩, globals_big⟩) (fun h => ?_)⟩)
  · rw [strLen_cat]
    omega
  · rw [Nat.ble_eq_true_of_le (by omega)] at h
    cases h

theorem pieceS_ok (base : World) : RuleOk Tryz.prog base 139 rulePieceS := ruleOk_of fun args T K hT hK => by
  split at hT
  · cases hT
    obtain ⟨h0, h1, hl, hK⟩ := hK
    obtain ⟨v, ⟨s, rfl, hs⟩, ht⟩ := tot_ofE (env_ok (rulesE_ok base)) env_loops rfl (pieceS_hk h0 h1 hl) isShort_pure (List.forall_mem_cons.2 ⟨by kernel_rfl, pure1 (by kernel_rfl)⟩)
    exact ⟨_, hK s hs, ht⟩
  · cases hT

theorem rulesF_ok (base : World) : ∀ x ∈ rulesF, RuleOk Tryz.prog base x.1 x.2 := List.forall_mem_cons.2 ⟨pieceS_ok base, rules4_ok base⟩

theorem tdiv_bounds {x k : Int} (h : 0 ≤ x) (hk : 0 < k) : 0 ≤ Int.tdiv x k ∧ Int.tdiv x k = x / k := ⟨Int.tdiv_nonneg h (by omega), Int.tdiv_eq_ediv_of_nonneg h⟩

theorem days_hk {n : Int} (h0 : -86400 < n) (h1 : n < 86400) : ReckE (env rulesF) 30 97 [daysV n] isDat := by
  have key : ∀ m : Int, 0 ≤ m → m < 86400 → IntKind.wrap .i64 (Int.tdiv m 86400) = 0 ∧ Int.tmod m 86400 = m ∧ (0 ≤ IntKind.wrap .i64 (Int.tdiv m 3600) ∧ IntKind.wrap .i64 (Int.tdiv m 3600) < 100) ∧
      (0 ≤ Int.tmod (IntKind.wrap .i64 (Int.tdiv m 60)) 60 ∧ Int.tmod (IntKind.wrap .i64 (Int.tdiv m 60)) 60 < 100) ∧ (0 ≤ Int.tmod m 60 ∧ Int.tmod m 60 < 100) := fun m h0 h1 => by
    have a1 : Int.tdiv m 86400 = m / 86400 := Int.tdiv_eq_ediv_of_nonneg h0
    have a2 : Int.tmod m 86400 = m % 86400 := Int.tmod_eq_emod_of_nonneg h0
    have a3 : Int.tdiv m 3600 = m / 3600 := Int.tdiv_eq_ediv_of_nonneg h0
    have a4 : Int.tdiv m 60 = m / 60 := Int.tdiv_eq_ediv_of_nonneg h0
    have a5 : Int.tmod m 60 = m % 60 := Int.tmod_eq_emod_of_nonneg h0
    rw [a1, a2, a3, a4, a5, wrap_i64 (m / 86400) (by unfold rng; omega), wrap_i64 (m / 3600) (by unfold rng; omega), wrap_i64 (m / 60) (by unfold rng; omega), Int.tmod_eq_emod_of_nonneg (by omega : 0 ≤ m / 60)]
    omega
  have e0 : IntKind.wrap .i64 (0 - n) = -n := by rw [wrap_i64 _ (by unfold rng; omega)]; omega
  constructor
  rw [days_tree fun u mw => isDat u ∧ Tryz.prog.globals.size ≤ mw]
  rw [e0]
  have leaf : ∀ (s : ByteArray), (isDat (.agg ⟨[.int .i64 (Int.ofNat 8), .string s, .slice none 0 0, .slice none 0 0, .bool false, .bool false]⟩)) ∧ Tryz.prog.globals.size ≤ 11 := fun s => ⟨⟨_, _, rfl⟩, Nat.le_of_ble_eq_true (by kernel_rfl)⟩
  have no : ∀ {k : Nat} {P : Prop}, k ≤ 1000 → Nat.ble k 9223372036854775807 = false → P := fun h hb => by
    rw [Nat.ble_eq_true_of_le (by omega)] at hb
    cases hb
  have l0 : strLen ⟨#[]⟩ = 0 := rfl
  have l1 : ∀ a, strLen ⟨#[a]⟩ = 1 := fun _ => rfl
  refine bsel_of (fun _ => leaf _) (fun _ => bsel_of (fun _ => leaf _) (fun _ => bsel_of (fun hn => ?_) (fun hn => ?_)))
  · simp only [decide_eq_true_eq] at hn
    obtain ⟨b1, b2, b3, b4, b5⟩ := key (-n) (by omega) (by omega)
    simp only [b1, b2]
    simp only [Int.ofNat_eq_natCast, Int.natCast_zero]
    repeat' (first | exact leaf _ | refine bsel_of (fun _ => ?_) (fun h => no (by first | omega | (simp only [strLen_cat, l1]; omega)) h) | refine bsel_of (fun _ => ?_) (fun _ => ?_) | (intro s hs) | exact b3.1 | exact b3.2 | exact b4.1 | exact b4.2 | exact b5.1 | exact b5.2 | exact Nat.le_refl _ | decide | refine And.intro ?_ ?_)
  · simp only [decide_eq_false_iff_not] at hn
    obtain ⟨b1, b2, b3, b4, b5⟩ := key n (by omega) (by omega)
    simp only [b1, b2]
    repeat' (first | exact leaf _ | refine bsel_of (fun _ => ?_) (fun h => no (by first | omega | (simp only [strLen_cat, l1]; omega)) h) | refine bsel_of (fun _ => ?_) (fun _ => ?_) | (intro s hs) | exact b3.1 | exact b3.2 | exact b4.1 | exact b4.2 | exact b5.1 | exact b5.2 | exact Nat.le_refl _ | decide | refine And.intro ?_ ?_)

theorem days_plainly (base : World) {n : Int} (h0 : -86400 < n) (h1 : n < 86400) : Plainly base (daysV n) := by
  obtain ⟨v, ⟨k, s, rfl⟩, ht⟩ := tot_ofE (base := base) (env_ok (rulesF_ok base)) env_loops rfl (days_hk h0 h1) isDat_pure (pure1 (by kernel_rfl))
  exact ⟨by kernel_rfl, k, s, ht⟩

/-- A text that is a value. -/
def Texty (s : ByteArray) : Prop := Reck rules4 30 27 [.string s] tabs (textV s)

def ruleText : Rule := rule1 fun args => match args with
  | [.string s] => some fun K => Texty s ∧ K (textV s)
  | _ => none

theorem text_ok (base : World) : RuleOk Tryz.prog base 27 ruleText := ruleOk_of fun args T K hT hK => by
  split at hT
  · cases hT
    exact ⟨_, hK.2, tot_reck (rules4_ok base) hK.1 (by kernel_rfl) (pure1 (by kernel_rfl))⟩
  · cases hT

theorem vdays_hk {n : Int} (h0 : -9007199254740992 ≤ n) (h1 : n ≤ 9007199254740992) : Reck rules4 30 13 [.int .i64 n] tabs (daysV n) := by
  constructor
  rw [vdays_tree fun u mw => u = daysV n ∧ Tryz.prog.globals.size ≤ mw]
  repeat' (refine bsel_of (fun _ => ?_) (fun _ => ?_))
  all_goals first
    | exact ⟨rfl, Nat.le_of_ble_eq_true (by kernel_rfl)⟩
    | (exfalso
       simp only [decide_eq_false_iff_not, ge_iff_le] at *
       omega)

theorem vdays_ok (base : World) : RuleOk Tryz.prog base 13 ruleDays := ruleOk_of fun args T K hT hK => by
  split at hT
  · cases hT
    exact ⟨_, hK.2, tot_reck (rules4_ok base) (vdays_hk hK.1.1 hK.1.2) (by kernel_rfl) (pure1 (by kernel_rfl))⟩
  · cases hT

theorem vmonths_hk {n : Int} (h0 : -9007199254740992 ≤ n) (h1 : n ≤ 9007199254740992) : Reck rules4 30 14 [.int .i64 n] tabs (monthsV n) := by
  constructor
  rw [vmonths_tree fun u mw => u = monthsV n ∧ Tryz.prog.globals.size ≤ mw]
  repeat' (refine bsel_of (fun _ => ?_) (fun _ => ?_))
  all_goals first
    | exact ⟨rfl, Nat.le_of_ble_eq_true (by kernel_rfl)⟩
    | (exfalso
       simp only [decide_eq_false_iff_not, ge_iff_le] at *
       omega)

theorem vmonths_ok (base : World) : RuleOk Tryz.prog base 14 ruleMonths := ruleOk_of fun args T K hT hK => by
  split at hT
  · cases hT
    exact ⟨_, hK.2, tot_reck (rules4_ok base) (vmonths_hk hK.1.1 hK.1.2) (by kernel_rfl) (pure1 (by kernel_rfl))⟩
  · cases hT

end Go.Proofs.YtdbjbmdaekgbhaaGreatDoor
