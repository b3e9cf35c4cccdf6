/-
  Days and moments that are reckoned: whatever they are, they may be, or there is none.
-/
import Derived.Test.YtdbjbmdaekgbhaaGreatDoorEr
namespace Go.Proofs.YtdbjbmdaekgbhaaGreatDoor
open Go Go.Pe Go.RowKit

def ruleMayD : Rule := rule1 fun args => match args with
  | [.agg ⟨[.int .i64 y, .int .i64 m, .int .i64 d]⟩] => some fun K => (dateOk y m d → K (.bool true)) ∧ (¬ dateOk y m d → K (.bool false))
  | _ => none

def rulesU1 : List (Nat × Rule) := (120, ruleMayD) :: rules1

def ruleNumber : Rule := rule1 fun args => match args with
  | [.agg ⟨[.int .i64 y, .int .i64 m, .int .i64 d]⟩] => some fun K => (dateOk y m d → ∀ k, -2000000000000 ≤ k ∧ k ≤ 2000000000000 → K (.tuple #[.int .i64 k, .bool true])) ∧ (¬ dateOk y m d → K (.tuple #[.int .i64 0, .bool false]))
  | _ => none

def ruleOf : Rule := rule1 fun args => match args with
  | [.int .i64 _] => some fun K => (∀ y m d, dateOk y m d → K (.tuple #[dateC y m d, .bool true])) ∧ K (.tuple #[dateC 0 0 0, .bool false])
  | _ => none

def rulesU2 : List (Nat × Rule) := (175, ruleNumber) :: (270, ruleOf) :: (192, ruleLength) :: rulesU1

theorem may2_tree (K : Value → Nat → Prop) (y m d : Int) :
    funcK (env rules1) 30 120 [dateC y m d] tabs Tryz.prog.globals.size (fun u _ _ mw => K u mw) =
  (bsel (decide (y ≥ (-999999999 : Int)))
 (bsel (decide (y ≤ (999999999 : Int)))
 (bsel (decide (d ≥ (1 : Int)))
 (bsel (m == (1 : Int))
 (bsel (decide (d ≤ (31 : Int))) (K (Value.bool Bool.true) (18446744073709551616 : Nat)) (K (Value.bool Bool.false) (18446744073709551616 : Nat)))
 (bsel (m == (3 : Int))
 (bsel (decide (d ≤ (31 : Int))) (K (Value.bool Bool.true) (18446744073709551616 : Nat)) (K (Value.bool Bool.false) (18446744073709551616 : Nat)))
 (bsel (m == (5 : Int))
 (bsel (decide (d ≤ (31 : Int))) (K (Value.bool Bool.true) (18446744073709551616 : Nat)) (K (Value.bool Bool.false) (18446744073709551616 : Nat)))
 (bsel (m == (7 : Int))
 (bsel (decide (d ≤ (31 : Int))) (K (Value.bool Bool.true) (18446744073709551616 : Nat)) (K (Value.bool Bool.false) (18446744073709551616 : Nat)))
 (bsel (m == (8 : Int))
 (bsel (decide (d ≤ (31 : Int))) (K (Value.bool Bool.true) (18446744073709551616 : Nat)) (K (Value.bool Bool.false) (18446744073709551616 : Nat)))
 (bsel (m == (10 : Int))
 (bsel (decide (d ≤ (31 : Int))) (K (Value.bool Bool.true) (18446744073709551616 : Nat)) (K (Value.bool Bool.false) (18446744073709551616 : Nat)))
 (bsel (m == (12 : Int))
 (bsel (decide (d ≤ (31 : Int))) (K (Value.bool Bool.true) (18446744073709551616 : Nat)) (K (Value.bool Bool.false) (18446744073709551616 : Nat)))
 (bsel (m == (4 : Int))
 (bsel (decide (d ≤ (30 : Int))) (K (Value.bool Bool.true) (18446744073709551616 : Nat)) (K (Value.bool Bool.false) (18446744073709551616 : Nat)))
 (bsel (m == (6 : Int))
 (bsel (decide (d ≤ (30 : Int))) (K (Value.bool Bool.true) (18446744073709551616 : Nat)) (K (Value.bool Bool.false) (18446744073709551616 : Nat)))
 (bsel (m == (9 : Int))
 (bsel (decide (d ≤ (30 : Int))) (K (Value.bool Bool.true) (18446744073709551616 : Nat)) (K (Value.bool Bool.false) (18446744073709551616 : Nat)))
 (bsel (m == (11 : Int))
 (bsel (decide (d ≤ (30 : Int))) (K (Value.bool Bool.true) (18446744073709551616 : Nat)) (K (Value.bool Bool.false) (18446744073709551616 : Nat)))
 (bsel (m == (2 : Int))
 (bsel (Int.tmod y (4 : Int) == (0 : Int))
 (bsel (Int.tmod y (100 : Int) != (0 : Int))
 (bsel (decide (d ≤ (29 : Int))) (K (Value.bool Bool.true) (18446744073709551616 : Nat))
 (K (Value.bool Bool.false) (18446744073709551616 : Nat)))
 (bsel (Int.tmod y (400 : Int) == (0 : Int))
 (bsel (decide (d ≤ (29 : Int))) (K (Value.bool Bool.true) (18446744073709551616 : Nat))
 (K (Value.bool Bool.false) (18446744073709551616 : Nat)))
 (bsel (decide (d ≤ (28 : Int))) (K (Value.bool Bool.true) (18446744073709551616 : Nat))
 (K (Value.bool Bool.false) (18446744073709551616 : Nat)))))
 (bsel (decide (d ≤ (28 : Int))) (K (Value.bool Bool.true) (18446744073709551616 : Nat)) (K (Value.bool Bool.false) (18446744073709551616 : Nat))))
 (bsel (decide (d ≤ (0 : Int))) (K (Value.bool Bool.true) (18446744073709551616 : Nat))
 (K (Value.bool Bool.false) (18446744073709551616 : Nat)))))))))))))))
 (K (Value.bool Bool.false) (18446744073709551616 : Nat)))
 (K (Value.bool Bool.false) (18446744073709551616 : Nat)))
 (K (Value.bool Bool.false) (18446744073709551616 : Nat))) := by kernel_rfl
theorem number_tree (K : Value → Nat → Prop) (y m d : Int) :
    funcK (env rulesU1) 30 175 [dateC y m d] tabs Tryz.prog.globals.size (fun u _ _ mw => K u mw) =
  ((dateOk y m d →
 bsel (decide (m ≤ (2 : Int)))
 (bsel (decide (Int.tmod (IntKind.wrap IntKind.i64 (y - (1 : Int))) (400 : Int) < (0 : Int)))
 (K
 (Value.tuple
 (Array.mk
 [Value.int IntKind.i64
 (IntKind.wrap IntKind.i64
 (IntKind.wrap IntKind.i64
 (IntKind.wrap IntKind.i64
 (IntKind.wrap IntKind.i64
 (IntKind.wrap IntKind.i64
 (IntKind.wrap IntKind.i64
 ((146097 : Int) *
 IntKind.wrap IntKind.i64 (IntKind.wrap IntKind.i64 (Int.tdiv (IntKind.wrap IntKind.i64 (y - (1 : Int))) (400 : Int)) - (1 : Int))) +
 IntKind.wrap IntKind.i64
 ((365 : Int) *
 IntKind.wrap IntKind.i64
 (IntKind.wrap IntKind.i64 (y - (1 : Int)) -
 IntKind.wrap IntKind.i64
 ((400 : Int) *
 IntKind.wrap IntKind.i64
 (IntKind.wrap IntKind.i64 (Int.tdiv (IntKind.wrap IntKind.i64 (y - (1 : Int))) (400 : Int)) - (1 : Int)))))) +
 IntKind.wrap IntKind.i64
 (Int.tdiv
 (IntKind.wrap IntKind.i64
 (IntKind.wrap IntKind.i64 (y - (1 : Int)) -
 IntKind.wrap IntKind.i64
 ((400 : Int) *
 IntKind.wrap IntKind.i64 (IntKind.wrap IntKind.i64 (Int.tdiv (IntKind.wrap IntKind.i64 (y - (1 : Int))) (400 : Int)) - (1 : Int)))))
 (4 : Int))) -
 IntKind.wrap IntKind.i64
 (Int.tdiv
 (IntKind.wrap IntKind.i64
 (IntKind.wrap IntKind.i64 (y - (1 : Int)) -
 IntKind.wrap IntKind.i64
 ((400 : Int) *
 IntKind.wrap IntKind.i64 (IntKind.wrap IntKind.i64 (Int.tdiv (IntKind.wrap IntKind.i64 (y - (1 : Int))) (400 : Int)) - (1 : Int)))))
 (100 : Int))) +
 IntKind.wrap IntKind.i64
 (IntKind.wrap IntKind.i64
 (IntKind.wrap IntKind.i64
 (Int.tdiv
 (IntKind.wrap IntKind.i64
 (IntKind.wrap IntKind.i64 ((153 : Int) * IntKind.wrap IntKind.i64 (IntKind.wrap IntKind.i64 (m + (12 : Int)) - (3 : Int))) + (2 : Int)))
 (5 : Int)) +
 d) -
 (1 : Int))) -
 (719468 : Int))),
 Value.bool Bool.true]))
 (18446744073709551616 : Nat))
 (K
 (Value.tuple
 (Array.mk
 [Value.int IntKind.i64
 (IntKind.wrap IntKind.i64
 (IntKind.wrap IntKind.i64
 (IntKind.wrap IntKind.i64
 (IntKind.wrap IntKind.i64
 (IntKind.wrap IntKind.i64
 (IntKind.wrap IntKind.i64 ((146097 : Int) * IntKind.wrap IntKind.i64 (Int.tdiv (IntKind.wrap IntKind.i64 (y - (1 : Int))) (400 : Int))) +
 IntKind.wrap IntKind.i64
 ((365 : Int) *
 IntKind.wrap IntKind.i64
 (IntKind.wrap IntKind.i64 (y - (1 : Int)) -
 IntKind.wrap IntKind.i64 ((400 : Int) * IntKind.wrap IntKind.i64 (Int.tdiv (IntKind.wrap IntKind.i64 (y - (1 : Int))) (400 : Int)))))) +
 IntKind.wrap IntKind.i64
 (Int.tdiv
 (IntKind.wrap IntKind.i64
 (IntKind.wrap IntKind.i64 (y - (1 : Int)) -
 IntKind.wrap IntKind.i64 ((400 : Int) * IntKind.wrap IntKind.i64 (Int.tdiv (IntKind.wrap IntKind.i64 (y - (1 : Int))) (400 : Int)))))
 (4 : Int))) -
 IntKind.wrap IntKind.i64
 (Int.tdiv
 (IntKind.wrap IntKind.i64
 (IntKind.wrap IntKind.i64 (y - (1 : Int)) -
 IntKind.wrap IntKind.i64 ((400 : Int) * IntKind.wrap IntKind.i64 (Int.tdiv (IntKind.wrap IntKind.i64 (y - (1 : Int))) (400 : Int)))))
 (100 : Int))) +
 IntKind.wrap IntKind.i64
 (IntKind.wrap IntKind.i64
 (IntKind.wrap IntKind.i64
 (Int.tdiv
 (IntKind.wrap IntKind.i64
 (IntKind.wrap IntKind.i64 ((153 : Int) * IntKind.wrap IntKind.i64 (IntKind.wrap IntKind.i64 (m + (12 : Int)) - (3 : Int))) + (2 : Int)))
 (5 : Int)) +
 d) -
 (1 : Int))) -
 (719468 : Int))),
 Value.bool Bool.true]))
 (18446744073709551616 : Nat)))
 (bsel (decide (Int.tmod y (400 : Int) < (0 : Int)))
 (K
 (Value.tuple
 (Array.mk
 [Value.int IntKind.i64
 (IntKind.wrap IntKind.i64
 (IntKind.wrap IntKind.i64
 (IntKind.wrap IntKind.i64
 (IntKind.wrap IntKind.i64
 (IntKind.wrap IntKind.i64
 (IntKind.wrap IntKind.i64 ((146097 : Int) * IntKind.wrap IntKind.i64 (IntKind.wrap IntKind.i64 (Int.tdiv y (400 : Int)) - (1 : Int))) +
 IntKind.wrap IntKind.i64
 ((365 : Int) *
 IntKind.wrap IntKind.i64
 (y -
 IntKind.wrap IntKind.i64 ((400 : Int) * IntKind.wrap IntKind.i64 (IntKind.wrap IntKind.i64 (Int.tdiv y (400 : Int)) - (1 : Int)))))) +
 IntKind.wrap IntKind.i64
 (Int.tdiv
 (IntKind.wrap IntKind.i64
 (y - IntKind.wrap IntKind.i64 ((400 : Int) * IntKind.wrap IntKind.i64 (IntKind.wrap IntKind.i64 (Int.tdiv y (400 : Int)) - (1 : Int)))))
 (4 : Int))) -
 IntKind.wrap IntKind.i64
 (Int.tdiv
 (IntKind.wrap IntKind.i64
 (y - IntKind.wrap IntKind.i64 ((400 : Int) * IntKind.wrap IntKind.i64 (IntKind.wrap IntKind.i64 (Int.tdiv y (400 : Int)) - (1 : Int)))))
 (100 : Int))) +
 IntKind.wrap IntKind.i64
 (IntKind.wrap IntKind.i64
 (IntKind.wrap IntKind.i64
 (Int.tdiv (IntKind.wrap IntKind.i64 (IntKind.wrap IntKind.i64 ((153 : Int) * IntKind.wrap IntKind.i64 (m - (3 : Int))) + (2 : Int))) (5 : Int)) +
 d) -
 (1 : Int))) -
 (719468 : Int))),
 Value.bool Bool.true]))
 (18446744073709551616 : Nat))
 (K
 (Value.tuple
 (Array.mk
 [Value.int IntKind.i64
 (IntKind.wrap IntKind.i64
 (IntKind.wrap IntKind.i64
 (IntKind.wrap IntKind.i64
 (IntKind.wrap IntKind.i64
 (IntKind.wrap IntKind.i64
 (IntKind.wrap IntKind.i64 ((146097 : Int) * IntKind.wrap IntKind.i64 (Int.tdiv y (400 : Int))) +
 IntKind.wrap IntKind.i64
 ((365 : Int) * IntKind.wrap IntKind.i64 (y - IntKind.wrap IntKind.i64 ((400 : Int) * IntKind.wrap IntKind.i64 (Int.tdiv y (400 : Int)))))) +
 IntKind.wrap IntKind.i64
 (Int.tdiv (IntKind.wrap IntKind.i64 (y - IntKind.wrap IntKind.i64 ((400 : Int) * IntKind.wrap IntKind.i64 (Int.tdiv y (400 : Int)))))
 (4 : Int))) -
 IntKind.wrap IntKind.i64
 (Int.tdiv (IntKind.wrap IntKind.i64 (y - IntKind.wrap IntKind.i64 ((400 : Int) * IntKind.wrap IntKind.i64 (Int.tdiv y (400 : Int))))) (100 : Int))) +
 IntKind.wrap IntKind.i64
 (IntKind.wrap IntKind.i64
 (IntKind.wrap IntKind.i64
 (Int.tdiv (IntKind.wrap IntKind.i64 (IntKind.wrap IntKind.i64 ((153 : Int) * IntKind.wrap IntKind.i64 (m - (3 : Int))) + (2 : Int))) (5 : Int)) +
 d) -
 (1 : Int))) -
 (719468 : Int))),
 Value.bool Bool.true]))
 (18446744073709551616 : Nat)))) ∧
 (¬dateOk y m d → K (Value.tuple (Array.mk [Value.int IntKind.i64 (Int.ofNat (0 : Nat)), Value.bool Bool.false])) (18446744073709551616 : Nat))) := by kernel_rfl
theorem of_tree (K : Value → Nat → Prop) (n : Int) :
    funcK (env rulesU1) 30 270 [.int .i64 n] tabs Tryz.prog.globals.size (fun u _ _ mw => K u mw) =
  (bsel (decide (n < (-400000000000 : Int)))
 (K
 (Value.tuple
 (Array.mk
 [Value.agg (Array.mk [Value.int IntKind.i64 (Int.ofNat (0 : Nat)), Value.int IntKind.i64 (Int.ofNat (0 : Nat)), Value.int IntKind.i64 (Int.ofNat (0 : Nat))]),
 Value.bool Bool.false]))
 (10 : Nat))
 (bsel (decide (n > (400000000000 : Int)))
 (K
 (Value.tuple
 (Array.mk
 [Value.agg (Array.mk [Value.int IntKind.i64 (Int.ofNat (0 : Nat)), Value.int IntKind.i64 (Int.ofNat (0 : Nat)), Value.int IntKind.i64 (Int.ofNat (0 : Nat))]),
 Value.bool Bool.false]))
 (10 : Nat))
 (bsel (decide (Int.tmod (IntKind.wrap IntKind.i64 (n + (719468 : Int))) (146097 : Int) < (0 : Int)))
 (bsel
 (decide
 (IntKind.wrap IntKind.i64
 (IntKind.wrap IntKind.i64
 (Int.tdiv
 (IntKind.wrap IntKind.i64
 (IntKind.wrap IntKind.i64
 ((5 : Int) *
 IntKind.wrap IntKind.i64
 (IntKind.wrap IntKind.i64
 (IntKind.wrap IntKind.i64 (n + (719468 : Int)) -
 IntKind.wrap IntKind.i64
 ((146097 : Int) *
 IntKind.wrap IntKind.i64 (IntKind.wrap IntKind.i64 (Int.tdiv (IntKind.wrap IntKind.i64 (n + (719468 : Int))) (146097 : Int)) - (1 : Int)))) -
 IntKind.wrap IntKind.i64
 (IntKind.wrap IntKind.i64
 (IntKind.wrap IntKind.i64
 ((365 : Int) *
 IntKind.wrap IntKind.i64
 (Int.tdiv
 (IntKind.wrap IntKind.i64
 (IntKind.wrap IntKind.i64
 (IntKind.wrap IntKind.i64
 (IntKind.wrap IntKind.i64
 (IntKind.wrap IntKind.i64 (n + (719468 : Int)) -
 IntKind.wrap IntKind.i64
 ((146097 : Int) *
 IntKind.wrap IntKind.i64
 (IntKind.wrap IntKind.i64 (Int.tdiv (IntKind.wrap IntKind.i64 (n + (719468 : Int))) (146097 : Int)) - (1 : Int)))) -
 IntKind.wrap IntKind.i64
 (Int.tdiv
 (IntKind.wrap IntKind.i64
 (IntKind.wrap IntKind.i64 (n + (719468 : Int)) -
 IntKind.wrap IntKind.i64
 ((146097 : Int) *
 IntKind.wrap IntKind.i64
 (IntKind.wrap IntKind.i64 (Int.tdiv (IntKind.wrap IntKind.i64 (n + (719468 : Int))) (146097 : Int)) -
 (1 : Int)))))
 (1460 : Int))) +
 IntKind.wrap IntKind.i64
 (Int.tdiv
 (IntKind.wrap IntKind.i64
 (IntKind.wrap IntKind.i64 (n + (719468 : Int)) -
 IntKind.wrap IntKind.i64
 ((146097 : Int) *
 IntKind.wrap IntKind.i64
 (IntKind.wrap IntKind.i64 (Int.tdiv (IntKind.wrap IntKind.i64 (n + (719468 : Int))) (146097 : Int)) - (1 : Int)))))
 (36524 : Int))) -
 IntKind.wrap IntKind.i64
 (Int.tdiv
 (IntKind.wrap IntKind.i64
 (IntKind.wrap IntKind.i64 (n + (719468 : Int)) -
 IntKind.wrap IntKind.i64
 ((146097 : Int) *
 IntKind.wrap IntKind.i64
 (IntKind.wrap IntKind.i64 (Int.tdiv (IntKind.wrap IntKind.i64 (n + (719468 : Int))) (146097 : Int)) - (1 : Int)))))
 (146096 : Int))))
 (365 : Int))) +
 IntKind.wrap IntKind.i64
 (Int.tdiv
 (IntKind.wrap IntKind.i64
 (Int.tdiv
 (IntKind.wrap IntKind.i64
 (IntKind.wrap IntKind.i64
 (IntKind.wrap IntKind.i64
 (IntKind.wrap IntKind.i64
 (IntKind.wrap IntKind.i64 (n + (719468 : Int)) -
 IntKind.wrap IntKind.i64
 ((146097 : Int) *
 IntKind.wrap IntKind.i64
 (IntKind.wrap IntKind.i64 (Int.tdiv (IntKind.wrap IntKind.i64 (n + (719468 : Int))) (146097 : Int)) - (1 : Int)))) -
 IntKind.wrap IntKind.i64
 (Int.tdiv
 (IntKind.wrap IntKind.i64
 (IntKind.wrap IntKind.i64 (n + (719468 : Int)) -
 IntKind.wrap IntKind.i64
 ((146097 : Int) *
 IntKind.wrap IntKind.i64
 (IntKind.wrap IntKind.i64 (Int.tdiv (IntKind.wrap IntKind.i64 (n + (719468 : Int))) (146097 : Int)) -
 (1 : Int)))))
 (1460 : Int))) +
 IntKind.wrap IntKind.i64
 (Int.tdiv
 (IntKind.wrap IntKind.i64
 (IntKind.wrap IntKind.i64 (n + (719468 : Int)) -
 IntKind.wrap IntKind.i64
 ((146097 : Int) *
 IntKind.wrap IntKind.i64
 (IntKind.wrap IntKind.i64 (Int.tdiv (IntKind.wrap IntKind.i64 (n + (719468 : Int))) (146097 : Int)) - (1 : Int)))))
 (36524 : Int))) -
 IntKind.wrap IntKind.i64
 (Int.tdiv
 (IntKind.wrap IntKind.i64
 (IntKind.wrap IntKind.i64 (n + (719468 : Int)) -
 IntKind.wrap IntKind.i64
 ((146097 : Int) *
 IntKind.wrap IntKind.i64
 (IntKind.wrap IntKind.i64 (Int.tdiv (IntKind.wrap IntKind.i64 (n + (719468 : Int))) (146097 : Int)) - (1 : Int)))))
 (146096 : Int))))
 (365 : Int)))
 (4 : Int))) -
 IntKind.wrap IntKind.i64
 (Int.tdiv
 (IntKind.wrap IntKind.i64
 (Int.tdiv
 (IntKind.wrap IntKind.i64
 (IntKind.wrap IntKind.i64
 (IntKind.wrap IntKind.i64
 (IntKind.wrap IntKind.i64
 (IntKind.wrap IntKind.i64 (n + (719468 : Int)) -
 IntKind.wrap IntKind.i64
 ((146097 : Int) *
 IntKind.wrap IntKind.i64
 (IntKind.wrap IntKind.i64 (Int.tdiv (IntKind.wrap IntKind.i64 (n + (719468 : Int))) (146097 : Int)) - (1 : Int)))) -
 IntKind.wrap IntKind.i64
 (Int.tdiv
 (IntKind.wrap IntKind.i64
 (IntKind.wrap IntKind.i64 (n + (719468 : Int)) -
 IntKind.wrap IntKind.i64
 ((146097 : Int) *
 IntKind.wrap IntKind.i64
 (IntKind.wrap IntKind.i64 (Int.tdiv (IntKind.wrap IntKind.i64 (n + (719468 : Int))) (146097 : Int)) - (1 : Int)))))
 (1460 : Int))) +
 IntKind.wrap IntKind.i64
 (Int.tdiv
 (IntKind.wrap IntKind.i64
 (IntKind.wrap IntKind.i64 (n + (719468 : Int)) -
 IntKind.wrap IntKind.i64
 ((146097 : Int) *
 IntKind.wrap IntKind.i64
 (IntKind.wrap IntKind.i64 (Int.tdiv (IntKind.wrap IntKind.i64 (n + (719468 : Int))) (146097 : Int)) - (1 : Int)))))
 (36524 : Int))) -
 IntKind.wrap IntKind.i64
 (Int.tdiv
 (IntKind.wrap IntKind.i64
 (IntKind.wrap IntKind.i64 (n + (719468 : Int)) -
 IntKind.wrap IntKind.i64
 ((146097 : Int) *
 IntKind.wrap IntKind.i64
 (IntKind.wrap IntKind.i64 (Int.tdiv (IntKind.wrap IntKind.i64 (n + (719468 : Int))) (146097 : Int)) - (1 : Int)))))
 (146096 : Int))))
 (365 : Int)))
 (100 : Int))))) +
 (2 : Int)))
 (153 : Int)) +
 (3 : Int)) >
 (12 : Int)))
 ((dateOk
 (IntKind.wrap IntKind.i64
 (IntKind.wrap IntKind.i64
 (IntKind.wrap IntKind.i64
 ((400 : Int) * IntKind.wrap IntKind.i64 (IntKind.wrap IntKind.i64 (Int.tdiv (IntKind.wrap IntKind.i64 (n + (719468 : Int))) (146097 : Int)) - (1 : Int))) +
 IntKind.wrap IntKind.i64
 (Int.tdiv
 (IntKind.wrap IntKind.i64
 (IntKind.wrap IntKind.i64
 (IntKind.wrap IntKind.i64
 (IntKind.wrap IntKind.i64
 (IntKind.wrap IntKind.i64 (n + (719468 : Int)) -
 IntKind.wrap IntKind.i64
 ((146097 : Int) *
 IntKind.wrap IntKind.i64
 (IntKind.wrap IntKind.i64 (Int.tdiv (IntKind.wrap IntKind.i64 (n + (719468 : Int))) (146097 : Int)) - (1 : Int)))) -
 IntKind.wrap IntKind.i64
 (Int.tdiv
 (IntKind.wrap IntKind.i64
 (IntKind.wrap IntKind.i64 (n + (719468 : Int)) -
 IntKind.wrap IntKind.i64
 ((146097 : Int) *
 IntKind.wrap IntKind.i64
 (IntKind.wrap IntKind.i64 (Int.tdiv (IntKind.wrap IntKind.i64 (n + (719468 : Int))) (146097 : Int)) - (1 : Int)))))
 (1460 : Int))) +
 IntKind.wrap IntKind.i64
 (Int.tdiv
 (IntKind.wrap IntKind.i64
 (IntKind.wrap IntKind.i64 (n + (719468 : Int)) -
 IntKind.wrap IntKind.i64
 ((146097 : Int) *
 IntKind.wrap IntKind.i64
 (IntKind.wrap IntKind.i64 (Int.tdiv (IntKind.wrap IntKind.i64 (n + (719468 : Int))) (146097 : Int)) - (1 : Int)))))
 (36524 : Int))) -
 IntKind.wrap IntKind.i64
 (Int.tdiv
 (IntKind.wrap IntKind.i64
 (IntKind.wrap IntKind.i64 (n + (719468 : Int)) -
 IntKind.wrap IntKind.i64
 ((146097 : Int) *
 IntKind.wrap IntKind.i64 (IntKind.wrap IntKind.i64 (Int.tdiv (IntKind.wrap IntKind.i64 (n + (719468 : Int))) (146097 : Int)) - (1 : Int)))))
 (146096 : Int))))
 (365 : Int))) +
 (1 : Int)))
 (IntKind.wrap IntKind.i64
 (IntKind.wrap IntKind.i64
 (IntKind.wrap IntKind.i64
 (Int.tdiv
 (IntKind.wrap IntKind.i64
 (IntKind.wrap IntKind.i64
 ((5 : Int) *
 IntKind.wrap IntKind.i64
 (IntKind.wrap IntKind.i64
 (IntKind.wrap IntKind.i64 (n + (719468 : Int)) -
 IntKind.wrap IntKind.i64
 ((146097 : Int) *
 IntKind.wrap IntKind.i64
 (IntKind.wrap IntKind.i64 (Int.tdiv (IntKind.wrap IntKind.i64 (n + (719468 : Int))) (146097 : Int)) - (1 : Int)))) -
 IntKind.wrap IntKind.i64
 (IntKind.wrap IntKind.i64
 (IntKind.wrap IntKind.i64
 ((365 : Int) *
 IntKind.wrap IntKind.i64
 (Int.tdiv
 (IntKind.wrap IntKind.i64
 (IntKind.wrap IntKind.i64
 (IntKind.wrap IntKind.i64
 (IntKind.wrap IntKind.i64
 (IntKind.wrap IntKind.i64 (n + (719468 : Int)) -
 IntKind.wrap IntKind.i64
 ((146097 : Int) *
 IntKind.wrap IntKind.i64
 (IntKind.wrap IntKind.i64 (Int.tdiv (IntKind.wrap IntKind.i64 (n + (719468 : Int))) (146097 : Int)) -
 (1 : Int)))) -
 IntKind.wrap IntKind.i64
 (Int.tdiv
 (IntKind.wrap IntKind.i64
 (IntKind.wrap IntKind.i64 (n + (719468 : Int)) -
 IntKind.wrap IntKind.i64
 ((146097 : Int) *
 IntKind.wrap IntKind.i64
 (IntKind.wrap IntKind.i64 (Int.tdiv (IntKind.wrap IntKind.i64 (n + (719468 : Int))) (146097 : Int)) -
 (1 : Int)))))
 (1460 : Int))) +
 IntKind.wrap IntKind.i64
 (Int.tdiv
 (IntKind.wrap IntKind.i64
 (IntKind.wrap IntKind.i64 (n + (719468 : Int)) -
 IntKind.wrap IntKind.i64
 ((146097 : Int) *
 IntKind.wrap IntKind.i64
 (IntKind.wrap IntKind.i64 (Int.tdiv (IntKind.wrap IntKind.i64 (n + (719468 : Int))) (146097 : Int)) -
 (1 : Int)))))
 (36524 : Int))) -
 IntKind.wrap IntKind.i64
 (Int.tdiv
 (IntKind.wrap IntKind.i64
 (IntKind.wrap IntKind.i64 (n + (719468 : Int)) -
 IntKind.wrap IntKind.i64
 ((146097 : Int) *
 IntKind.wrap IntKind.i64
 (IntKind.wrap IntKind.i64 (Int.tdiv (IntKind.wrap IntKind.i64 (n + (719468 : Int))) (146097 : Int)) - (1 : Int)))))
 (146096 : Int))))
 (365 : Int))) +
 IntKind.wrap IntKind.i64
 (Int.tdiv
 (IntKind.wrap IntKind.i64
 (Int.tdiv
 (IntKind.wrap IntKind.i64
 (IntKind.wrap IntKind.i64
 (IntKind.wrap IntKind.i64
 (IntKind.wrap IntKind.i64
 (IntKind.wrap IntKind.i64 (n + (719468 : Int)) -
 IntKind.wrap IntKind.i64
 ((146097 : Int) *
 IntKind.wrap IntKind.i64
 (IntKind.wrap IntKind.i64 (Int.tdiv (IntKind.wrap IntKind.i64 (n + (719468 : Int))) (146097 : Int)) -
 (1 : Int)))) -
 IntKind.wrap IntKind.i64
 (Int.tdiv
 (IntKind.wrap IntKind.i64
 (IntKind.wrap IntKind.i64 (n + (719468 : Int)) -
 IntKind.wrap IntKind.i64
 ((146097 : Int) *
 IntKind.wrap IntKind.i64
 (IntKind.wrap IntKind.i64 (Int.tdiv (IntKind.wrap IntKind.i64 (n + (719468 : Int))) (146097 : Int)) -
 (1 : Int)))))
 (1460 : Int))) +
 IntKind.wrap IntKind.i64
 (Int.tdiv
 (IntKind.wrap IntKind.i64
 (IntKind.wrap IntKind.i64 (n + (719468 : Int)) -
 IntKind.wrap IntKind.i64
 ((146097 : Int) *
 IntKind.wrap IntKind.i64
 (IntKind.wrap IntKind.i64 (Int.tdiv (IntKind.wrap IntKind.i64 (n + (719468 : Int))) (146097 : Int)) -
 (1 : Int)))))
 (36524 : Int))) -
 IntKind.wrap IntKind.i64
 (Int.tdiv
 (IntKind.wrap IntKind.i64
 (IntKind.wrap IntKind.i64 (n + (719468 : Int)) -
 IntKind.wrap IntKind.i64
 ((146097 : Int) *
 IntKind.wrap IntKind.i64
 (IntKind.wrap IntKind.i64 (Int.tdiv (IntKind.wrap IntKind.i64 (n + (719468 : Int))) (146097 : Int)) - (1 : Int)))))
 (146096 : Int))))
 (365 : Int)))
 (4 : Int))) -
 IntKind.wrap IntKind.i64
 (Int.tdiv
 (IntKind.wrap IntKind.i64
 (Int.tdiv
 (IntKind.wrap IntKind.i64
 (IntKind.wrap IntKind.i64
 (IntKind.wrap IntKind.i64
 (IntKind.wrap IntKind.i64
 (IntKind.wrap IntKind.i64 (n + (719468 : Int)) -
 IntKind.wrap IntKind.i64
 ((146097 : Int) *
 IntKind.wrap IntKind.i64
 (IntKind.wrap IntKind.i64 (Int.tdiv (IntKind.wrap IntKind.i64 (n + (719468 : Int))) (146097 : Int)) - (1 : Int)))) -
 IntKind.wrap IntKind.i64
 (Int.tdiv
 (IntKind.wrap IntKind.i64
 (IntKind.wrap IntKind.i64 (n + (719468 : Int)) -
 IntKind.wrap IntKind.i64
 ((146097 : Int) *
 IntKind.wrap IntKind.i64
 (IntKind.wrap IntKind.i64 (Int.tdiv (IntKind.wrap IntKind.i64 (n + (719468 : Int))) (146097 : Int)) -
 (1 : Int)))))
 (1460 : Int))) +
 IntKind.wrap IntKind.i64
 (Int.tdiv
 (IntKind.wrap IntKind.i64
 (IntKind.wrap IntKind.i64 (n + (719468 : Int)) -
 IntKind.wrap IntKind.i64
 ((146097 : Int) *
 IntKind.wrap IntKind.i64
 (IntKind.wrap IntKind.i64 (Int.tdiv (IntKind.wrap IntKind.i64 (n + (719468 : Int))) (146097 : Int)) - (1 : Int)))))
 (36524 : Int))) -
 IntKind.wrap IntKind.i64
 (Int.tdiv
 (IntKind.wrap IntKind.i64
 (IntKind.wrap IntKind.i64 (n + (719468 : Int)) -
 IntKind.wrap IntKind.i64
 ((146097 : Int) *
 IntKind.wrap IntKind.i64
 (IntKind.wrap IntKind.i64 (Int.tdiv (IntKind.wrap IntKind.i64 (n + (719468 : Int))) (146097 : Int)) - (1 : Int)))))
 (146096 : Int))))
 (365 : Int)))
 (100 : Int))))) +
 (2 : Int)))
 (153 : Int)) +
 (3 : Int)) -
 (12 : Int)))
 (IntKind.wrap IntKind.i64
 (IntKind.wrap IntKind.i64
 (IntKind.wrap IntKind.i64
 (IntKind.wrap IntKind.i64
 (IntKind.wrap IntKind.i64 (n + (719468 : Int)) -
 IntKind.wrap IntKind.i64
 ((146097 : Int) *
 IntKind.wrap IntKind.i64 (IntKind.wrap IntKind.i64 (Int.tdiv (IntKind.wrap IntKind.i64 (n + (719468 : Int))) (146097 : Int)) - (1 : Int)))) -
 IntKind.wrap IntKind.i64
 (IntKind.wrap IntKind.i64
 (IntKind.wrap IntKind.i64
 ((365 : Int) *
 IntKind.wrap IntKind.i64
 (Int.tdiv
 (IntKind.wrap IntKind.i64
 (IntKind.wrap IntKind.i64
 (IntKind.wrap IntKind.i64
 (IntKind.wrap IntKind.i64
 (IntKind.wrap IntKind.i64 (n + (719468 : Int)) -
 IntKind.wrap IntKind.i64
 ((146097 : Int) *
 IntKind.wrap IntKind.i64
 (IntKind.wrap IntKind.i64 (Int.tdiv (IntKind.wrap IntKind.i64 (n + (719468 : Int))) (146097 : Int)) - (1 : Int)))) -
 IntKind.wrap IntKind.i64
 (Int.tdiv
 (IntKind.wrap IntKind.i64
 (IntKind.wrap IntKind.i64 (n + (719468 : Int)) -
 IntKind.wrap IntKind.i64
 ((146097 : Int) *
 IntKind.wrap IntKind.i64
 (IntKind.wrap IntKind.i64 (Int.tdiv (IntKind.wrap IntKind.i64 (n + (719468 : Int))) (146097 : Int)) - (1 : Int)))))
 (1460 : Int))) +
 IntKind.wrap IntKind.i64
 (Int.tdiv
 (IntKind.wrap IntKind.i64
 (IntKind.wrap IntKind.i64 (n + (719468 : Int)) -
 IntKind.wrap IntKind.i64
 ((146097 : Int) *
 IntKind.wrap IntKind.i64
 (IntKind.wrap IntKind.i64 (Int.tdiv (IntKind.wrap IntKind.i64 (n + (719468 : Int))) (146097 : Int)) - (1 : Int)))))
 (36524 : Int))) -
 IntKind.wrap IntKind.i64
 (Int.tdiv
 (IntKind.wrap IntKind.i64
 (IntKind.wrap IntKind.i64 (n + (719468 : Int)) -
 IntKind.wrap IntKind.i64
 ((146097 : Int) *
 IntKind.wrap IntKind.i64
 (IntKind.wrap IntKind.i64 (Int.tdiv (IntKind.wrap IntKind.i64 (n + (719468 : Int))) (146097 : Int)) - (1 : Int)))))
 (146096 : Int))))
 (365 : Int))) +
 IntKind.wrap IntKind.i64
 (Int.tdiv
 (IntKind.wrap IntKind.i64
 (Int.tdiv
 (IntKind.wrap IntKind.i64
 (IntKind.wrap IntKind.i64
 (IntKind.wrap IntKind.i64
 (IntKind.wrap IntKind.i64
 (IntKind.wrap IntKind.i64 (n + (719468 : Int)) -
 IntKind.wrap IntKind.i64
 ((146097 : Int) *
 IntKind.wrap IntKind.i64
 (IntKind.wrap IntKind.i64 (Int.tdiv (IntKind.wrap IntKind.i64 (n + (719468 : Int))) (146097 : Int)) - (1 : Int)))) -
 IntKind.wrap IntKind.i64
 (Int.tdiv
 (IntKind.wrap IntKind.i64
 (IntKind.wrap IntKind.i64 (n + (719468 : Int)) -
 IntKind.wrap IntKind.i64
 ((146097 : Int) *
 IntKind.wrap IntKind.i64
 (IntKind.wrap IntKind.i64 (Int.tdiv (IntKind.wrap IntKind.i64 (n + (719468 : Int))) (146097 : Int)) - (1 : Int)))))
 (1460 : Int))) +
 IntKind.wrap IntKind.i64
 (Int.tdiv
 (IntKind.wrap IntKind.i64
 (IntKind.wrap IntKind.i64 (n + (719468 : Int)) -
 IntKind.wrap IntKind.i64
 ((146097 : Int) *
 IntKind.wrap IntKind.i64
 (IntKind.wrap IntKind.i64 (Int.tdiv (IntKind.wrap IntKind.i64 (n + (719468 : Int))) (146097 : Int)) - (1 : Int)))))
 (36524 : Int))) -
 IntKind.wrap IntKind.i64
 (Int.tdiv
 (IntKind.wrap IntKind.i64
 (IntKind.wrap IntKind.i64 (n + (719468 : Int)) -
 IntKind.wrap IntKind.i64
 ((146097 : Int) *
 IntKind.wrap IntKind.i64
 (IntKind.wrap IntKind.i64 (Int.tdiv (IntKind.wrap IntKind.i64 (n + (719468 : Int))) (146097 : Int)) - (1 : Int)))))
 (146096 : Int))))
 (365 : Int)))
 (4 : Int))) -
 IntKind.wrap IntKind.i64
 (Int.tdiv
 (IntKind.wrap IntKind.i64
 (Int.tdiv
 (IntKind.wrap IntKind.i64
 (IntKind.wrap IntKind.i64
 (IntKind.wrap IntKind.i64
 (IntKind.wrap IntKind.i64
 (IntKind.wrap IntKind.i64 (n + (719468 : Int)) -
 IntKind.wrap IntKind.i64
 ((146097 : Int) *
 IntKind.wrap IntKind.i64
 (IntKind.wrap IntKind.i64 (Int.tdiv (IntKind.wrap IntKind.i64 (n + (719468 : Int))) (146097 : Int)) - (1 : Int)))) -
 IntKind.wrap IntKind.i64
 (Int.tdiv
 (IntKind.wrap IntKind.i64
 (IntKind.wrap IntKind.i64 (n + (719468 : Int)) -
 IntKind.wrap IntKind.i64
 ((146097 : Int) *
 IntKind.wrap IntKind.i64
 (IntKind.wrap IntKind.i64 (Int.tdiv (IntKind.wrap IntKind.i64 (n + (719468 : Int))) (146097 : Int)) - (1 : Int)))))
 (1460 : Int))) +
 IntKind.wrap IntKind.i64
 (Int.tdiv
 (IntKind.wrap IntKind.i64
 (IntKind.wrap IntKind.i64 (n + (719468 : Int)) -
 IntKind.wrap IntKind.i64
 ((146097 : Int) *
 IntKind.wrap IntKind.i64
 (IntKind.wrap IntKind.i64 (Int.tdiv (IntKind.wrap IntKind.i64 (n + (719468 : Int))) (146097 : Int)) - (1 : Int)))))
 (36524 : Int))) -
 IntKind.wrap IntKind.i64
 (Int.tdiv
 (IntKind.wrap IntKind.i64
 (IntKind.wrap IntKind.i64 (n + (719468 : Int)) -
 IntKind.wrap IntKind.i64
 ((146097 : Int) *
 IntKind.wrap IntKind.i64
 (IntKind.wrap IntKind.i64 (Int.tdiv (IntKind.wrap IntKind.i64 (n + (719468 : Int))) (146097 : Int)) - (1 : Int)))))
 (146096 : Int))))
 (365 : Int)))
 (100 : Int)))) -
 IntKind.wrap IntKind.i64
 (Int.tdiv
 (IntKind.wrap IntKind.i64
 (IntKind.wrap IntKind.i64
 ((153 : Int) *
 IntKind.wrap IntKind.i64
 (Int.tdiv
 (IntKind.wrap IntKind.i64
 (IntKind.wrap IntKind.i64
 ((5 : Int) *
 IntKind.wrap IntKind.i64
 (IntKind.wrap IntKind.i64
 (IntKind.wrap IntKind.i64 (n + (719468 : Int)) -
 IntKind.wrap IntKind.i64
 ((146097 : Int) *
 IntKind.wrap IntKind.i64
 (IntKind.wrap IntKind.i64 (Int.tdiv (IntKind.wrap IntKind.i64 (n + (719468 : Int))) (146097 : Int)) - (1 : Int)))) -
 IntKind.wrap IntKind.i64
 (IntKind.wrap IntKind.i64
 (IntKind.wrap IntKind.i64
 ((365 : Int) *
 IntKind.wrap IntKind.i64
 (Int.tdiv
 (IntKind.wrap IntKind.i64
 (IntKind.wrap IntKind.i64
 (IntKind.wrap IntKind.i64
 (IntKind.wrap IntKind.i64
 (IntKind.wrap IntKind.i64 (n + (719468 : Int)) -
 IntKind.wrap IntKind.i64
 ((146097 : Int) *
 IntKind.wrap IntKind.i64
 (IntKind.wrap IntKind.i64
 (Int.tdiv (IntKind.wrap IntKind.i64 (n + (719468 : Int))) (146097 : Int)) -
 (1 : Int)))) -
 IntKind.wrap IntKind.i64
 (Int.tdiv
 (IntKind.wrap IntKind.i64
 (IntKind.wrap IntKind.i64 (n + (719468 : Int)) -
 IntKind.wrap IntKind.i64
 ((146097 : Int) *
 IntKind.wrap IntKind.i64
 (IntKind.wrap IntKind.i64
 (Int.tdiv (IntKind.wrap IntKind.i64 (n + (719468 : Int))) (146097 : Int)) -
 (1 : Int)))))
 (1460 : Int))) +
 IntKind.wrap IntKind.i64
 (Int.tdiv
 (IntKind.wrap IntKind.i64
 (IntKind.wrap IntKind.i64 (n + (719468 : Int)) -
 IntKind.wrap IntKind.i64
 ((146097 : Int) *
 IntKind.wrap IntKind.i64
 (IntKind.wrap IntKind.i64
 (Int.tdiv (IntKind.wrap IntKind.i64 (n + (719468 : Int))) (146097 : Int)) -
 (1 : Int)))))
 (36524 : Int))) -
 IntKind.wrap IntKind.i64
 (Int.tdiv
 (IntKind.wrap IntKind.i64
 (IntKind.wrap IntKind.i64 (n + (719468 : Int)) -
 IntKind.wrap IntKind.i64
 ((146097 : Int) *
 IntKind.wrap IntKind.i64
 (IntKind.wrap IntKind.i64 (Int.tdiv (IntKind.wrap IntKind.i64 (n + (719468 : Int))) (146097 : Int)) -
 (1 : Int)))))
 (146096 : Int))))
 (365 : Int))) +
 IntKind.wrap IntKind.i64
 (Int.tdiv
 (IntKind.wrap IntKind.i64
 (Int.tdiv
 (IntKind.wrap IntKind.i64
 (IntKind.wrap IntKind.i64
 (IntKind.wrap IntKind.i64
 (IntKind.wrap IntKind.i64
 (IntKind.wrap IntKind.i64 (n + (719468 : Int)) -
 IntKind.wrap IntKind.i64
 ((146097 : Int) *
 IntKind.wrap IntKind.i64
 (IntKind.wrap IntKind.i64
 (Int.tdiv (IntKind.wrap IntKind.i64 (n + (719468 : Int))) (146097 : Int)) -
 (1 : Int)))) -
 IntKind.wrap IntKind.i64
 (Int.tdiv
 (IntKind.wrap IntKind.i64
 (IntKind.wrap IntKind.i64 (n + (719468 : Int)) -
 IntKind.wrap IntKind.i64
 ((146097 : Int) *
 IntKind.wrap IntKind.i64
 (IntKind.wrap IntKind.i64
 (Int.tdiv (IntKind.wrap IntKind.i64 (n + (719468 : Int))) (146097 : Int)) -
 (1 : Int)))))
 (1460 : Int))) +
 IntKind.wrap IntKind.i64
 (Int.tdiv
 (IntKind.wrap IntKind.i64
 (IntKind.wrap IntKind.i64 (n + (719468 : Int)) -
 IntKind.wrap IntKind.i64
 ((146097 : Int) *
 IntKind.wrap IntKind.i64
 (IntKind.wrap IntKind.i64
 (Int.tdiv (IntKind.wrap IntKind.i64 (n + (719468 : Int))) (146097 : Int)) -
 (1 : Int)))))
 (36524 : Int))) -
 IntKind.wrap IntKind.i64
 (Int.tdiv
 (IntKind.wrap IntKind.i64
 (IntKind.wrap IntKind.i64 (n + (719468 : Int)) -
 IntKind.wrap IntKind.i64
 ((146097 : Int) *
 IntKind.wrap IntKind.i64
 (IntKind.wrap IntKind.i64 (Int.tdiv (IntKind.wrap IntKind.i64 (n + (719468 : Int))) (146097 : Int)) -
 (1 : Int)))))
 (146096 : Int))))
 (365 : Int)))
 (4 : Int))) -
 IntKind.wrap IntKind.i64
 (Int.tdiv
 (IntKind.wrap IntKind.i64
 (Int.tdiv
 (IntKind.wrap IntKind.i64
 (IntKind.wrap IntKind.i64
 (IntKind.wrap IntKind.i64
 (IntKind.wrap IntKind.i64
 (IntKind.wrap IntKind.i64 (n + (719468 : Int)) -
 IntKind.wrap IntKind.i64
 ((146097 : Int) *
 IntKind.wrap IntKind.i64
 (IntKind.wrap IntKind.i64 (Int.tdiv (IntKind.wrap IntKind.i64 (n + (719468 : Int))) (146097 : Int)) -
 (1 : Int)))) -
 IntKind.wrap IntKind.i64
 (Int.tdiv
 (IntKind.wrap IntKind.i64
 (IntKind.wrap IntKind.i64 (n + (719468 : Int)) -
 IntKind.wrap IntKind.i64
 ((146097 : Int) *
 IntKind.wrap IntKind.i64
 (IntKind.wrap IntKind.i64
 (Int.tdiv (IntKind.wrap IntKind.i64 (n + (719468 : Int))) (146097 : Int)) -
 (1 : Int)))))
 (1460 : Int))) +
 IntKind.wrap IntKind.i64
 (Int.tdiv
 (IntKind.wrap IntKind.i64
 (IntKind.wrap IntKind.i64 (n + (719468 : Int)) -
 IntKind.wrap IntKind.i64
 ((146097 : Int) *
 IntKind.wrap IntKind.i64
 (IntKind.wrap IntKind.i64 (Int.tdiv (IntKind.wrap IntKind.i64 (n + (719468 : Int))) (146097 : Int)) -
 (1 : Int)))))
 (36524 : Int))) -
 IntKind.wrap IntKind.i64
 (Int.tdiv
 (IntKind.wrap IntKind.i64
 (IntKind.wrap IntKind.i64 (n + (719468 : Int)) -
 IntKind.wrap IntKind.i64
 ((146097 : Int) *
 IntKind.wrap IntKind.i64
 (IntKind.wrap IntKind.i64 (Int.tdiv (IntKind.wrap IntKind.i64 (n + (719468 : Int))) (146097 : Int)) -
 (1 : Int)))))
 (146096 : Int))))
 (365 : Int)))
 (100 : Int))))) +
 (2 : Int)))
 (153 : Int))) +
 (2 : Int)))
 (5 : Int))) +
 (1 : Int))) →
 K
 (Value.tuple
 (Array.mk
 [Value.agg
 (Array.mk
 [Value.int IntKind.i64
 (IntKind.wrap IntKind.i64
 (IntKind.wrap IntKind.i64
 (IntKind.wrap IntKind.i64
 ((400 : Int) *
 IntKind.wrap IntKind.i64 (IntKind.wrap IntKind.i64 (Int.tdiv (IntKind.wrap IntKind.i64 (n + (719468 : Int))) (146097 : Int)) - (1 : Int))) +
 IntKind.wrap IntKind.i64
 (Int.tdiv
 (IntKind.wrap IntKind.i64
 (IntKind.wrap IntKind.i64
 (IntKind.wrap IntKind.i64
 (IntKind.wrap IntKind.i64
 (IntKind.wrap IntKind.i64 (n + (719468 : Int)) -
 IntKind.wrap IntKind.i64
 ((146097 : Int) *
 IntKind.wrap IntKind.i64
 (IntKind.wrap IntKind.i64 (Int.tdiv (IntKind.wrap IntKind.i64 (n + (719468 : Int))) (146097 : Int)) - (1 : Int)))) -
 IntKind.wrap IntKind.i64
 (Int.tdiv
 (IntKind.wrap IntKind.i64
 (IntKind.wrap IntKind.i64 (n + (719468 : Int)) -
 IntKind.wrap IntKind.i64
 ((146097 : Int) *
 IntKind.wrap IntKind.i64
 (IntKind.wrap IntKind.i64 (Int.tdiv (IntKind.wrap IntKind.i64 (n + (719468 : Int))) (146097 : Int)) - (1 : Int)))))
 (1460 : Int))) +
 IntKind.wrap IntKind.i64
 (Int.tdiv
 (IntKind.wrap IntKind.i64
 (IntKind.wrap IntKind.i64 (n + (719468 : Int)) -
 IntKind.wrap IntKind.i64
 ((146097 : Int) *
 IntKind.wrap IntKind.i64
 (IntKind.wrap IntKind.i64 (Int.tdiv (IntKind.wrap IntKind.i64 (n + (719468 : Int))) (146097 : Int)) - (1 : Int)))))
 (36524 : Int))) -
 IntKind.wrap IntKind.i64
 (Int.tdiv
 (IntKind.wrap IntKind.i64
 (IntKind.wrap IntKind.i64 (n + (719468 : Int)) -
 IntKind.wrap IntKind.i64
 ((146097 : Int) *
 IntKind.wrap IntKind.i64
 (IntKind.wrap IntKind.i64 (Int.tdiv (IntKind.wrap IntKind.i64 (n + (719468 : Int))) (146097 : Int)) - (1 : Int)))))
 (146096 : Int))))
 (365 : Int))) +
 (1 : Int))),
 Value.int IntKind.i64
 (IntKind.wrap IntKind.i64
 (IntKind.wrap IntKind.i64
 (IntKind.wrap IntKind.i64
 (Int.tdiv
 (IntKind.wrap IntKind.i64
 (IntKind.wrap IntKind.i64
 ((5 : Int) *
 IntKind.wrap IntKind.i64
 (IntKind.wrap IntKind.i64
 (IntKind.wrap IntKind.i64 (n + (719468 : Int)) -
 IntKind.wrap IntKind.i64
 ((146097 : Int) *
 IntKind.wrap IntKind.i64
 (IntKind.wrap IntKind.i64 (Int.tdiv (IntKind.wrap IntKind.i64 (n + (719468 : Int))) (146097 : Int)) - (1 : Int)))) -
 IntKind.wrap IntKind.i64
 (IntKind.wrap IntKind.i64
 (IntKind.wrap IntKind.i64
 ((365 : Int) *
 IntKind.wrap IntKind.i64
 (Int.tdiv
 (IntKind.wrap IntKind.i64
 (IntKind.wrap IntKind.i64
 (IntKind.wrap IntKind.i64
 (IntKind.wrap IntKind.i64
 (IntKind.wrap IntKind.i64 (n + (719468 : Int)) -
 IntKind.wrap IntKind.i64
 ((146097 : Int) *
 IntKind.wrap IntKind.i64
 (IntKind.wrap IntKind.i64
 (Int.tdiv (IntKind.wrap IntKind.i64 (n + (719468 : Int))) (146097 : Int)) -
 (1 : Int)))) -
 IntKind.wrap IntKind.i64
 (Int.tdiv
 (IntKind.wrap IntKind.i64
 (IntKind.wrap IntKind.i64 (n + (719468 : Int)) -
 IntKind.wrap IntKind.i64
 ((146097 : Int) *
 IntKind.wrap IntKind.i64
 (IntKind.wrap IntKind.i64
 (Int.tdiv (IntKind.wrap IntKind.i64 (n + (719468 : Int))) (146097 : Int)) -
 (1 : Int)))))
 (1460 : Int))) +
 IntKind.wrap IntKind.i64
 (Int.tdiv
 (IntKind.wrap IntKind.i64
 (IntKind.wrap IntKind.i64 (n + (719468 : Int)) -
 IntKind.wrap IntKind.i64
 ((146097 : Int) *
 IntKind.wrap IntKind.i64
 (IntKind.wrap IntKind.i64
 (Int.tdiv (IntKind.wrap IntKind.i64 (n + (719468 : Int))) (146097 : Int)) -
 (1 : Int)))))
 (36524 : Int))) -
 IntKind.wrap IntKind.i64
 (Int.tdiv
 (IntKind.wrap IntKind.i64
 (IntKind.wrap IntKind.i64 (n + (719468 : Int)) -
 IntKind.wrap IntKind.i64
 ((146097 : Int) *
 IntKind.wrap IntKind.i64
 (IntKind.wrap IntKind.i64 (Int.tdiv (IntKind.wrap IntKind.i64 (n + (719468 : Int))) (146097 : Int)) -
 (1 : Int)))))
 (146096 : Int))))
 (365 : Int))) +
 IntKind.wrap IntKind.i64
 (Int.tdiv
 (IntKind.wrap IntKind.i64
 (Int.tdiv
 (IntKind.wrap IntKind.i64
 (IntKind.wrap IntKind.i64
 (IntKind.wrap IntKind.i64
 (IntKind.wrap IntKind.i64
 (IntKind.wrap IntKind.i64 (n + (719468 : Int)) -
 IntKind.wrap IntKind.i64
 ((146097 : Int) *
 IntKind.wrap IntKind.i64
 (IntKind.wrap IntKind.i64
 (Int.tdiv (IntKind.wrap IntKind.i64 (n + (719468 : Int))) (146097 : Int)) -
 (1 : Int)))) -
 IntKind.wrap IntKind.i64
 (Int.tdiv
 (IntKind.wrap IntKind.i64
 (IntKind.wrap IntKind.i64 (n + (719468 : Int)) -
 IntKind.wrap IntKind.i64
 ((146097 : Int) *
 IntKind.wrap IntKind.i64
 (IntKind.wrap IntKind.i64
 (Int.tdiv (IntKind.wrap IntKind.i64 (n + (719468 : Int))) (146097 : Int)) -
 (1 : Int)))))
 (1460 : Int))) +
 IntKind.wrap IntKind.i64
 (Int.tdiv
 (IntKind.wrap IntKind.i64
 (IntKind.wrap IntKind.i64 (n + (719468 : Int)) -
 IntKind.wrap IntKind.i64
 ((146097 : Int) *
 IntKind.wrap IntKind.i64
 (IntKind.wrap IntKind.i64
 (Int.tdiv (IntKind.wrap IntKind.i64 (n + (719468 : Int))) (146097 : Int)) -
 (1 : Int)))))
 (36524 : Int))) -
 IntKind.wrap IntKind.i64
 (Int.tdiv
 (IntKind.wrap IntKind.i64
 (IntKind.wrap IntKind.i64 (n + (719468 : Int)) -
 IntKind.wrap IntKind.i64
 ((146097 : Int) *
 IntKind.wrap IntKind.i64
 (IntKind.wrap IntKind.i64 (Int.tdiv (IntKind.wrap IntKind.i64 (n + (719468 : Int))) (146097 : Int)) -
 (1 : Int)))))
 (146096 : Int))))
 (365 : Int)))
 (4 : Int))) -
 IntKind.wrap IntKind.i64
 (Int.tdiv
 (IntKind.wrap IntKind.i64
 (Int.tdiv
 (IntKind.wrap IntKind.i64
 (IntKind.wrap IntKind.i64
 (IntKind.wrap IntKind.i64
 (IntKind.wrap IntKind.i64
 (IntKind.wrap IntKind.i64 (n + (719468 : Int)) -
 IntKind.wrap IntKind.i64
 ((146097 : Int) *
 IntKind.wrap IntKind.i64
 (IntKind.wrap IntKind.i64 (Int.tdiv (IntKind.wrap IntKind.i64 (n + (719468 : Int))) (146097 : Int)) -
 (1 : Int)))) -
 IntKind.wrap IntKind.i64
 (Int.tdiv
 (IntKind.wrap IntKind.i64
 (IntKind.wrap IntKind.i64 (n + (719468 : Int)) -
 IntKind.wrap IntKind.i64
 ((146097 : Int) *
 IntKind.wrap IntKind.i64
 (IntKind.wrap IntKind.i64
 (Int.tdiv (IntKind.wrap IntKind.i64 (n + (719468 : Int))) (146097 : Int)) -
 (1 : Int)))))
 (1460 : Int))) +
 IntKind.wrap IntKind.i64
 (Int.tdiv
 (IntKind.wrap IntKind.i64
 (IntKind.wrap IntKind.i64 (n + (719468 : Int)) -
 IntKind.wrap IntKind.i64
 ((146097 : Int) *
 IntKind.wrap IntKind.i64
 (IntKind.wrap IntKind.i64 (Int.tdiv (IntKind.wrap IntKind.i64 (n + (719468 : Int))) (146097 : Int)) -
 (1 : Int)))))
 (36524 : Int))) -
 IntKind.wrap IntKind.i64
 (Int.tdiv
 (IntKind.wrap IntKind.i64
 (IntKind.wrap IntKind.i64 (n + (719468 : Int)) -
 IntKind.wrap IntKind.i64
 ((146097 : Int) *
 IntKind.wrap IntKind.i64
 (IntKind.wrap IntKind.i64 (Int.tdiv (IntKind.wrap IntKind.i64 (n + (719468 : Int))) (146097 : Int)) -
 (1 : Int)))))
 (146096 : Int))))
 (365 : Int)))
 (100 : Int))))) +
 (2 : Int)))
 (153 : Int)) +
 (3 : Int)) -
 (12 : Int))),
 Value.int IntKind.i64
 (IntKind.wrap IntKind.i64
 (IntKind.wrap IntKind.i64
 (IntKind.wrap IntKind.i64
 (IntKind.wrap IntKind.i64
 (IntKind.wrap IntKind.i64 (n + (719468 : Int)) -
 IntKind.wrap IntKind.i64
 ((146097 : Int) *
 IntKind.wrap IntKind.i64
 (IntKind.wrap IntKind.i64 (Int.tdiv (IntKind.wrap IntKind.i64 (n + (719468 : Int))) (146097 : Int)) - (1 : Int)))) -
 IntKind.wrap IntKind.i64
 (IntKind.wrap IntKind.i64
 (IntKind.wrap IntKind.i64
 ((365 : Int) *
 IntKind.wrap IntKind.i64
 (Int.tdiv
 (IntKind.wrap IntKind.i64
 (IntKind.wrap IntKind.i64
 (IntKind.wrap IntKind.i64
 (IntKind.wrap IntKind.i64
 (IntKind.wrap IntKind.i64 (n + (719468 : Int)) -
 IntKind.wrap IntKind.i64
 ((146097 : Int) *
 IntKind.wrap IntKind.i64
 (IntKind.wrap IntKind.i64 (Int.tdiv (IntKind.wrap IntKind.i64 (n + (719468 : Int))) (146097 : Int)) -
 (1 : Int)))) -
 IntKind.wrap IntKind.i64
 (Int.tdiv
 (IntKind.wrap IntKind.i64
 (IntKind.wrap IntKind.i64 (n + (719468 : Int)) -
 IntKind.wrap IntKind.i64
 ((146097 : Int) *
 IntKind.wrap IntKind.i64
 (IntKind.wrap IntKind.i64 (Int.tdiv (IntKind.wrap IntKind.i64 (n + (719468 : Int))) (146097 : Int)) -
 (1 : Int)))))
 (1460 : Int))) +
 IntKind.wrap IntKind.i64
 (Int.tdiv
 (IntKind.wrap IntKind.i64
 (IntKind.wrap IntKind.i64 (n + (719468 : Int)) -
 IntKind.wrap IntKind.i64
 ((146097 : Int) *
 IntKind.wrap IntKind.i64
 (IntKind.wrap IntKind.i64 (Int.tdiv (IntKind.wrap IntKind.i64 (n + (719468 : Int))) (146097 : Int)) -
 (1 : Int)))))
 (36524 : Int))) -
 IntKind.wrap IntKind.i64
 (Int.tdiv
 (IntKind.wrap IntKind.i64
 (IntKind.wrap IntKind.i64 (n + (719468 : Int)) -
 IntKind.wrap IntKind.i64
 ((146097 : Int) *
 IntKind.wrap IntKind.i64
 (IntKind.wrap IntKind.i64 (Int.tdiv (IntKind.wrap IntKind.i64 (n + (719468 : Int))) (146097 : Int)) -
 (1 : Int)))))
 (146096 : Int))))
 (365 : Int))) +
 IntKind.wrap IntKind.i64
 (Int.tdiv
 (IntKind.wrap IntKind.i64
 (Int.tdiv
 (IntKind.wrap IntKind.i64
 (IntKind.wrap IntKind.i64
 (IntKind.wrap IntKind.i64
 (IntKind.wrap IntKind.i64
 (IntKind.wrap IntKind.i64 (n + (719468 : Int)) -
 IntKind.wrap IntKind.i64
 ((146097 : Int) *
 IntKind.wrap IntKind.i64
 (IntKind.wrap IntKind.i64 (Int.tdiv (IntKind.wrap IntKind.i64 (n + (719468 : Int))) (146097 : Int)) -
 (1 : Int)))) -
 IntKind.wrap IntKind.i64
 (Int.tdiv
 (IntKind.wrap IntKind.i64
 (IntKind.wrap IntKind.i64 (n + (719468 : Int)) -
 IntKind.wrap IntKind.i64
 ((146097 : Int) *
 IntKind.wrap IntKind.i64
 (IntKind.wrap IntKind.i64 (Int.tdiv (IntKind.wrap IntKind.i64 (n + (719468 : Int))) (146097 : Int)) -
 (1 : Int)))))
 (1460 : Int))) +
 IntKind.wrap IntKind.i64
 (Int.tdiv
 (IntKind.wrap IntKind.i64
 (IntKind.wrap IntKind.i64 (n + (719468 : Int)) -
 IntKind.wrap IntKind.i64
 ((146097 : Int) *
 IntKind.wrap IntKind.i64
 (IntKind.wrap IntKind.i64 (Int.tdiv (IntKind.wrap IntKind.i64 (n + (719468 : Int))) (146097 : Int)) -
 (1 : Int)))))
 (36524 : Int))) -
 IntKind.wrap IntKind.i64
 (Int.tdiv
 (IntKind.wrap IntKind.i64
 (IntKind.wrap IntKind.i64 (n + (719468 : Int)) -
 IntKind.wrap IntKind.i64
 ((146097 : Int) *
 IntKind.wrap IntKind.i64
 (IntKind.wrap IntKind.i64 (Int.tdiv (IntKind.wrap IntKind.i64 (n + (719468 : Int))) (146097 : Int)) -
 (1 : Int)))))
 (146096 : Int))))
 (365 : Int)))
 (4 : Int))) -
 IntKind.wrap IntKind.i64
 (Int.tdiv
 (IntKind.wrap IntKind.i64
 (Int.tdiv
 (IntKind.wrap IntKind.i64
 (IntKind.wrap IntKind.i64
 (IntKind.wrap IntKind.i64
 (IntKind.wrap IntKind.i64
 (IntKind.wrap IntKind.i64 (n + (719468 : Int)) -
 IntKind.wrap IntKind.i64
 ((146097 : Int) *
 IntKind.wrap IntKind.i64
 (IntKind.wrap IntKind.i64 (Int.tdiv (IntKind.wrap IntKind.i64 (n + (719468 : Int))) (146097 : Int)) -
 (1 : Int)))) -
 IntKind.wrap IntKind.i64
 (Int.tdiv
 (IntKind.wrap IntKind.i64
 (IntKind.wrap IntKind.i64 (n + (719468 : Int)) -
 IntKind.wrap IntKind.i64
 ((146097 : Int) *
 IntKind.wrap IntKind.i64
 (IntKind.wrap IntKind.i64 (Int.tdiv (IntKind.wrap IntKind.i64 (n + (719468 : Int))) (146097 : Int)) -
 (1 : Int)))))
 (1460 : Int))) +
 IntKind.wrap IntKind.i64
 (Int.tdiv
 (IntKind.wrap IntKind.i64
 (IntKind.wrap IntKind.i64 (n + (719468 : Int)) -
 IntKind.wrap IntKind.i64
 ((146097 : Int) *
 IntKind.wrap IntKind.i64
 (IntKind.wrap IntKind.i64 (Int.tdiv (IntKind.wrap IntKind.i64 (n + (719468 : Int))) (146097 : Int)) -
 (1 : Int)))))
 (36524 : Int))) -
 IntKind.wrap IntKind.i64
 (Int.tdiv
 (IntKind.wrap IntKind.i64
 (IntKind.wrap IntKind.i64 (n + (719468 : Int)) -
 IntKind.wrap IntKind.i64
 ((146097 : Int) *
 IntKind.wrap IntKind.i64
 (IntKind.wrap IntKind.i64 (Int.tdiv (IntKind.wrap IntKind.i64 (n + (719468 : Int))) (146097 : Int)) - (1 : Int)))))
 (146096 : Int))))
 (365 : Int)))
 (100 : Int)))) -
 IntKind.wrap IntKind.i64
 (Int.tdiv
 (IntKind.wrap IntKind.i64
 (IntKind.wrap IntKind.i64
 ((153 : Int) *
 IntKind.wrap IntKind.i64
 (Int.tdiv
 (IntKind.wrap IntKind.i64
 (IntKind.wrap IntKind.i64
 ((5 : Int) *
 IntKind.wrap IntKind.i64
 (IntKind.wrap IntKind.i64
 (IntKind.wrap IntKind.i64 (n + (719468 : Int)) -
 IntKind.wrap IntKind.i64
 ((146097 : Int) *
 IntKind.wrap IntKind.i64
 (IntKind.wrap IntKind.i64 (Int.tdiv (IntKind.wrap IntKind.i64 (n + (719468 : Int))) (146097 : Int)) -
 (1 : Int)))) -
 IntKind.wrap IntKind.i64
 (IntKind.wrap IntKind.i64
 (IntKind.wrap IntKind.i64
 ((365 : Int) *
 IntKind.wrap IntKind.i64
 (Int.tdiv
 (IntKind.wrap IntKind.i64
 (IntKind.wrap IntKind.i64
 (IntKind.wrap IntKind.i64
 (IntKind.wrap IntKind.i64
 (IntKind.wrap IntKind.i64 (n + (719468 : Int)) -
 IntKind.wrap IntKind.i64
 ((146097 : Int) *
 IntKind.wrap IntKind.i64
 (IntKind.wrap IntKind.i64
 (Int.tdiv (IntKind.wrap IntKind.i64 (n + (719468 : Int))) (146097 : Int)) -
 (1 : Int)))) -
 IntKind.wrap IntKind.i64
 (Int.tdiv
 (IntKind.wrap IntKind.i64
 (IntKind.wrap IntKind.i64 (n + (719468 : Int)) -
 IntKind.wrap IntKind.i64
 ((146097 : Int) *
 IntKind.wrap IntKind.i64
 (IntKind.wrap IntKind.i64
 (Int.tdiv (IntKind.wrap IntKind.i64 (n + (719468 : Int))) (146097 : Int)) -
 (1 : Int)))))
 (1460 : Int))) +
 IntKind.wrap IntKind.i64
 (Int.tdiv
 (IntKind.wrap IntKind.i64
 (IntKind.wrap IntKind.i64 (n + (719468 : Int)) -
 IntKind.wrap IntKind.i64
 ((146097 : Int) *
 IntKind.wrap IntKind.i64
 (IntKind.wrap IntKind.i64
 (Int.tdiv (IntKind.wrap IntKind.i64 (n + (719468 : Int))) (146097 : Int)) -
 (1 : Int)))))
 (36524 : Int))) -
 IntKind.wrap IntKind.i64
 (Int.tdiv
 (IntKind.wrap IntKind.i64
 (IntKind.wrap IntKind.i64 (n + (719468 : Int)) -
 IntKind.wrap IntKind.i64
 ((146097 : Int) *
 IntKind.wrap IntKind.i64
 (IntKind.wrap IntKind.i64
 (Int.tdiv (IntKind.wrap IntKind.i64 (n + (719468 : Int))) (146097 : Int)) -
 (1 : Int)))))
 (146096 : Int))))
 (365 : Int))) +
 IntKind.wrap IntKind.i64
 (Int.tdiv
 (IntKind.wrap IntKind.i64
 (Int.tdiv
 (IntKind.wrap IntKind.i64
 (IntKind.wrap IntKind.i64
 (IntKind.wrap IntKind.i64
 (IntKind.wrap IntKind.i64
 (IntKind.wrap IntKind.i64 (n + (719468 : Int)) -
 IntKind.wrap IntKind.i64
 ((146097 : Int) *
 IntKind.wrap IntKind.i64
 (IntKind.wrap IntKind.i64
 (Int.tdiv (IntKind.wrap IntKind.i64 (n + (719468 : Int))) (146097 : Int)) -
 (1 : Int)))) -
 IntKind.wrap IntKind.i64
 (Int.tdiv
 (IntKind.wrap IntKind.i64
 (IntKind.wrap IntKind.i64 (n + (719468 : Int)) -
 IntKind.wrap IntKind.i64
 ((146097 : Int) *
 IntKind.wrap IntKind.i64
 (IntKind.wrap IntKind.i64
 (Int.tdiv (IntKind.wrap IntKind.i64 (n + (719468 : Int))) (146097 : Int)) -
 (1 : Int)))))
 (1460 : Int))) +
 IntKind.wrap IntKind.i64
 (Int.tdiv
 (IntKind.wrap IntKind.i64
 (IntKind.wrap IntKind.i64 (n + (719468 : Int)) -
 IntKind.wrap IntKind.i64
 ((146097 : Int) *
 IntKind.wrap IntKind.i64
 (IntKind.wrap IntKind.i64
 (Int.tdiv (IntKind.wrap IntKind.i64 (n + (719468 : Int))) (146097 : Int)) -
 (1 : Int)))))
 (36524 : Int))) -
 IntKind.wrap IntKind.i64
 (Int.tdiv
 (IntKind.wrap IntKind.i64
 (IntKind.wrap IntKind.i64 (n + (719468 : Int)) -
 IntKind.wrap IntKind.i64
 ((146097 : Int) *
 IntKind.wrap IntKind.i64
 (IntKind.wrap IntKind.i64
 (Int.tdiv (IntKind.wrap IntKind.i64 (n + (719468 : Int))) (146097 : Int)) -
 (1 : Int)))))
 (146096 : Int))))
 (365 : Int)))
 (4 : Int))) -
 IntKind.wrap IntKind.i64
 (Int.tdiv
 (IntKind.wrap IntKind.i64
 (Int.tdiv
 (IntKind.wrap IntKind.i64
 (IntKind.wrap IntKind.i64
 (IntKind.wrap IntKind.i64
 (IntKind.wrap IntKind.i64
 (IntKind.wrap IntKind.i64 (n + (719468 : Int)) -
 IntKind.wrap IntKind.i64
 ((146097 : Int) *
 IntKind.wrap IntKind.i64
 (IntKind.wrap IntKind.i64
 (Int.tdiv (IntKind.wrap IntKind.i64 (n + (719468 : Int))) (146097 : Int)) -
 (1 : Int)))) -
 IntKind.wrap IntKind.i64
 (Int.tdiv
 (IntKind.wrap IntKind.i64
 (IntKind.wrap IntKind.i64 (n + (719468 : Int)) -
 IntKind.wrap IntKind.i64
 ((146097 : Int) *
 IntKind.wrap IntKind.i64
 (IntKind.wrap IntKind.i64
 (Int.tdiv (IntKind.wrap IntKind.i64 (n + (719468 : Int))) (146097 : Int)) -
 (1 : Int)))))
 (1460 : Int))) +
 IntKind.wrap IntKind.i64
 (Int.tdiv
 (IntKind.wrap IntKind.i64
 (IntKind.wrap IntKind.i64 (n + (719468 : Int)) -
 IntKind.wrap IntKind.i64
 ((146097 : Int) *
 IntKind.wrap IntKind.i64
 (IntKind.wrap IntKind.i64
 (Int.tdiv (IntKind.wrap IntKind.i64 (n + (719468 : Int))) (146097 : Int)) -
 (1 : Int)))))
 (36524 : Int))) -
 IntKind.wrap IntKind.i64
 (Int.tdiv
 (IntKind.wrap IntKind.i64
 (IntKind.wrap IntKind.i64 (n + (719468 : Int)) -
 IntKind.wrap IntKind.i64
 ((146097 : Int) *
 IntKind.wrap IntKind.i64
 (IntKind.wrap IntKind.i64
 (Int.tdiv (IntKind.wrap IntKind.i64 (n + (719468 : Int))) (146097 : Int)) -
 (1 : Int)))))
 (146096 : Int))))
 (365 : Int)))
 (100 : Int))))) +
 (2 : Int)))
 (153 : Int))) +
 (2 : Int)))
 (5 : Int))) +
 (1 : Int)))]),
 Value.bool Bool.true]))
 (10 : Nat)) ∧
 (¬dateOk
 (IntKind.wrap IntKind.i64
 (IntKind.wrap IntKind.i64
 (IntKind.wrap IntKind.i64
 ((400 : Int) * IntKind.wrap IntKind.i64 (IntKind.wrap IntKind.i64 (Int.tdiv (IntKind.wrap IntKind.i64 (n + (719468 : Int))) (146097 : Int)) - (1 : Int))) +
 IntKind.wrap IntKind.i64
 (Int.tdiv
 (IntKind.wrap IntKind.i64
 (IntKind.wrap IntKind.i64
 (IntKind.wrap IntKind.i64
 (IntKind.wrap IntKind.i64
 (IntKind.wrap IntKind.i64 (n + (719468 : Int)) -
 IntKind.wrap IntKind.i64
 ((146097 : Int) *
 IntKind.wrap IntKind.i64
 (IntKind.wrap IntKind.i64 (Int.tdiv (IntKind.wrap IntKind.i64 (n + (719468 : Int))) (146097 : Int)) - (1 : Int)))) -
 IntKind.wrap IntKind.i64
 (Int.tdiv
 (IntKind.wrap IntKind.i64
 (IntKind.wrap IntKind.i64 (n + (719468 : Int)) -
 IntKind.wrap IntKind.i64
 ((146097 : Int) *
 IntKind.wrap IntKind.i64
 (IntKind.wrap IntKind.i64 (Int.tdiv (IntKind.wrap IntKind.i64 (n + (719468 : Int))) (146097 : Int)) - (1 : Int)))))
 (1460 : Int))) +
 IntKind.wrap IntKind.i64
 (Int.tdiv
 (IntKind.wrap IntKind.i64
 (IntKind.wrap IntKind.i64 (n + (719468 : Int)) -
 IntKind.wrap IntKind.i64
 ((146097 : Int) *
 IntKind.wrap IntKind.i64
 (IntKind.wrap IntKind.i64 (Int.tdiv (IntKind.wrap IntKind.i64 (n + (719468 : Int))) (146097 : Int)) - (1 : Int)))))
 (36524 : Int))) -
 IntKind.wrap IntKind.i64
 (Int.tdiv
 (IntKind.wrap IntKind.i64
 (IntKind.wrap IntKind.i64 (n + (719468 : Int)) -
 IntKind.wrap IntKind.i64
 ((146097 : Int) *
 IntKind.wrap IntKind.i64
 (IntKind.wrap IntKind.i64 (Int.tdiv (IntKind.wrap IntKind.i64 (n + (719468 : Int))) (146097 : Int)) - (1 : Int)))))
 (146096 : Int))))
 (365 : Int))) +
 (1 : Int)))
 (IntKind.wrap IntKind.i64
 (IntKind.wrap IntKind.i64
 (IntKind.wrap IntKind.i64
 (Int.tdiv
 (IntKind.wrap IntKind.i64
 (IntKind.wrap IntKind.i64
 ((5 : Int) *
 IntKind.wrap IntKind.i64
 (IntKind.wrap IntKind.i64
 (IntKind.wrap IntKind.i64 (n + (719468 : Int)) -
 IntKind.wrap IntKind.i64
 ((146097 : Int) *
 IntKind.wrap IntKind.i64
 (IntKind.wrap IntKind.i64 (Int.tdiv (IntKind.wrap IntKind.i64 (n + (719468 : Int))) (146097 : Int)) - (1 : Int)))) -
 IntKind.wrap IntKind.i64
 (IntKind.wrap IntKind.i64
 (IntKind.wrap IntKind.i64
 ((365 : Int) *
 IntKind.wrap IntKind.i64
 (Int.tdiv
 (IntKind.wrap IntKind.i64
 (IntKind.wrap IntKind.i64
 (IntKind.wrap IntKind.i64
 (IntKind.wrap IntKind.i64
 (IntKind.wrap IntKind.i64 (n + (719468 : Int)) -
 IntKind.wrap IntKind.i64
 ((146097 : Int) *
 IntKind.wrap IntKind.i64
 (IntKind.wrap IntKind.i64 (Int.tdiv (IntKind.wrap IntKind.i64 (n + (719468 : Int))) (146097 : Int)) -
 (1 : Int)))) -
 IntKind.wrap IntKind.i64
 (Int.tdiv
 (IntKind.wrap IntKind.i64
 (IntKind.wrap IntKind.i64 (n + (719468 : Int)) -
 IntKind.wrap IntKind.i64
 ((146097 : Int) *
 IntKind.wrap IntKind.i64
 (IntKind.wrap IntKind.i64 (Int.tdiv (IntKind.wrap IntKind.i64 (n + (719468 : Int))) (146097 : Int)) -
 (1 : Int)))))
 (1460 : Int))) +
 IntKind.wrap IntKind.i64
 (Int.tdiv
 (IntKind.wrap IntKind.i64
 (IntKind.wrap IntKind.i64 (n + (719468 : Int)) -
 IntKind.wrap IntKind.i64
 ((146097 : Int) *
 IntKind.wrap IntKind.i64
 (IntKind.wrap IntKind.i64 (Int.tdiv (IntKind.wrap IntKind.i64 (n + (719468 : Int))) (146097 : Int)) -
 (1 : Int)))))
 (36524 : Int))) -
 IntKind.wrap IntKind.i64
 (Int.tdiv
 (IntKind.wrap IntKind.i64
 (IntKind.wrap IntKind.i64 (n + (719468 : Int)) -
 IntKind.wrap IntKind.i64
 ((146097 : Int) *
 IntKind.wrap IntKind.i64
 (IntKind.wrap IntKind.i64 (Int.tdiv (IntKind.wrap IntKind.i64 (n + (719468 : Int))) (146097 : Int)) -
 (1 : Int)))))
 (146096 : Int))))
 (365 : Int))) +
 IntKind.wrap IntKind.i64
 (Int.tdiv
 (IntKind.wrap IntKind.i64
 (Int.tdiv
 (IntKind.wrap IntKind.i64
 (IntKind.wrap IntKind.i64
 (IntKind.wrap IntKind.i64
 (IntKind.wrap IntKind.i64
 (IntKind.wrap IntKind.i64 (n + (719468 : Int)) -
 IntKind.wrap IntKind.i64
 ((146097 : Int) *
 IntKind.wrap IntKind.i64
 (IntKind.wrap IntKind.i64 (Int.tdiv (IntKind.wrap IntKind.i64 (n + (719468 : Int))) (146097 : Int)) -
 (1 : Int)))) -
 IntKind.wrap IntKind.i64
 (Int.tdiv
 (IntKind.wrap IntKind.i64
 (IntKind.wrap IntKind.i64 (n + (719468 : Int)) -
 IntKind.wrap IntKind.i64
 ((146097 : Int) *
 IntKind.wrap IntKind.i64
 (IntKind.wrap IntKind.i64 (Int.tdiv (IntKind.wrap IntKind.i64 (n + (719468 : Int))) (146097 : Int)) -
 (1 : Int)))))
 (1460 : Int))) +
 IntKind.wrap IntKind.i64
 (Int.tdiv
 (IntKind.wrap IntKind.i64
 (IntKind.wrap IntKind.i64 (n + (719468 : Int)) -
 IntKind.wrap IntKind.i64
 ((146097 : Int) *
 IntKind.wrap IntKind.i64
 (IntKind.wrap IntKind.i64 (Int.tdiv (IntKind.wrap IntKind.i64 (n + (719468 : Int))) (146097 : Int)) -
 (1 : Int)))))
 (36524 : Int))) -
 IntKind.wrap IntKind.i64
 (Int.tdiv
 (IntKind.wrap IntKind.i64
 (IntKind.wrap IntKind.i64 (n + (719468 : Int)) -
 IntKind.wrap IntKind.i64
 ((146097 : Int) *
 IntKind.wrap IntKind.i64
 (IntKind.wrap IntKind.i64 (Int.tdiv (IntKind.wrap IntKind.i64 (n + (719468 : Int))) (146097 : Int)) -
 (1 : Int)))))
 (146096 : Int))))
 (365 : Int)))
 (4 : Int))) -
 IntKind.wrap IntKind.i64
 (Int.tdiv
 (IntKind.wrap IntKind.i64
 (Int.tdiv
 (IntKind.wrap IntKind.i64
 (IntKind.wrap IntKind.i64
 (IntKind.wrap IntKind.i64
 (IntKind.wrap IntKind.i64
 (IntKind.wrap IntKind.i64 (n + (719468 : Int)) -
 IntKind.wrap IntKind.i64
 ((146097 : Int) *
 IntKind.wrap IntKind.i64
 (IntKind.wrap IntKind.i64 (Int.tdiv (IntKind.wrap IntKind.i64 (n + (719468 : Int))) (146097 : Int)) -
 (1 : Int)))) -
 IntKind.wrap IntKind.i64
 (Int.tdiv
 (IntKind.wrap IntKind.i64
 (IntKind.wrap IntKind.i64 (n + (719468 : Int)) -
 IntKind.wrap IntKind.i64
 ((146097 : Int) *
 IntKind.wrap IntKind.i64
 (IntKind.wrap IntKind.i64 (Int.tdiv (IntKind.wrap IntKind.i64 (n + (719468 : Int))) (146097 : Int)) -
 (1 : Int)))))
 (1460 : Int))) +
 IntKind.wrap IntKind.i64
 (Int.tdiv
 (IntKind.wrap IntKind.i64
 (IntKind.wrap IntKind.i64 (n + (719468 : Int)) -
 IntKind.wrap IntKind.i64
 ((146097 : Int) *
 IntKind.wrap IntKind.i64
 (IntKind.wrap IntKind.i64 (Int.tdiv (IntKind.wrap IntKind.i64 (n + (719468 : Int))) (146097 : Int)) -
 (1 : Int)))))
 (36524 : Int))) -
 IntKind.wrap IntKind.i64
 (Int.tdiv
 (IntKind.wrap IntKind.i64
 (IntKind.wrap IntKind.i64 (n + (719468 : Int)) -
 IntKind.wrap IntKind.i64
 ((146097 : Int) *
 IntKind.wrap IntKind.i64
 (IntKind.wrap IntKind.i64 (Int.tdiv (IntKind.wrap IntKind.i64 (n + (719468 : Int))) (146097 : Int)) - (1 : Int)))))
 (146096 : Int))))
 (365 : Int)))
 (100 : Int))))) +
 (2 : Int)))
 (153 : Int)) +
 (3 : Int)) -
 (12 : Int)))
 (IntKind.wrap IntKind.i64
 (IntKind.wrap IntKind.i64
 (IntKind.wrap IntKind.i64
 (IntKind.wrap IntKind.i64
 (IntKind.wrap IntKind.i64 (n + (719468 : Int)) -
 IntKind.wrap IntKind.i64
 ((146097 : Int) *
 IntKind.wrap IntKind.i64 (IntKind.wrap IntKind.i64 (Int.tdiv (IntKind.wrap IntKind.i64 (n + (719468 : Int))) (146097 : Int)) - (1 : Int)))) -
 IntKind.wrap IntKind.i64
 (IntKind.wrap IntKind.i64
 (IntKind.wrap IntKind.i64
 ((365 : Int) *
 IntKind.wrap IntKind.i64
 (Int.tdiv
 (IntKind.wrap IntKind.i64
 (IntKind.wrap IntKind.i64
 (IntKind.wrap IntKind.i64
 (IntKind.wrap IntKind.i64
 (IntKind.wrap IntKind.i64 (n + (719468 : Int)) -
 IntKind.wrap IntKind.i64
 ((146097 : Int) *
 IntKind.wrap IntKind.i64
 (IntKind.wrap IntKind.i64 (Int.tdiv (IntKind.wrap IntKind.i64 (n + (719468 : Int))) (146097 : Int)) - (1 : Int)))) -
 IntKind.wrap IntKind.i64
 (Int.tdiv
 (IntKind.wrap IntKind.i64
 (IntKind.wrap IntKind.i64 (n + (719468 : Int)) -
 IntKind.wrap IntKind.i64
 ((146097 : Int) *
 IntKind.wrap IntKind.i64
 (IntKind.wrap IntKind.i64 (Int.tdiv (IntKind.wrap IntKind.i64 (n + (719468 : Int))) (146097 : Int)) - (1 : Int)))))
 (1460 : Int))) +
 IntKind.wrap IntKind.i64
 (Int.tdiv
 (IntKind.wrap IntKind.i64
 (IntKind.wrap IntKind.i64 (n + (719468 : Int)) -
 IntKind.wrap IntKind.i64
 ((146097 : Int) *
 IntKind.wrap IntKind.i64
 (IntKind.wrap IntKind.i64 (Int.tdiv (IntKind.wrap IntKind.i64 (n + (719468 : Int))) (146097 : Int)) - (1 : Int)))))
 (36524 : Int))) -
 IntKind.wrap IntKind.i64
 (Int.tdiv
 (IntKind.wrap IntKind.i64
 (IntKind.wrap IntKind.i64 (n + (719468 : Int)) -
 IntKind.wrap IntKind.i64
 ((146097 : Int) *
 IntKind.wrap IntKind.i64
 (IntKind.wrap IntKind.i64 (Int.tdiv (IntKind.wrap IntKind.i64 (n + (719468 : Int))) (146097 : Int)) - (1 : Int)))))
 (146096 : Int))))
 (365 : Int))) +
 IntKind.wrap IntKind.i64
 (Int.tdiv
 (IntKind.wrap IntKind.i64
 (Int.tdiv
 (IntKind.wrap IntKind.i64
 (IntKind.wrap IntKind.i64
 (IntKind.wrap IntKind.i64
 (IntKind.wrap IntKind.i64
 (IntKind.wrap IntKind.i64 (n + (719468 : Int)) -
 IntKind.wrap IntKind.i64
 ((146097 : Int) *
 IntKind.wrap IntKind.i64
 (IntKind.wrap IntKind.i64 (Int.tdiv (IntKind.wrap IntKind.i64 (n + (719468 : Int))) (146097 : Int)) - (1 : Int)))) -
 IntKind.wrap IntKind.i64
 (Int.tdiv
 (IntKind.wrap IntKind.i64
 (IntKind.wrap IntKind.i64 (n + (719468 : Int)) -
 IntKind.wrap IntKind.i64
 ((146097 : Int) *
 IntKind.wrap IntKind.i64
 (IntKind.wrap IntKind.i64 (Int.tdiv (IntKind.wrap IntKind.i64 (n + (719468 : Int))) (146097 : Int)) - (1 : Int)))))
 (1460 : Int))) +
 IntKind.wrap IntKind.i64
 (Int.tdiv
 (IntKind.wrap IntKind.i64
 (IntKind.wrap IntKind.i64 (n + (719468 : Int)) -
 IntKind.wrap IntKind.i64
 ((146097 : Int) *
 IntKind.wrap IntKind.i64
 (IntKind.wrap IntKind.i64 (Int.tdiv (IntKind.wrap IntKind.i64 (n + (719468 : Int))) (146097 : Int)) - (1 : Int)))))
 (36524 : Int))) -
 IntKind.wrap IntKind.i64
 (Int.tdiv
 (IntKind.wrap IntKind.i64
 (IntKind.wrap IntKind.i64 (n + (719468 : Int)) -
 IntKind.wrap IntKind.i64
 ((146097 : Int) *
 IntKind.wrap IntKind.i64
 (IntKind.wrap IntKind.i64 (Int.tdiv (IntKind.wrap IntKind.i64 (n + (719468 : Int))) (146097 : Int)) - (1 : Int)))))
 (146096 : Int))))
 (365 : Int)))
 (4 : Int))) -
 IntKind.wrap IntKind.i64
 (Int.tdiv
 (IntKind.wrap IntKind.i64
 (Int.tdiv
 (IntKind.wrap IntKind.i64
 (IntKind.wrap IntKind.i64
 (IntKind.wrap IntKind.i64
 (IntKind.wrap IntKind.i64
 (IntKind.wrap IntKind.i64 (n + (719468 : Int)) -
 IntKind.wrap IntKind.i64
 ((146097 : Int) *
 IntKind.wrap IntKind.i64
 (IntKind.wrap IntKind.i64 (Int.tdiv (IntKind.wrap IntKind.i64 (n + (719468 : Int))) (146097 : Int)) - (1 : Int)))) -
 IntKind.wrap IntKind.i64
 (Int.tdiv
 (IntKind.wrap IntKind.i64
 (IntKind.wrap IntKind.i64 (n + (719468 : Int)) -
 IntKind.wrap IntKind.i64
 ((146097 : Int) *
 IntKind.wrap IntKind.i64
 (IntKind.wrap IntKind.i64 (Int.tdiv (IntKind.wrap IntKind.i64 (n + (719468 : Int))) (146097 : Int)) - (1 : Int)))))
 (1460 : Int))) +
 IntKind.wrap IntKind.i64
 (Int.tdiv
 (IntKind.wrap IntKind.i64
 (IntKind.wrap IntKind.i64 (n + (719468 : Int)) -
 IntKind.wrap IntKind.i64
 ((146097 : Int) *
 IntKind.wrap IntKind.i64
 (IntKind.wrap IntKind.i64 (Int.tdiv (IntKind.wrap IntKind.i64 (n + (719468 : Int))) (146097 : Int)) - (1 : Int)))))
 (36524 : Int))) -
 IntKind.wrap IntKind.i64
 (Int.tdiv
 (IntKind.wrap IntKind.i64
 (IntKind.wrap IntKind.i64 (n + (719468 : Int)) -
 IntKind.wrap IntKind.i64
 ((146097 : Int) *
 IntKind.wrap IntKind.i64
 (IntKind.wrap IntKind.i64 (Int.tdiv (IntKind.wrap IntKind.i64 (n + (719468 : Int))) (146097 : Int)) - (1 : Int)))))
 (146096 : Int))))
 (365 : Int)))
 (100 : Int)))) -
 IntKind.wrap IntKind.i64
 (Int.tdiv
 (IntKind.wrap IntKind.i64
 (IntKind.wrap IntKind.i64
 ((153 : Int) *
 IntKind.wrap IntKind.i64
 (Int.tdiv
 (IntKind.wrap IntKind.i64
 (IntKind.wrap IntKind.i64
 ((5 : Int) *
 IntKind.wrap IntKind.i64
 (IntKind.wrap IntKind.i64
 (IntKind.wrap IntKind.i64 (n + (719468 : Int)) -
 IntKind.wrap IntKind.i64
 ((146097 : Int) *
 IntKind.wrap IntKind.i64
 (IntKind.wrap IntKind.i64 (Int.tdiv (IntKind.wrap IntKind.i64 (n + (719468 : Int))) (146097 : Int)) - (1 : Int)))) -
 IntKind.wrap IntKind.i64
 (IntKind.wrap IntKind.i64
 (IntKind.wrap IntKind.i64
 ((365 : Int) *
 IntKind.wrap IntKind.i64
 (Int.tdiv
 (IntKind.wrap IntKind.i64
 (IntKind.wrap IntKind.i64
 (IntKind.wrap IntKind.i64
 (IntKind.wrap IntKind.i64
 (IntKind.wrap IntKind.i64 (n + (719468 : Int)) -
 IntKind.wrap IntKind.i64
 ((146097 : Int) *
 IntKind.wrap IntKind.i64
 (IntKind.wrap IntKind.i64
 (Int.tdiv (IntKind.wrap IntKind.i64 (n + (719468 : Int))) (146097 : Int)) -
 (1 : Int)))) -
 IntKind.wrap IntKind.i64
 (Int.tdiv
 (IntKind.wrap IntKind.i64
 (IntKind.wrap IntKind.i64 (n + (719468 : Int)) -
 IntKind.wrap IntKind.i64
 ((146097 : Int) *
 IntKind.wrap IntKind.i64
 (IntKind.wrap IntKind.i64
 (Int.tdiv (IntKind.wrap IntKind.i64 (n + (719468 : Int))) (146097 : Int)) -
 (1 : Int)))))
 (1460 : Int))) +
 IntKind.wrap IntKind.i64
 (Int.tdiv
 (IntKind.wrap IntKind.i64
 (IntKind.wrap IntKind.i64 (n + (719468 : Int)) -
 IntKind.wrap IntKind.i64
 ((146097 : Int) *
 IntKind.wrap IntKind.i64
 (IntKind.wrap IntKind.i64
 (Int.tdiv (IntKind.wrap IntKind.i64 (n + (719468 : Int))) (146097 : Int)) -
 (1 : Int)))))
 (36524 : Int))) -
 IntKind.wrap IntKind.i64
 (Int.tdiv
 (IntKind.wrap IntKind.i64
 (IntKind.wrap IntKind.i64 (n + (719468 : Int)) -
 IntKind.wrap IntKind.i64
 ((146097 : Int) *
 IntKind.wrap IntKind.i64
 (IntKind.wrap IntKind.i64 (Int.tdiv (IntKind.wrap IntKind.i64 (n + (719468 : Int))) (146097 : Int)) -
 (1 : Int)))))
 (146096 : Int))))
 (365 : Int))) +
 IntKind.wrap IntKind.i64
 (Int.tdiv
 (IntKind.wrap IntKind.i64
 (Int.tdiv
 (IntKind.wrap IntKind.i64
 (IntKind.wrap IntKind.i64
 (IntKind.wrap IntKind.i64
 (IntKind.wrap IntKind.i64
 (IntKind.wrap IntKind.i64 (n + (719468 : Int)) -
 IntKind.wrap IntKind.i64
 ((146097 : Int) *
 IntKind.wrap IntKind.i64
 (IntKind.wrap IntKind.i64
 (Int.tdiv (IntKind.wrap IntKind.i64 (n + (719468 : Int))) (146097 : Int)) -
 (1 : Int)))) -
 IntKind.wrap IntKind.i64
 (Int.tdiv
 (IntKind.wrap IntKind.i64
 (IntKind.wrap IntKind.i64 (n + (719468 : Int)) -
 IntKind.wrap IntKind.i64
 ((146097 : Int) *
 IntKind.wrap IntKind.i64
 (IntKind.wrap IntKind.i64
 (Int.tdiv (IntKind.wrap IntKind.i64 (n + (719468 : Int))) (146097 : Int)) -
 (1 : Int)))))
 (1460 : Int))) +
 IntKind.wrap IntKind.i64
 (Int.tdiv
 (IntKind.wrap IntKind.i64
 (IntKind.wrap IntKind.i64 (n + (719468 : Int)) -
 IntKind.wrap IntKind.i64
 ((146097 : Int) *
 IntKind.wrap IntKind.i64
 (IntKind.wrap IntKind.i64
 (Int.tdiv (IntKind.wrap IntKind.i64 (n + (719468 : Int))) (146097 : Int)) -
 (1 : Int)))))
 (36524 : Int))) -
 IntKind.wrap IntKind.i64
 (Int.tdiv
 (IntKind.wrap IntKind.i64
 (IntKind.wrap IntKind.i64 (n + (719468 : Int)) -
 IntKind.wrap IntKind.i64
 ((146097 : Int) *
 IntKind.wrap IntKind.i64
 (IntKind.wrap IntKind.i64 (Int.tdiv (IntKind.wrap IntKind.i64 (n + (719468 : Int))) (146097 : Int)) -
 (1 : Int)))))
 (146096 : Int))))
 (365 : Int)))
 (4 : Int))) -
 IntKind.wrap IntKind.i64
 (Int.tdiv
 (IntKind.wrap IntKind.i64
 (Int.tdiv
 (IntKind.wrap IntKind.i64
 (IntKind.wrap IntKind.i64
 (IntKind.wrap IntKind.i64
 (IntKind.wrap IntKind.i64
 (IntKind.wrap IntKind.i64 (n + (719468 : Int)) -
 IntKind.wrap IntKind.i64
 ((146097 : Int) *
 IntKind.wrap IntKind.i64
 (IntKind.wrap IntKind.i64 (Int.tdiv (IntKind.wrap IntKind.i64 (n + (719468 : Int))) (146097 : Int)) -
 (1 : Int)))) -
 IntKind.wrap IntKind.i64
 (Int.tdiv
 (IntKind.wrap IntKind.i64
 (IntKind.wrap IntKind.i64 (n + (719468 : Int)) -
 IntKind.wrap IntKind.i64
 ((146097 : Int) *
 IntKind.wrap IntKind.i64
 (IntKind.wrap IntKind.i64
 (Int.tdiv (IntKind.wrap IntKind.i64 (n + (719468 : Int))) (146097 : Int)) -
 (1 : Int)))))
 (1460 : Int))) +
 IntKind.wrap IntKind.i64
 (Int.tdiv
 (IntKind.wrap IntKind.i64
 (IntKind.wrap IntKind.i64 (n + (719468 : Int)) -
 IntKind.wrap IntKind.i64
 ((146097 : Int) *
 IntKind.wrap IntKind.i64
 (IntKind.wrap IntKind.i64 (Int.tdiv (IntKind.wrap IntKind.i64 (n + (719468 : Int))) (146097 : Int)) -
 (1 : Int)))))
 (36524 : Int))) -
 IntKind.wrap IntKind.i64
 (Int.tdiv
 (IntKind.wrap IntKind.i64
 (IntKind.wrap IntKind.i64 (n + (719468 : Int)) -
 IntKind.wrap IntKind.i64
 ((146097 : Int) *
 IntKind.wrap IntKind.i64
 (IntKind.wrap IntKind.i64 (Int.tdiv (IntKind.wrap IntKind.i64 (n + (719468 : Int))) (146097 : Int)) -
 (1 : Int)))))
 (146096 : Int))))
 (365 : Int)))
 (100 : Int))))) +
 (2 : Int)))
 (153 : Int))) +
 (2 : Int)))
 (5 : Int))) +
 (1 : Int))) →
 K
 (Value.tuple
 (Array.mk
 [Value.agg (Array.mk [Value.int IntKind.i64 (Int.ofNat (0 : Nat)), Value.int IntKind.i64 (Int.ofNat (0 : Nat)), Value.int IntKind.i64 (Int.ofNat (0 : Nat))]),
 Value.bool Bool.false]))
 (10 : Nat)))
 ((dateOk
 (IntKind.wrap IntKind.i64
 (IntKind.wrap IntKind.i64
 ((400 : Int) * IntKind.wrap IntKind.i64 (IntKind.wrap IntKind.i64 (Int.tdiv (IntKind.wrap IntKind.i64 (n + (719468 : Int))) (146097 : Int)) - (1 : Int))) +
 IntKind.wrap IntKind.i64
 (Int.tdiv
 (IntKind.wrap IntKind.i64
 (IntKind.wrap IntKind.i64
 (IntKind.wrap IntKind.i64
 (IntKind.wrap IntKind.i64
 (IntKind.wrap IntKind.i64 (n + (719468 : Int)) -
 IntKind.wrap IntKind.i64
 ((146097 : Int) *
 IntKind.wrap IntKind.i64
 (IntKind.wrap IntKind.i64 (Int.tdiv (IntKind.wrap IntKind.i64 (n + (719468 : Int))) (146097 : Int)) - (1 : Int)))) -
 IntKind.wrap IntKind.i64
 (Int.tdiv
 (IntKind.wrap IntKind.i64
 (IntKind.wrap IntKind.i64 (n + (719468 : Int)) -
 IntKind.wrap IntKind.i64
 ((146097 : Int) *
 IntKind.wrap IntKind.i64
 (IntKind.wrap IntKind.i64 (Int.tdiv (IntKind.wrap IntKind.i64 (n + (719468 : Int))) (146097 : Int)) - (1 : Int)))))
 (1460 : Int))) +
 IntKind.wrap IntKind.i64
 (Int.tdiv
 (IntKind.wrap IntKind.i64
 (IntKind.wrap IntKind.i64 (n + (719468 : Int)) -
 IntKind.wrap IntKind.i64
 ((146097 : Int) *
 IntKind.wrap IntKind.i64 (IntKind.wrap IntKind.i64 (Int.tdiv (IntKind.wrap IntKind.i64 (n + (719468 : Int))) (146097 : Int)) - (1 : Int)))))
 (36524 : Int))) -
 IntKind.wrap IntKind.i64
 (Int.tdiv
 (IntKind.wrap IntKind.i64
 (IntKind.wrap IntKind.i64 (n + (719468 : Int)) -
 IntKind.wrap IntKind.i64
 ((146097 : Int) *
 IntKind.wrap IntKind.i64 (IntKind.wrap IntKind.i64 (Int.tdiv (IntKind.wrap IntKind.i64 (n + (719468 : Int))) (146097 : Int)) - (1 : Int)))))
 (146096 : Int))))
 (365 : Int))))
 (IntKind.wrap IntKind.i64
 (IntKind.wrap IntKind.i64
 (Int.tdiv
 (IntKind.wrap IntKind.i64
 (IntKind.wrap IntKind.i64
 ((5 : Int) *
 IntKind.wrap IntKind.i64
 (IntKind.wrap IntKind.i64
 (IntKind.wrap IntKind.i64 (n + (719468 : Int)) -
 IntKind.wrap IntKind.i64
 ((146097 : Int) *
 IntKind.wrap IntKind.i64
 (IntKind.wrap IntKind.i64 (Int.tdiv (IntKind.wrap IntKind.i64 (n + (719468 : Int))) (146097 : Int)) - (1 : Int)))) -
 IntKind.wrap IntKind.i64
 (IntKind.wrap IntKind.i64
 (IntKind.wrap IntKind.i64
 ((365 : Int) *
 IntKind.wrap IntKind.i64
 (Int.tdiv
 (IntKind.wrap IntKind.i64
 (IntKind.wrap IntKind.i64
 (IntKind.wrap IntKind.i64
 (IntKind.wrap IntKind.i64
 (IntKind.wrap IntKind.i64 (n + (719468 : Int)) -
 IntKind.wrap IntKind.i64
 ((146097 : Int) *
 IntKind.wrap IntKind.i64
 (IntKind.wrap IntKind.i64 (Int.tdiv (IntKind.wrap IntKind.i64 (n + (719468 : Int))) (146097 : Int)) - (1 : Int)))) -
 IntKind.wrap IntKind.i64
 (Int.tdiv
 (IntKind.wrap IntKind.i64
 (IntKind.wrap IntKind.i64 (n + (719468 : Int)) -
 IntKind.wrap IntKind.i64
 ((146097 : Int) *
 IntKind.wrap IntKind.i64
 (IntKind.wrap IntKind.i64 (Int.tdiv (IntKind.wrap IntKind.i64 (n + (719468 : Int))) (146097 : Int)) -
 (1 : Int)))))
 (1460 : Int))) +
 IntKind.wrap IntKind.i64
 (Int.tdiv
 (IntKind.wrap IntKind.i64
 (IntKind.wrap IntKind.i64 (n + (719468 : Int)) -
 IntKind.wrap IntKind.i64
 ((146097 : Int) *
 IntKind.wrap IntKind.i64
 (IntKind.wrap IntKind.i64 (Int.tdiv (IntKind.wrap IntKind.i64 (n + (719468 : Int))) (146097 : Int)) - (1 : Int)))))
 (36524 : Int))) -
 IntKind.wrap IntKind.i64
 (Int.tdiv
 (IntKind.wrap IntKind.i64
 (IntKind.wrap IntKind.i64 (n + (719468 : Int)) -
 IntKind.wrap IntKind.i64
 ((146097 : Int) *
 IntKind.wrap IntKind.i64
 (IntKind.wrap IntKind.i64 (Int.tdiv (IntKind.wrap IntKind.i64 (n + (719468 : Int))) (146097 : Int)) - (1 : Int)))))
 (146096 : Int))))
 (365 : Int))) +
 IntKind.wrap IntKind.i64
 (Int.tdiv
 (IntKind.wrap IntKind.i64
 (Int.tdiv
 (IntKind.wrap IntKind.i64
 (IntKind.wrap IntKind.i64
 (IntKind.wrap IntKind.i64
 (IntKind.wrap IntKind.i64
 (IntKind.wrap IntKind.i64 (n + (719468 : Int)) -
 IntKind.wrap IntKind.i64
 ((146097 : Int) *
 IntKind.wrap IntKind.i64
 (IntKind.wrap IntKind.i64 (Int.tdiv (IntKind.wrap IntKind.i64 (n + (719468 : Int))) (146097 : Int)) - (1 : Int)))) -
 IntKind.wrap IntKind.i64
 (Int.tdiv
 (IntKind.wrap IntKind.i64
 (IntKind.wrap IntKind.i64 (n + (719468 : Int)) -
 IntKind.wrap IntKind.i64
 ((146097 : Int) *
 IntKind.wrap IntKind.i64
 (IntKind.wrap IntKind.i64 (Int.tdiv (IntKind.wrap IntKind.i64 (n + (719468 : Int))) (146097 : Int)) -
 (1 : Int)))))
 (1460 : Int))) +
 IntKind.wrap IntKind.i64
 (Int.tdiv
 (IntKind.wrap IntKind.i64
 (IntKind.wrap IntKind.i64 (n + (719468 : Int)) -
 IntKind.wrap IntKind.i64
 ((146097 : Int) *
 IntKind.wrap IntKind.i64
 (IntKind.wrap IntKind.i64 (Int.tdiv (IntKind.wrap IntKind.i64 (n + (719468 : Int))) (146097 : Int)) - (1 : Int)))))
 (36524 : Int))) -
 IntKind.wrap IntKind.i64
 (Int.tdiv
 (IntKind.wrap IntKind.i64
 (IntKind.wrap IntKind.i64 (n + (719468 : Int)) -
 IntKind.wrap IntKind.i64
 ((146097 : Int) *
 IntKind.wrap IntKind.i64
 (IntKind.wrap IntKind.i64 (Int.tdiv (IntKind.wrap IntKind.i64 (n + (719468 : Int))) (146097 : Int)) - (1 : Int)))))
 (146096 : Int))))
 (365 : Int)))
 (4 : Int))) -
 IntKind.wrap IntKind.i64
 (Int.tdiv
 (IntKind.wrap IntKind.i64
 (Int.tdiv
 (IntKind.wrap IntKind.i64
 (IntKind.wrap IntKind.i64
 (IntKind.wrap IntKind.i64
 (IntKind.wrap IntKind.i64
 (IntKind.wrap IntKind.i64 (n + (719468 : Int)) -
 IntKind.wrap IntKind.i64
 ((146097 : Int) *
 IntKind.wrap IntKind.i64
 (IntKind.wrap IntKind.i64 (Int.tdiv (IntKind.wrap IntKind.i64 (n + (719468 : Int))) (146097 : Int)) - (1 : Int)))) -
 IntKind.wrap IntKind.i64
 (Int.tdiv
 (IntKind.wrap IntKind.i64
 (IntKind.wrap IntKind.i64 (n + (719468 : Int)) -
 IntKind.wrap IntKind.i64
 ((146097 : Int) *
 IntKind.wrap IntKind.i64
 (IntKind.wrap IntKind.i64 (Int.tdiv (IntKind.wrap IntKind.i64 (n + (719468 : Int))) (146097 : Int)) - (1 : Int)))))
 (1460 : Int))) +
 IntKind.wrap IntKind.i64
 (Int.tdiv
 (IntKind.wrap IntKind.i64
 (IntKind.wrap IntKind.i64 (n + (719468 : Int)) -
 IntKind.wrap IntKind.i64
 ((146097 : Int) *
 IntKind.wrap IntKind.i64
 (IntKind.wrap IntKind.i64 (Int.tdiv (IntKind.wrap IntKind.i64 (n + (719468 : Int))) (146097 : Int)) - (1 : Int)))))
 (36524 : Int))) -
 IntKind.wrap IntKind.i64
 (Int.tdiv
 (IntKind.wrap IntKind.i64
 (IntKind.wrap IntKind.i64 (n + (719468 : Int)) -
 IntKind.wrap IntKind.i64
 ((146097 : Int) *
 IntKind.wrap IntKind.i64
 (IntKind.wrap IntKind.i64 (Int.tdiv (IntKind.wrap IntKind.i64 (n + (719468 : Int))) (146097 : Int)) - (1 : Int)))))
 (146096 : Int))))
 (365 : Int)))
 (100 : Int))))) +
 (2 : Int)))
 (153 : Int)) +
 (3 : Int)))
 (IntKind.wrap IntKind.i64
 (IntKind.wrap IntKind.i64
 (IntKind.wrap IntKind.i64
 (IntKind.wrap IntKind.i64
 (IntKind.wrap IntKind.i64 (n + (719468 : Int)) -
 IntKind.wrap IntKind.i64
 ((146097 : Int) *
 IntKind.wrap IntKind.i64 (IntKind.wrap IntKind.i64 (Int.tdiv (IntKind.wrap IntKind.i64 (n + (719468 : Int))) (146097 : Int)) - (1 : Int)))) -
 IntKind.wrap IntKind.i64
 (IntKind.wrap IntKind.i64
 (IntKind.wrap IntKind.i64
 ((365 : Int) *
 IntKind.wrap IntKind.i64
 (Int.tdiv
 (IntKind.wrap IntKind.i64
 (IntKind.wrap IntKind.i64
 (IntKind.wrap IntKind.i64
 (IntKind.wrap IntKind.i64
 (IntKind.wrap IntKind.i64 (n + (719468 : Int)) -
 IntKind.wrap IntKind.i64
 ((146097 : Int) *
 IntKind.wrap IntKind.i64
 (IntKind.wrap IntKind.i64 (Int.tdiv (IntKind.wrap IntKind.i64 (n + (719468 : Int))) (146097 : Int)) - (1 : Int)))) -
 IntKind.wrap IntKind.i64
 (Int.tdiv
 (IntKind.wrap IntKind.i64
 (IntKind.wrap IntKind.i64 (n + (719468 : Int)) -
 IntKind.wrap IntKind.i64
 ((146097 : Int) *
 IntKind.wrap IntKind.i64
 (IntKind.wrap IntKind.i64 (Int.tdiv (IntKind.wrap IntKind.i64 (n + (719468 : Int))) (146097 : Int)) - (1 : Int)))))
 (1460 : Int))) +
 IntKind.wrap IntKind.i64
 (Int.tdiv
 (IntKind.wrap IntKind.i64
 (IntKind.wrap IntKind.i64 (n + (719468 : Int)) -
 IntKind.wrap IntKind.i64
 ((146097 : Int) *
 IntKind.wrap IntKind.i64
 (IntKind.wrap IntKind.i64 (Int.tdiv (IntKind.wrap IntKind.i64 (n + (719468 : Int))) (146097 : Int)) - (1 : Int)))))
 (36524 : Int))) -
 IntKind.wrap IntKind.i64
 (Int.tdiv
 (IntKind.wrap IntKind.i64
 (IntKind.wrap IntKind.i64 (n + (719468 : Int)) -
 IntKind.wrap IntKind.i64
 ((146097 : Int) *
 IntKind.wrap IntKind.i64
 (IntKind.wrap IntKind.i64 (Int.tdiv (IntKind.wrap IntKind.i64 (n + (719468 : Int))) (146097 : Int)) - (1 : Int)))))
 (146096 : Int))))
 (365 : Int))) +
 IntKind.wrap IntKind.i64
 (Int.tdiv
 (IntKind.wrap IntKind.i64
 (Int.tdiv
 (IntKind.wrap IntKind.i64
 (IntKind.wrap IntKind.i64
 (IntKind.wrap IntKind.i64
 (IntKind.wrap IntKind.i64
 (IntKind.wrap IntKind.i64 (n + (719468 : Int)) -
 IntKind.wrap IntKind.i64
 ((146097 : Int) *
 IntKind.wrap IntKind.i64
 (IntKind.wrap IntKind.i64 (Int.tdiv (IntKind.wrap IntKind.i64 (n + (719468 : Int))) (146097 : Int)) - (1 : Int)))) -
 IntKind.wrap IntKind.i64
 (Int.tdiv
 (IntKind.wrap IntKind.i64
 (IntKind.wrap IntKind.i64 (n + (719468 : Int)) -
 IntKind.wrap IntKind.i64
 ((146097 : Int) *
 IntKind.wrap IntKind.i64
 (IntKind.wrap IntKind.i64 (Int.tdiv (IntKind.wrap IntKind.i64 (n + (719468 : Int))) (146097 : Int)) - (1 : Int)))))
 (1460 : Int))) +
 IntKind.wrap IntKind.i64
 (Int.tdiv
 (IntKind.wrap IntKind.i64
 (IntKind.wrap IntKind.i64 (n + (719468 : Int)) -
 IntKind.wrap IntKind.i64
 ((146097 : Int) *
 IntKind.wrap IntKind.i64
 (IntKind.wrap IntKind.i64 (Int.tdiv (IntKind.wrap IntKind.i64 (n + (719468 : Int))) (146097 : Int)) - (1 : Int)))))
 (36524 : Int))) -
 IntKind.wrap IntKind.i64
 (Int.tdiv
 (IntKind.wrap IntKind.i64
 (IntKind.wrap IntKind.i64 (n + (719468 : Int)) -
 IntKind.wrap IntKind.i64
 ((146097 : Int) *
 IntKind.wrap IntKind.i64
 (IntKind.wrap IntKind.i64 (Int.tdiv (IntKind.wrap IntKind.i64 (n + (719468 : Int))) (146097 : Int)) - (1 : Int)))))
 (146096 : Int))))
 (365 : Int)))
 (4 : Int))) -
 IntKind.wrap IntKind.i64
 (Int.tdiv
 (IntKind.wrap IntKind.i64
 (Int.tdiv
 (IntKind.wrap IntKind.i64
 (IntKind.wrap IntKind.i64
 (IntKind.wrap IntKind.i64
 (IntKind.wrap IntKind.i64
 (IntKind.wrap IntKind.i64 (n + (719468 : Int)) -
 IntKind.wrap IntKind.i64
 ((146097 : Int) *
 IntKind.wrap IntKind.i64
 (IntKind.wrap IntKind.i64 (Int.tdiv (IntKind.wrap IntKind.i64 (n + (719468 : Int))) (146097 : Int)) - (1 : Int)))) -
 IntKind.wrap IntKind.i64
 (Int.tdiv
 (IntKind.wrap IntKind.i64
 (IntKind.wrap IntKind.i64 (n + (719468 : Int)) -
 IntKind.wrap IntKind.i64
 ((146097 : Int) *
 IntKind.wrap IntKind.i64
 (IntKind.wrap IntKind.i64 (Int.tdiv (IntKind.wrap IntKind.i64 (n + (719468 : Int))) (146097 : Int)) - (1 : Int)))))
 (1460 : Int))) +
 IntKind.wrap IntKind.i64
 (Int.tdiv
 (IntKind.wrap IntKind.i64
 (IntKind.wrap IntKind.i64 (n + (719468 : Int)) -
 IntKind.wrap IntKind.i64
 ((146097 : Int) *
 IntKind.wrap IntKind.i64
 (IntKind.wrap IntKind.i64 (Int.tdiv (IntKind.wrap IntKind.i64 (n + (719468 : Int))) (146097 : Int)) - (1 : Int)))))
 (36524 : Int))) -
 IntKind.wrap IntKind.i64
 (Int.tdiv
 (IntKind.wrap IntKind.i64
 (IntKind.wrap IntKind.i64 (n + (719468 : Int)) -
 IntKind.wrap IntKind.i64
 ((146097 : Int) *
 IntKind.wrap IntKind.i64
 (IntKind.wrap IntKind.i64 (Int.tdiv (IntKind.wrap IntKind.i64 (n + (719468 : Int))) (146097 : Int)) - (1 : Int)))))
 (146096 : Int))))
 (365 : Int)))
 (100 : Int)))) -
 IntKind.wrap IntKind.i64
 (Int.tdiv
 (IntKind.wrap IntKind.i64
 (IntKind.wrap IntKind.i64
 ((153 : Int) *
 IntKind.wrap IntKind.i64
 (Int.tdiv
 (IntKind.wrap IntKind.i64
 (IntKind.wrap IntKind.i64
 ((5 : Int) *
 IntKind.wrap IntKind.i64
 (IntKind.wrap IntKind.i64
 (IntKind.wrap IntKind.i64 (n + (719468 : Int)) -
 IntKind.wrap IntKind.i64
 ((146097 : Int) *
 IntKind.wrap IntKind.i64
 (IntKind.wrap IntKind.i64 (Int.tdiv (IntKind.wrap IntKind.i64 (n + (719468 : Int))) (146097 : Int)) - (1 : Int)))) -
 IntKind.wrap IntKind.i64
 (IntKind.wrap IntKind.i64
 (IntKind.wrap IntKind.i64
 ((365 : Int) *
 IntKind.wrap IntKind.i64
 (Int.tdiv
 (IntKind.wrap IntKind.i64
 (IntKind.wrap IntKind.i64
 (IntKind.wrap IntKind.i64
 (IntKind.wrap IntKind.i64
 (IntKind.wrap IntKind.i64 (n + (719468 : Int)) -
 IntKind.wrap IntKind.i64
 ((146097 : Int) *
 IntKind.wrap IntKind.i64
 (IntKind.wrap IntKind.i64
 (Int.tdiv (IntKind.wrap IntKind.i64 (n + (719468 : Int))) (146097 : Int)) -
 (1 : Int)))) -
 IntKind.wrap IntKind.i64
 (Int.tdiv
 (IntKind.wrap IntKind.i64
 (IntKind.wrap IntKind.i64 (n + (719468 : Int)) -
 IntKind.wrap IntKind.i64
 ((146097 : Int) *
 IntKind.wrap IntKind.i64
 (IntKind.wrap IntKind.i64
 (Int.tdiv (IntKind.wrap IntKind.i64 (n + (719468 : Int))) (146097 : Int)) -
 (1 : Int)))))
 (1460 : Int))) +
 IntKind.wrap IntKind.i64
 (Int.tdiv
 (IntKind.wrap IntKind.i64
 (IntKind.wrap IntKind.i64 (n + (719468 : Int)) -
 IntKind.wrap IntKind.i64
 ((146097 : Int) *
 IntKind.wrap IntKind.i64
 (IntKind.wrap IntKind.i64
 (Int.tdiv (IntKind.wrap IntKind.i64 (n + (719468 : Int))) (146097 : Int)) -
 (1 : Int)))))
 (36524 : Int))) -
 IntKind.wrap IntKind.i64
 (Int.tdiv
 (IntKind.wrap IntKind.i64
 (IntKind.wrap IntKind.i64 (n + (719468 : Int)) -
 IntKind.wrap IntKind.i64
 ((146097 : Int) *
 IntKind.wrap IntKind.i64
 (IntKind.wrap IntKind.i64 (Int.tdiv (IntKind.wrap IntKind.i64 (n + (719468 : Int))) (146097 : Int)) -
 (1 : Int)))))
 (146096 : Int))))
 (365 : Int))) +
 IntKind.wrap IntKind.i64
 (Int.tdiv
 (IntKind.wrap IntKind.i64
 (Int.tdiv
 (IntKind.wrap IntKind.i64
 (IntKind.wrap IntKind.i64
 (IntKind.wrap IntKind.i64
 (IntKind.wrap IntKind.i64
 (IntKind.wrap IntKind.i64 (n + (719468 : Int)) -
 IntKind.wrap IntKind.i64
 ((146097 : Int) *
 IntKind.wrap IntKind.i64
 (IntKind.wrap IntKind.i64
 (Int.tdiv (IntKind.wrap IntKind.i64 (n + (719468 : Int))) (146097 : Int)) -
 (1 : Int)))) -
 IntKind.wrap IntKind.i64
 (Int.tdiv
 (IntKind.wrap IntKind.i64
 (IntKind.wrap IntKind.i64 (n + (719468 : Int)) -
 IntKind.wrap IntKind.i64
 ((146097 : Int) *
 IntKind.wrap IntKind.i64
 (IntKind.wrap IntKind.i64
 (Int.tdiv (IntKind.wrap IntKind.i64 (n + (719468 : Int))) (146097 : Int)) -
 (1 : Int)))))
 (1460 : Int))) +
 IntKind.wrap IntKind.i64
 (Int.tdiv
 (IntKind.wrap IntKind.i64
 (IntKind.wrap IntKind.i64 (n + (719468 : Int)) -
 IntKind.wrap IntKind.i64
 ((146097 : Int) *
 IntKind.wrap IntKind.i64
 (IntKind.wrap IntKind.i64
 (Int.tdiv (IntKind.wrap IntKind.i64 (n + (719468 : Int))) (146097 : Int)) -
 (1 : Int)))))
 (36524 : Int))) -
 IntKind.wrap IntKind.i64
 (Int.tdiv
 (IntKind.wrap IntKind.i64
 (IntKind.wrap IntKind.i64 (n + (719468 : Int)) -
 IntKind.wrap IntKind.i64
 ((146097 : Int) *
 IntKind.wrap IntKind.i64
 (IntKind.wrap IntKind.i64 (Int.tdiv (IntKind.wrap IntKind.i64 (n + (719468 : Int))) (146097 : Int)) -
 (1 : Int)))))
 (146096 : Int))))
 (365 : Int)))
 (4 : Int))) -
 IntKind.wrap IntKind.i64
 (Int.tdiv
 (IntKind.wrap IntKind.i64
 (Int.tdiv
 (IntKind.wrap IntKind.i64
 (IntKind.wrap IntKind.i64
 (IntKind.wrap IntKind.i64
 (IntKind.wrap IntKind.i64
 (IntKind.wrap IntKind.i64 (n + (719468 : Int)) -
 IntKind.wrap IntKind.i64
 ((146097 : Int) *
 IntKind.wrap IntKind.i64
 (IntKind.wrap IntKind.i64 (Int.tdiv (IntKind.wrap IntKind.i64 (n + (719468 : Int))) (146097 : Int)) -
 (1 : Int)))) -
 IntKind.wrap IntKind.i64
 (Int.tdiv
 (IntKind.wrap IntKind.i64
 (IntKind.wrap IntKind.i64 (n + (719468 : Int)) -
 IntKind.wrap IntKind.i64
 ((146097 : Int) *
 IntKind.wrap IntKind.i64
 (IntKind.wrap IntKind.i64
 (Int.tdiv (IntKind.wrap IntKind.i64 (n + (719468 : Int))) (146097 : Int)) -
 (1 : Int)))))
 (1460 : Int))) +
 IntKind.wrap IntKind.i64
 (Int.tdiv
 (IntKind.wrap IntKind.i64
 (IntKind.wrap IntKind.i64 (n + (719468 : Int)) -
 IntKind.wrap IntKind.i64
 ((146097 : Int) *
 IntKind.wrap IntKind.i64
 (IntKind.wrap IntKind.i64 (Int.tdiv (IntKind.wrap IntKind.i64 (n + (719468 : Int))) (146097 : Int)) -
 (1 : Int)))))
 (36524 : Int))) -
 IntKind.wrap IntKind.i64
 (Int.tdiv
 (IntKind.wrap IntKind.i64
 (IntKind.wrap IntKind.i64 (n + (719468 : Int)) -
 IntKind.wrap IntKind.i64
 ((146097 : Int) *
 IntKind.wrap IntKind.i64
 (IntKind.wrap IntKind.i64 (Int.tdiv (IntKind.wrap IntKind.i64 (n + (719468 : Int))) (146097 : Int)) -
 (1 : Int)))))
 (146096 : Int))))
 (365 : Int)))
 (100 : Int))))) +
 (2 : Int)))
 (153 : Int))) +
 (2 : Int)))
 (5 : Int))) +
 (1 : Int))) →
 K
 (Value.tuple
 (Array.mk
 [Value.agg
 (Array.mk
 [Value.int IntKind.i64
 (IntKind.wrap IntKind.i64
 (IntKind.wrap IntKind.i64
 ((400 : Int) *
 IntKind.wrap IntKind.i64 (IntKind.wrap IntKind.i64 (Int.tdiv (IntKind.wrap IntKind.i64 (n + (719468 : Int))) (146097 : Int)) - (1 : Int))) +
 IntKind.wrap IntKind.i64
 (Int.tdiv
 (IntKind.wrap IntKind.i64
 (IntKind.wrap IntKind.i64
 (IntKind.wrap IntKind.i64
 (IntKind.wrap IntKind.i64
 (IntKind.wrap IntKind.i64 (n + (719468 : Int)) -
 IntKind.wrap IntKind.i64
 ((146097 : Int) *
 IntKind.wrap IntKind.i64
 (IntKind.wrap IntKind.i64 (Int.tdiv (IntKind.wrap IntKind.i64 (n + (719468 : Int))) (146097 : Int)) - (1 : Int)))) -
 IntKind.wrap IntKind.i64
 (Int.tdiv
 (IntKind.wrap IntKind.i64
 (IntKind.wrap IntKind.i64 (n + (719468 : Int)) -
 IntKind.wrap IntKind.i64
 ((146097 : Int) *
 IntKind.wrap IntKind.i64
 (IntKind.wrap IntKind.i64 (Int.tdiv (IntKind.wrap IntKind.i64 (n + (719468 : Int))) (146097 : Int)) - (1 : Int)))))
 (1460 : Int))) +
 IntKind.wrap IntKind.i64
 (Int.tdiv
 (IntKind.wrap IntKind.i64
 (IntKind.wrap IntKind.i64 (n + (719468 : Int)) -
 IntKind.wrap IntKind.i64
 ((146097 : Int) *
 IntKind.wrap IntKind.i64
 (IntKind.wrap IntKind.i64 (Int.tdiv (IntKind.wrap IntKind.i64 (n + (719468 : Int))) (146097 : Int)) - (1 : Int)))))
 (36524 : Int))) -
 IntKind.wrap IntKind.i64
 (Int.tdiv
 (IntKind.wrap IntKind.i64
 (IntKind.wrap IntKind.i64 (n + (719468 : Int)) -
 IntKind.wrap IntKind.i64
 ((146097 : Int) *
 IntKind.wrap IntKind.i64
 (IntKind.wrap IntKind.i64 (Int.tdiv (IntKind.wrap IntKind.i64 (n + (719468 : Int))) (146097 : Int)) - (1 : Int)))))
 (146096 : Int))))
 (365 : Int)))),
 Value.int IntKind.i64
 (IntKind.wrap IntKind.i64
 (IntKind.wrap IntKind.i64
 (Int.tdiv
 (IntKind.wrap IntKind.i64
 (IntKind.wrap IntKind.i64
 ((5 : Int) *
 IntKind.wrap IntKind.i64
 (IntKind.wrap IntKind.i64
 (IntKind.wrap IntKind.i64 (n + (719468 : Int)) -
 IntKind.wrap IntKind.i64
 ((146097 : Int) *
 IntKind.wrap IntKind.i64
 (IntKind.wrap IntKind.i64 (Int.tdiv (IntKind.wrap IntKind.i64 (n + (719468 : Int))) (146097 : Int)) - (1 : Int)))) -
 IntKind.wrap IntKind.i64
 (IntKind.wrap IntKind.i64
 (IntKind.wrap IntKind.i64
 ((365 : Int) *
 IntKind.wrap IntKind.i64
 (Int.tdiv
 (IntKind.wrap IntKind.i64
 (IntKind.wrap IntKind.i64
 (IntKind.wrap IntKind.i64
 (IntKind.wrap IntKind.i64
 (IntKind.wrap IntKind.i64 (n + (719468 : Int)) -
 IntKind.wrap IntKind.i64
 ((146097 : Int) *
 IntKind.wrap IntKind.i64
 (IntKind.wrap IntKind.i64 (Int.tdiv (IntKind.wrap IntKind.i64 (n + (719468 : Int))) (146097 : Int)) -
 (1 : Int)))) -
 IntKind.wrap IntKind.i64
 (Int.tdiv
 (IntKind.wrap IntKind.i64
 (IntKind.wrap IntKind.i64 (n + (719468 : Int)) -
 IntKind.wrap IntKind.i64
 ((146097 : Int) *
 IntKind.wrap IntKind.i64
 (IntKind.wrap IntKind.i64
 (Int.tdiv (IntKind.wrap IntKind.i64 (n + (719468 : Int))) (146097 : Int)) -
 (1 : Int)))))
 (1460 : Int))) +
 IntKind.wrap IntKind.i64
 (Int.tdiv
 (IntKind.wrap IntKind.i64
 (IntKind.wrap IntKind.i64 (n + (719468 : Int)) -
 IntKind.wrap IntKind.i64
 ((146097 : Int) *
 IntKind.wrap IntKind.i64
 (IntKind.wrap IntKind.i64 (Int.tdiv (IntKind.wrap IntKind.i64 (n + (719468 : Int))) (146097 : Int)) -
 (1 : Int)))))
 (36524 : Int))) -
 IntKind.wrap IntKind.i64
 (Int.tdiv
 (IntKind.wrap IntKind.i64
 (IntKind.wrap IntKind.i64 (n + (719468 : Int)) -
 IntKind.wrap IntKind.i64
 ((146097 : Int) *
 IntKind.wrap IntKind.i64
 (IntKind.wrap IntKind.i64 (Int.tdiv (IntKind.wrap IntKind.i64 (n + (719468 : Int))) (146097 : Int)) -
 (1 : Int)))))
 (146096 : Int))))
 (365 : Int))) +
 IntKind.wrap IntKind.i64
 (Int.tdiv
 (IntKind.wrap IntKind.i64
 (Int.tdiv
 (IntKind.wrap IntKind.i64
 (IntKind.wrap IntKind.i64
 (IntKind.wrap IntKind.i64
 (IntKind.wrap IntKind.i64
 (IntKind.wrap IntKind.i64 (n + (719468 : Int)) -
 IntKind.wrap IntKind.i64
 ((146097 : Int) *
 IntKind.wrap IntKind.i64
 (IntKind.wrap IntKind.i64 (Int.tdiv (IntKind.wrap IntKind.i64 (n + (719468 : Int))) (146097 : Int)) -
 (1 : Int)))) -
 IntKind.wrap IntKind.i64
 (Int.tdiv
 (IntKind.wrap IntKind.i64
 (IntKind.wrap IntKind.i64 (n + (719468 : Int)) -
 IntKind.wrap IntKind.i64
 ((146097 : Int) *
 IntKind.wrap IntKind.i64
 (IntKind.wrap IntKind.i64
 (Int.tdiv (IntKind.wrap IntKind.i64 (n + (719468 : Int))) (146097 : Int)) -
 (1 : Int)))))
 (1460 : Int))) +
 IntKind.wrap IntKind.i64
 (Int.tdiv
 (IntKind.wrap IntKind.i64
 (IntKind.wrap IntKind.i64 (n + (719468 : Int)) -
 IntKind.wrap IntKind.i64
 ((146097 : Int) *
 IntKind.wrap IntKind.i64
 (IntKind.wrap IntKind.i64 (Int.tdiv (IntKind.wrap IntKind.i64 (n + (719468 : Int))) (146097 : Int)) -
 (1 : Int)))))
 (36524 : Int))) -
 IntKind.wrap IntKind.i64
 (Int.tdiv
 (IntKind.wrap IntKind.i64
 (IntKind.wrap IntKind.i64 (n + (719468 : Int)) -
 IntKind.wrap IntKind.i64
 ((146097 : Int) *
 IntKind.wrap IntKind.i64
 (IntKind.wrap IntKind.i64 (Int.tdiv (IntKind.wrap IntKind.i64 (n + (719468 : Int))) (146097 : Int)) -
 (1 : Int)))))
 (146096 : Int))))
 (365 : Int)))
 (4 : Int))) -
 IntKind.wrap IntKind.i64
 (Int.tdiv
 (IntKind.wrap IntKind.i64
 (Int.tdiv
 (IntKind.wrap IntKind.i64
 (IntKind.wrap IntKind.i64
 (IntKind.wrap IntKind.i64
 (IntKind.wrap IntKind.i64
 (IntKind.wrap IntKind.i64 (n + (719468 : Int)) -
 IntKind.wrap IntKind.i64
 ((146097 : Int) *
 IntKind.wrap IntKind.i64
 (IntKind.wrap IntKind.i64 (Int.tdiv (IntKind.wrap IntKind.i64 (n + (719468 : Int))) (146097 : Int)) -
 (1 : Int)))) -
 IntKind.wrap IntKind.i64
 (Int.tdiv
 (IntKind.wrap IntKind.i64
 (IntKind.wrap IntKind.i64 (n + (719468 : Int)) -
 IntKind.wrap IntKind.i64
 ((146097 : Int) *
 IntKind.wrap IntKind.i64
 (IntKind.wrap IntKind.i64 (Int.tdiv (IntKind.wrap IntKind.i64 (n + (719468 : Int))) (146097 : Int)) -
 (1 : Int)))))
 (1460 : Int))) +
 IntKind.wrap IntKind.i64
 (Int.tdiv
 (IntKind.wrap IntKind.i64
 (IntKind.wrap IntKind.i64 (n + (719468 : Int)) -
 IntKind.wrap IntKind.i64
 ((146097 : Int) *
 IntKind.wrap IntKind.i64
 (IntKind.wrap IntKind.i64 (Int.tdiv (IntKind.wrap IntKind.i64 (n + (719468 : Int))) (146097 : Int)) -
 (1 : Int)))))
 (36524 : Int))) -
 IntKind.wrap IntKind.i64
 (Int.tdiv
 (IntKind.wrap IntKind.i64
 (IntKind.wrap IntKind.i64 (n + (719468 : Int)) -
 IntKind.wrap IntKind.i64
 ((146097 : Int) *
 IntKind.wrap IntKind.i64
 (IntKind.wrap IntKind.i64 (Int.tdiv (IntKind.wrap IntKind.i64 (n + (719468 : Int))) (146097 : Int)) -
 (1 : Int)))))
 (146096 : Int))))
 (365 : Int)))
 (100 : Int))))) +
 (2 : Int)))
 (153 : Int)) +
 (3 : Int))),
 Value.int IntKind.i64
 (IntKind.wrap IntKind.i64
 (IntKind.wrap IntKind.i64
 (IntKind.wrap IntKind.i64
 (IntKind.wrap IntKind.i64
 (IntKind.wrap IntKind.i64 (n + (719468 : Int)) -
 IntKind.wrap IntKind.i64
 ((146097 : Int) *
 IntKind.wrap IntKind.i64
 (IntKind.wrap IntKind.i64 (Int.tdiv (IntKind.wrap IntKind.i64 (n + (719468 : Int))) (146097 : Int)) - (1 : Int)))) -
 IntKind.wrap IntKind.i64
 (IntKind.wrap IntKind.i64
 (IntKind.wrap IntKind.i64
 ((365 : Int) *
 IntKind.wrap IntKind.i64
 (Int.tdiv
 (IntKind.wrap IntKind.i64
 (IntKind.wrap IntKind.i64
 (IntKind.wrap IntKind.i64
 (IntKind.wrap IntKind.i64
 (IntKind.wrap IntKind.i64 (n + (719468 : Int)) -
 IntKind.wrap IntKind.i64
 ((146097 : Int) *
 IntKind.wrap IntKind.i64
 (IntKind.wrap IntKind.i64 (Int.tdiv (IntKind.wrap IntKind.i64 (n + (719468 : Int))) (146097 : Int)) -
 (1 : Int)))) -
 IntKind.wrap IntKind.i64
 (Int.tdiv
 (IntKind.wrap IntKind.i64
 (IntKind.wrap IntKind.i64 (n + (719468 : Int)) -
 IntKind.wrap IntKind.i64
 ((146097 : Int) *
 IntKind.wrap IntKind.i64
 (IntKind.wrap IntKind.i64 (Int.tdiv (IntKind.wrap IntKind.i64 (n + (719468 : Int))) (146097 : Int)) -
 (1 : Int)))))
 (1460 : Int))) +
 IntKind.wrap IntKind.i64
 (Int.tdiv
 (IntKind.wrap IntKind.i64
 (IntKind.wrap IntKind.i64 (n + (719468 : Int)) -
 IntKind.wrap IntKind.i64
 ((146097 : Int) *
 IntKind.wrap IntKind.i64
 (IntKind.wrap IntKind.i64 (Int.tdiv (IntKind.wrap IntKind.i64 (n + (719468 : Int))) (146097 : Int)) -
 (1 : Int)))))
 (36524 : Int))) -
 IntKind.wrap IntKind.i64
 (Int.tdiv
 (IntKind.wrap IntKind.i64
 (IntKind.wrap IntKind.i64 (n + (719468 : Int)) -
 IntKind.wrap IntKind.i64
 ((146097 : Int) *
 IntKind.wrap IntKind.i64
 (IntKind.wrap IntKind.i64 (Int.tdiv (IntKind.wrap IntKind.i64 (n + (719468 : Int))) (146097 : Int)) -
 (1 : Int)))))
 (146096 : Int))))
 (365 : Int))) +
 IntKind.wrap IntKind.i64
 (Int.tdiv
 (IntKind.wrap IntKind.i64
 (Int.tdiv
 (IntKind.wrap IntKind.i64
 (IntKind.wrap IntKind.i64
 (IntKind.wrap IntKind.i64
 (IntKind.wrap IntKind.i64
 (IntKind.wrap IntKind.i64 (n + (719468 : Int)) -
 IntKind.wrap IntKind.i64
 ((146097 : Int) *
 IntKind.wrap IntKind.i64
 (IntKind.wrap IntKind.i64 (Int.tdiv (IntKind.wrap IntKind.i64 (n + (719468 : Int))) (146097 : Int)) -
 (1 : Int)))) -
 IntKind.wrap IntKind.i64
 (Int.tdiv
 (IntKind.wrap IntKind.i64
 (IntKind.wrap IntKind.i64 (n + (719468 : Int)) -
 IntKind.wrap IntKind.i64
 ((146097 : Int) *
 IntKind.wrap IntKind.i64
 (IntKind.wrap IntKind.i64 (Int.tdiv (IntKind.wrap IntKind.i64 (n + (719468 : Int))) (146097 : Int)) -
 (1 : Int)))))
 (1460 : Int))) +
 IntKind.wrap IntKind.i64
 (Int.tdiv
 (IntKind.wrap IntKind.i64
 (IntKind.wrap IntKind.i64 (n + (719468 : Int)) -
 IntKind.wrap IntKind.i64
 ((146097 : Int) *
 IntKind.wrap IntKind.i64
 (IntKind.wrap IntKind.i64 (Int.tdiv (IntKind.wrap IntKind.i64 (n + (719468 : Int))) (146097 : Int)) -
 (1 : Int)))))
 (36524 : Int))) -
 IntKind.wrap IntKind.i64
 (Int.tdiv
 (IntKind.wrap IntKind.i64
 (IntKind.wrap IntKind.i64 (n + (719468 : Int)) -
 IntKind.wrap IntKind.i64
 ((146097 : Int) *
 IntKind.wrap IntKind.i64
 (IntKind.wrap IntKind.i64 (Int.tdiv (IntKind.wrap IntKind.i64 (n + (719468 : Int))) (146097 : Int)) -
 (1 : Int)))))
 (146096 : Int))))
 (365 : Int)))
 (4 : Int))) -
 IntKind.wrap IntKind.i64
 (Int.tdiv
 (IntKind.wrap IntKind.i64
 (Int.tdiv
 (IntKind.wrap IntKind.i64
 (IntKind.wrap IntKind.i64
 (IntKind.wrap IntKind.i64
 (IntKind.wrap IntKind.i64
 (IntKind.wrap IntKind.i64 (n + (719468 : Int)) -
 IntKind.wrap IntKind.i64
 ((146097 : Int) *
 IntKind.wrap IntKind.i64
 (IntKind.wrap IntKind.i64 (Int.tdiv (IntKind.wrap IntKind.i64 (n + (719468 : Int))) (146097 : Int)) -
 (1 : Int)))) -
 IntKind.wrap IntKind.i64
 (Int.tdiv
 (IntKind.wrap IntKind.i64
 (IntKind.wrap IntKind.i64 (n + (719468 : Int)) -
 IntKind.wrap IntKind.i64
 ((146097 : Int) *
 IntKind.wrap IntKind.i64
 (IntKind.wrap IntKind.i64 (Int.tdiv (IntKind.wrap IntKind.i64 (n + (719468 : Int))) (146097 : Int)) -
 (1 : Int)))))
 (1460 : Int))) +
 IntKind.wrap IntKind.i64
 (Int.tdiv
 (IntKind.wrap IntKind.i64
 (IntKind.wrap IntKind.i64 (n + (719468 : Int)) -
 IntKind.wrap IntKind.i64
 ((146097 : Int) *
 IntKind.wrap IntKind.i64
 (IntKind.wrap IntKind.i64 (Int.tdiv (IntKind.wrap IntKind.i64 (n + (719468 : Int))) (146097 : Int)) -
 (1 : Int)))))
 (36524 : Int))) -
 IntKind.wrap IntKind.i64
 (Int.tdiv
 (IntKind.wrap IntKind.i64
 (IntKind.wrap IntKind.i64 (n + (719468 : Int)) -
 IntKind.wrap IntKind.i64
 ((146097 : Int) *
 IntKind.wrap IntKind.i64
 (IntKind.wrap IntKind.i64 (Int.tdiv (IntKind.wrap IntKind.i64 (n + (719468 : Int))) (146097 : Int)) - (1 : Int)))))
 (146096 : Int))))
 (365 : Int)))
 (100 : Int)))) -
 IntKind.wrap IntKind.i64
 (Int.tdiv
 (IntKind.wrap IntKind.i64
 (IntKind.wrap IntKind.i64
 ((153 : Int) *
 IntKind.wrap IntKind.i64
 (Int.tdiv
 (IntKind.wrap IntKind.i64
 (IntKind.wrap IntKind.i64
 ((5 : Int) *
 IntKind.wrap IntKind.i64
 (IntKind.wrap IntKind.i64
 (IntKind.wrap IntKind.i64 (n + (719468 : Int)) -
 IntKind.wrap IntKind.i64
 ((146097 : Int) *
 IntKind.wrap IntKind.i64
 (IntKind.wrap IntKind.i64 (Int.tdiv (IntKind.wrap IntKind.i64 (n + (719468 : Int))) (146097 : Int)) -
 (1 : Int)))) -
 IntKind.wrap IntKind.i64
 (IntKind.wrap IntKind.i64
 (IntKind.wrap IntKind.i64
 ((365 : Int) *
 IntKind.wrap IntKind.i64
 (Int.tdiv
 (IntKind.wrap IntKind.i64
 (IntKind.wrap IntKind.i64
 (IntKind.wrap IntKind.i64
 (IntKind.wrap IntKind.i64
 (IntKind.wrap IntKind.i64 (n + (719468 : Int)) -
 IntKind.wrap IntKind.i64
 ((146097 : Int) *
 IntKind.wrap IntKind.i64
 (IntKind.wrap IntKind.i64
 (Int.tdiv (IntKind.wrap IntKind.i64 (n + (719468 : Int))) (146097 : Int)) -
 (1 : Int)))) -
 IntKind.wrap IntKind.i64
 (Int.tdiv
 (IntKind.wrap IntKind.i64
 (IntKind.wrap IntKind.i64 (n + (719468 : Int)) -
 IntKind.wrap IntKind.i64
 ((146097 : Int) *
 IntKind.wrap IntKind.i64
 (IntKind.wrap IntKind.i64
 (Int.tdiv (IntKind.wrap IntKind.i64 (n + (719468 : Int))) (146097 : Int)) -
 (1 : Int)))))
 (1460 : Int))) +
 IntKind.wrap IntKind.i64
 (Int.tdiv
 (IntKind.wrap IntKind.i64
 (IntKind.wrap IntKind.i64 (n + (719468 : Int)) -
 IntKind.wrap IntKind.i64
 ((146097 : Int) *
 IntKind.wrap IntKind.i64
 (IntKind.wrap IntKind.i64
 (Int.tdiv (IntKind.wrap IntKind.i64 (n + (719468 : Int))) (146097 : Int)) -
 (1 : Int)))))
 (36524 : Int))) -
 IntKind.wrap IntKind.i64
 (Int.tdiv
 (IntKind.wrap IntKind.i64
 (IntKind.wrap IntKind.i64 (n + (719468 : Int)) -
 IntKind.wrap IntKind.i64
 ((146097 : Int) *
 IntKind.wrap IntKind.i64
 (IntKind.wrap IntKind.i64
 (Int.tdiv (IntKind.wrap IntKind.i64 (n + (719468 : Int))) (146097 : Int)) -
 (1 : Int)))))
 (146096 : Int))))
 (365 : Int))) +
 IntKind.wrap IntKind.i64
 (Int.tdiv
 (IntKind.wrap IntKind.i64
 (Int.tdiv
 (IntKind.wrap IntKind.i64
 (IntKind.wrap IntKind.i64
 (IntKind.wrap IntKind.i64
 (IntKind.wrap IntKind.i64
 (IntKind.wrap IntKind.i64 (n + (719468 : Int)) -
 IntKind.wrap IntKind.i64
 ((146097 : Int) *
 IntKind.wrap IntKind.i64
 (IntKind.wrap IntKind.i64
 (Int.tdiv (IntKind.wrap IntKind.i64 (n + (719468 : Int))) (146097 : Int)) -
 (1 : Int)))) -
 IntKind.wrap IntKind.i64
 (Int.tdiv
 (IntKind.wrap IntKind.i64
 (IntKind.wrap IntKind.i64 (n + (719468 : Int)) -
 IntKind.wrap IntKind.i64
 ((146097 : Int) *
 IntKind.wrap IntKind.i64
 (IntKind.wrap IntKind.i64
 (Int.tdiv (IntKind.wrap IntKind.i64 (n + (719468 : Int))) (146097 : Int)) -
 (1 : Int)))))
 (1460 : Int))) +
 IntKind.wrap IntKind.i64
 (Int.tdiv
 (IntKind.wrap IntKind.i64
 (IntKind.wrap IntKind.i64 (n + (719468 : Int)) -
 IntKind.wrap IntKind.i64
 ((146097 : Int) *
 IntKind.wrap IntKind.i64
 (IntKind.wrap IntKind.i64
 (Int.tdiv (IntKind.wrap IntKind.i64 (n + (719468 : Int))) (146097 : Int)) -
 (1 : Int)))))
 (36524 : Int))) -
 IntKind.wrap IntKind.i64
 (Int.tdiv
 (IntKind.wrap IntKind.i64
 (IntKind.wrap IntKind.i64 (n + (719468 : Int)) -
 IntKind.wrap IntKind.i64
 ((146097 : Int) *
 IntKind.wrap IntKind.i64
 (IntKind.wrap IntKind.i64
 (Int.tdiv (IntKind.wrap IntKind.i64 (n + (719468 : Int))) (146097 : Int)) -
 (1 : Int)))))
 (146096 : Int))))
 (365 : Int)))
 (4 : Int))) -
 IntKind.wrap IntKind.i64
 (Int.tdiv
 (IntKind.wrap IntKind.i64
 (Int.tdiv
 (IntKind.wrap IntKind.i64
 (IntKind.wrap IntKind.i64
 (IntKind.wrap IntKind.i64
 (IntKind.wrap IntKind.i64
 (IntKind.wrap IntKind.i64 (n + (719468 : Int)) -
 IntKind.wrap IntKind.i64
 ((146097 : Int) *
 IntKind.wrap IntKind.i64
 (IntKind.wrap IntKind.i64
 (Int.tdiv (IntKind.wrap IntKind.i64 (n + (719468 : Int))) (146097 : Int)) -
 (1 : Int)))) -
 IntKind.wrap IntKind.i64
 (Int.tdiv
 (IntKind.wrap IntKind.i64
 (IntKind.wrap IntKind.i64 (n + (719468 : Int)) -
 IntKind.wrap IntKind.i64
 ((146097 : Int) *
 IntKind.wrap IntKind.i64
 (IntKind.wrap IntKind.i64
 (Int.tdiv (IntKind.wrap IntKind.i64 (n + (719468 : Int))) (146097 : Int)) -
 (1 : Int)))))
 (1460 : Int))) +
 IntKind.wrap IntKind.i64
 (Int.tdiv
 (IntKind.wrap IntKind.i64
 (IntKind.wrap IntKind.i64 (n + (719468 : Int)) -
 IntKind.wrap IntKind.i64
 ((146097 : Int) *
 IntKind.wrap IntKind.i64
 (IntKind.wrap IntKind.i64
 (Int.tdiv (IntKind.wrap IntKind.i64 (n + (719468 : Int))) (146097 : Int)) -
 (1 : Int)))))
 (36524 : Int))) -
 IntKind.wrap IntKind.i64
 (Int.tdiv
 (IntKind.wrap IntKind.i64
 (IntKind.wrap IntKind.i64 (n + (719468 : Int)) -
 IntKind.wrap IntKind.i64
 ((146097 : Int) *
 IntKind.wrap IntKind.i64
 (IntKind.wrap IntKind.i64
 (Int.tdiv (IntKind.wrap IntKind.i64 (n + (719468 : Int))) (146097 : Int)) -
 (1 : Int)))))
 (146096 : Int))))
 (365 : Int)))
 (100 : Int))))) +
 (2 : Int)))
 (153 : Int))) +
 (2 : Int)))
 (5 : Int))) +
 (1 : Int)))]),
 Value.bool Bool.true]))
 (10 : Nat)) ∧
 (¬dateOk
 (IntKind.wrap IntKind.i64
 (IntKind.wrap IntKind.i64
 ((400 : Int) * IntKind.wrap IntKind.i64 (IntKind.wrap IntKind.i64 (Int.tdiv (IntKind.wrap IntKind.i64 (n + (719468 : Int))) (146097 : Int)) - (1 : Int))) +
 IntKind.wrap IntKind.i64
 (Int.tdiv
 (IntKind.wrap IntKind.i64
 (IntKind.wrap IntKind.i64
 (IntKind.wrap IntKind.i64
 (IntKind.wrap IntKind.i64
 (IntKind.wrap IntKind.i64 (n + (719468 : Int)) -
 IntKind.wrap IntKind.i64
 ((146097 : Int) *
 IntKind.wrap IntKind.i64
 (IntKind.wrap IntKind.i64 (Int.tdiv (IntKind.wrap IntKind.i64 (n + (719468 : Int))) (146097 : Int)) - (1 : Int)))) -
 IntKind.wrap IntKind.i64
 (Int.tdiv
 (IntKind.wrap IntKind.i64
 (IntKind.wrap IntKind.i64 (n + (719468 : Int)) -
 IntKind.wrap IntKind.i64
 ((146097 : Int) *
 IntKind.wrap IntKind.i64
 (IntKind.wrap IntKind.i64 (Int.tdiv (IntKind.wrap IntKind.i64 (n + (719468 : Int))) (146097 : Int)) - (1 : Int)))))
 (1460 : Int))) +
 IntKind.wrap IntKind.i64
 (Int.tdiv
 (IntKind.wrap IntKind.i64
 (IntKind.wrap IntKind.i64 (n + (719468 : Int)) -
 IntKind.wrap IntKind.i64
 ((146097 : Int) *
 IntKind.wrap IntKind.i64
 (IntKind.wrap IntKind.i64 (Int.tdiv (IntKind.wrap IntKind.i64 (n + (719468 : Int))) (146097 : Int)) - (1 : Int)))))
 (36524 : Int))) -
 IntKind.wrap IntKind.i64
 (Int.tdiv
 (IntKind.wrap IntKind.i64
 (IntKind.wrap IntKind.i64 (n + (719468 : Int)) -
 IntKind.wrap IntKind.i64
 ((146097 : Int) *
 IntKind.wrap IntKind.i64 (IntKind.wrap IntKind.i64 (Int.tdiv (IntKind.wrap IntKind.i64 (n + (719468 : Int))) (146097 : Int)) - (1 : Int)))))
 (146096 : Int))))
 (365 : Int))))
 (IntKind.wrap IntKind.i64
 (IntKind.wrap IntKind.i64
 (Int.tdiv
 (IntKind.wrap IntKind.i64
 (IntKind.wrap IntKind.i64
 ((5 : Int) *
 IntKind.wrap IntKind.i64
 (IntKind.wrap IntKind.i64
 (IntKind.wrap IntKind.i64 (n + (719468 : Int)) -
 IntKind.wrap IntKind.i64
 ((146097 : Int) *
 IntKind.wrap IntKind.i64
 (IntKind.wrap IntKind.i64 (Int.tdiv (IntKind.wrap IntKind.i64 (n + (719468 : Int))) (146097 : Int)) - (1 : Int)))) -
 IntKind.wrap IntKind.i64
 (IntKind.wrap IntKind.i64
 (IntKind.wrap IntKind.i64
 ((365 : Int) *
 IntKind.wrap IntKind.i64
 (Int.tdiv
 (IntKind.wrap IntKind.i64
 (IntKind.wrap IntKind.i64
 (IntKind.wrap IntKind.i64
 (IntKind.wrap IntKind.i64
 (IntKind.wrap IntKind.i64 (n + (719468 : Int)) -
 IntKind.wrap IntKind.i64
 ((146097 : Int) *
 IntKind.wrap IntKind.i64
 (IntKind.wrap IntKind.i64 (Int.tdiv (IntKind.wrap IntKind.i64 (n + (719468 : Int))) (146097 : Int)) -
 (1 : Int)))) -
 IntKind.wrap IntKind.i64
 (Int.tdiv
 (IntKind.wrap IntKind.i64
 (IntKind.wrap IntKind.i64 (n + (719468 : Int)) -
 IntKind.wrap IntKind.i64
 ((146097 : Int) *
 IntKind.wrap IntKind.i64
 (IntKind.wrap IntKind.i64 (Int.tdiv (IntKind.wrap IntKind.i64 (n + (719468 : Int))) (146097 : Int)) -
 (1 : Int)))))
 (1460 : Int))) +
 IntKind.wrap IntKind.i64
 (Int.tdiv
 (IntKind.wrap IntKind.i64
 (IntKind.wrap IntKind.i64 (n + (719468 : Int)) -
 IntKind.wrap IntKind.i64
 ((146097 : Int) *
 IntKind.wrap IntKind.i64
 (IntKind.wrap IntKind.i64 (Int.tdiv (IntKind.wrap IntKind.i64 (n + (719468 : Int))) (146097 : Int)) -
 (1 : Int)))))
 (36524 : Int))) -
 IntKind.wrap IntKind.i64
 (Int.tdiv
 (IntKind.wrap IntKind.i64
 (IntKind.wrap IntKind.i64 (n + (719468 : Int)) -
 IntKind.wrap IntKind.i64
 ((146097 : Int) *
 IntKind.wrap IntKind.i64
 (IntKind.wrap IntKind.i64 (Int.tdiv (IntKind.wrap IntKind.i64 (n + (719468 : Int))) (146097 : Int)) - (1 : Int)))))
 (146096 : Int))))
 (365 : Int))) +
 IntKind.wrap IntKind.i64
 (Int.tdiv
 (IntKind.wrap IntKind.i64
 (Int.tdiv
 (IntKind.wrap IntKind.i64
 (IntKind.wrap IntKind.i64
 (IntKind.wrap IntKind.i64
 (IntKind.wrap IntKind.i64
 (IntKind.wrap IntKind.i64 (n + (719468 : Int)) -
 IntKind.wrap IntKind.i64
 ((146097 : Int) *
 IntKind.wrap IntKind.i64
 (IntKind.wrap IntKind.i64 (Int.tdiv (IntKind.wrap IntKind.i64 (n + (719468 : Int))) (146097 : Int)) -
 (1 : Int)))) -
 IntKind.wrap IntKind.i64
 (Int.tdiv
 (IntKind.wrap IntKind.i64
 (IntKind.wrap IntKind.i64 (n + (719468 : Int)) -
 IntKind.wrap IntKind.i64
 ((146097 : Int) *
 IntKind.wrap IntKind.i64
 (IntKind.wrap IntKind.i64 (Int.tdiv (IntKind.wrap IntKind.i64 (n + (719468 : Int))) (146097 : Int)) -
 (1 : Int)))))
 (1460 : Int))) +
 IntKind.wrap IntKind.i64
 (Int.tdiv
 (IntKind.wrap IntKind.i64
 (IntKind.wrap IntKind.i64 (n + (719468 : Int)) -
 IntKind.wrap IntKind.i64
 ((146097 : Int) *
 IntKind.wrap IntKind.i64
 (IntKind.wrap IntKind.i64 (Int.tdiv (IntKind.wrap IntKind.i64 (n + (719468 : Int))) (146097 : Int)) -
 (1 : Int)))))
 (36524 : Int))) -
 IntKind.wrap IntKind.i64
 (Int.tdiv
 (IntKind.wrap IntKind.i64
 (IntKind.wrap IntKind.i64 (n + (719468 : Int)) -
 IntKind.wrap IntKind.i64
 ((146097 : Int) *
 IntKind.wrap IntKind.i64
 (IntKind.wrap IntKind.i64 (Int.tdiv (IntKind.wrap IntKind.i64 (n + (719468 : Int))) (146097 : Int)) - (1 : Int)))))
 (146096 : Int))))
 (365 : Int)))
 (4 : Int))) -
 IntKind.wrap IntKind.i64
 (Int.tdiv
 (IntKind.wrap IntKind.i64
 (Int.tdiv
 (IntKind.wrap IntKind.i64
 (IntKind.wrap IntKind.i64
 (IntKind.wrap IntKind.i64
 (IntKind.wrap IntKind.i64
 (IntKind.wrap IntKind.i64 (n + (719468 : Int)) -
 IntKind.wrap IntKind.i64
 ((146097 : Int) *
 IntKind.wrap IntKind.i64
 (IntKind.wrap IntKind.i64 (Int.tdiv (IntKind.wrap IntKind.i64 (n + (719468 : Int))) (146097 : Int)) - (1 : Int)))) -
 IntKind.wrap IntKind.i64
 (Int.tdiv
 (IntKind.wrap IntKind.i64
 (IntKind.wrap IntKind.i64 (n + (719468 : Int)) -
 IntKind.wrap IntKind.i64
 ((146097 : Int) *
 IntKind.wrap IntKind.i64
 (IntKind.wrap IntKind.i64 (Int.tdiv (IntKind.wrap IntKind.i64 (n + (719468 : Int))) (146097 : Int)) -
 (1 : Int)))))
 (1460 : Int))) +
 IntKind.wrap IntKind.i64
 (Int.tdiv
 (IntKind.wrap IntKind.i64
 (IntKind.wrap IntKind.i64 (n + (719468 : Int)) -
 IntKind.wrap IntKind.i64
 ((146097 : Int) *
 IntKind.wrap IntKind.i64
 (IntKind.wrap IntKind.i64 (Int.tdiv (IntKind.wrap IntKind.i64 (n + (719468 : Int))) (146097 : Int)) - (1 : Int)))))
 (36524 : Int))) -
 IntKind.wrap IntKind.i64
 (Int.tdiv
 (IntKind.wrap IntKind.i64
 (IntKind.wrap IntKind.i64 (n + (719468 : Int)) -
 IntKind.wrap IntKind.i64
 ((146097 : Int) *
 IntKind.wrap IntKind.i64
 (IntKind.wrap IntKind.i64 (Int.tdiv (IntKind.wrap IntKind.i64 (n + (719468 : Int))) (146097 : Int)) - (1 : Int)))))
 (146096 : Int))))
 (365 : Int)))
 (100 : Int))))) +
 (2 : Int)))
 (153 : Int)) +
 (3 : Int)))
 (IntKind.wrap IntKind.i64
 (IntKind.wrap IntKind.i64
 (IntKind.wrap IntKind.i64
 (IntKind.wrap IntKind.i64
 (IntKind.wrap IntKind.i64 (n + (719468 : Int)) -
 IntKind.wrap IntKind.i64
 ((146097 : Int) *
 IntKind.wrap IntKind.i64 (IntKind.wrap IntKind.i64 (Int.tdiv (IntKind.wrap IntKind.i64 (n + (719468 : Int))) (146097 : Int)) - (1 : Int)))) -
 IntKind.wrap IntKind.i64
 (IntKind.wrap IntKind.i64
 (IntKind.wrap IntKind.i64
 ((365 : Int) *
 IntKind.wrap IntKind.i64
 (Int.tdiv
 (IntKind.wrap IntKind.i64
 (IntKind.wrap IntKind.i64
 (IntKind.wrap IntKind.i64
 (IntKind.wrap IntKind.i64
 (IntKind.wrap IntKind.i64 (n + (719468 : Int)) -
 IntKind.wrap IntKind.i64
 ((146097 : Int) *
 IntKind.wrap IntKind.i64
 (IntKind.wrap IntKind.i64 (Int.tdiv (IntKind.wrap IntKind.i64 (n + (719468 : Int))) (146097 : Int)) - (1 : Int)))) -
 IntKind.wrap IntKind.i64
 (Int.tdiv
 (IntKind.wrap IntKind.i64
 (IntKind.wrap IntKind.i64 (n + (719468 : Int)) -
 IntKind.wrap IntKind.i64
 ((146097 : Int) *
 IntKind.wrap IntKind.i64
 (IntKind.wrap IntKind.i64 (Int.tdiv (IntKind.wrap IntKind.i64 (n + (719468 : Int))) (146097 : Int)) - (1 : Int)))))
 (1460 : Int))) +
 IntKind.wrap IntKind.i64
 (Int.tdiv
 (IntKind.wrap IntKind.i64
 (IntKind.wrap IntKind.i64 (n + (719468 : Int)) -
 IntKind.wrap IntKind.i64
 ((146097 : Int) *
 IntKind.wrap IntKind.i64
 (IntKind.wrap IntKind.i64 (Int.tdiv (IntKind.wrap IntKind.i64 (n + (719468 : Int))) (146097 : Int)) - (1 : Int)))))
 (36524 : Int))) -
 IntKind.wrap IntKind.i64
 (Int.tdiv
 (IntKind.wrap IntKind.i64
 (IntKind.wrap IntKind.i64 (n + (719468 : Int)) -
 IntKind.wrap IntKind.i64
 ((146097 : Int) *
 IntKind.wrap IntKind.i64
 (IntKind.wrap IntKind.i64 (Int.tdiv (IntKind.wrap IntKind.i64 (n + (719468 : Int))) (146097 : Int)) - (1 : Int)))))
 (146096 : Int))))
 (365 : Int))) +
 IntKind.wrap IntKind.i64
 (Int.tdiv
 (IntKind.wrap IntKind.i64
 (Int.tdiv
 (IntKind.wrap IntKind.i64
 (IntKind.wrap IntKind.i64
 (IntKind.wrap IntKind.i64
 (IntKind.wrap IntKind.i64
 (IntKind.wrap IntKind.i64 (n + (719468 : Int)) -
 IntKind.wrap IntKind.i64
 ((146097 : Int) *
 IntKind.wrap IntKind.i64
 (IntKind.wrap IntKind.i64 (Int.tdiv (IntKind.wrap IntKind.i64 (n + (719468 : Int))) (146097 : Int)) - (1 : Int)))) -
 IntKind.wrap IntKind.i64
 (Int.tdiv
 (IntKind.wrap IntKind.i64
 (IntKind.wrap IntKind.i64 (n + (719468 : Int)) -
 IntKind.wrap IntKind.i64
 ((146097 : Int) *
 IntKind.wrap IntKind.i64
 (IntKind.wrap IntKind.i64 (Int.tdiv (IntKind.wrap IntKind.i64 (n + (719468 : Int))) (146097 : Int)) - (1 : Int)))))
 (1460 : Int))) +
 IntKind.wrap IntKind.i64
 (Int.tdiv
 (IntKind.wrap IntKind.i64
 (IntKind.wrap IntKind.i64 (n + (719468 : Int)) -
 IntKind.wrap IntKind.i64
 ((146097 : Int) *
 IntKind.wrap IntKind.i64
 (IntKind.wrap IntKind.i64 (Int.tdiv (IntKind.wrap IntKind.i64 (n + (719468 : Int))) (146097 : Int)) - (1 : Int)))))
 (36524 : Int))) -
 IntKind.wrap IntKind.i64
 (Int.tdiv
 (IntKind.wrap IntKind.i64
 (IntKind.wrap IntKind.i64 (n + (719468 : Int)) -
 IntKind.wrap IntKind.i64
 ((146097 : Int) *
 IntKind.wrap IntKind.i64
 (IntKind.wrap IntKind.i64 (Int.tdiv (IntKind.wrap IntKind.i64 (n + (719468 : Int))) (146097 : Int)) - (1 : Int)))))
 (146096 : Int))))
 (365 : Int)))
 (4 : Int))) -
 IntKind.wrap IntKind.i64
 (Int.tdiv
 (IntKind.wrap IntKind.i64
 (Int.tdiv
 (IntKind.wrap IntKind.i64
 (IntKind.wrap IntKind.i64
 (IntKind.wrap IntKind.i64
 (IntKind.wrap IntKind.i64
 (IntKind.wrap IntKind.i64 (n + (719468 : Int)) -
 IntKind.wrap IntKind.i64
 ((146097 : Int) *
 IntKind.wrap IntKind.i64
 (IntKind.wrap IntKind.i64 (Int.tdiv (IntKind.wrap IntKind.i64 (n + (719468 : Int))) (146097 : Int)) - (1 : Int)))) -
 IntKind.wrap IntKind.i64
 (Int.tdiv
 (IntKind.wrap IntKind.i64
 (IntKind.wrap IntKind.i64 (n + (719468 : Int)) -
 IntKind.wrap IntKind.i64
 ((146097 : Int) *
 IntKind.wrap IntKind.i64
 (IntKind.wrap IntKind.i64 (Int.tdiv (IntKind.wrap IntKind.i64 (n + (719468 : Int))) (146097 : Int)) - (1 : Int)))))
 (1460 : Int))) +
 IntKind.wrap IntKind.i64
 (Int.tdiv
 (IntKind.wrap IntKind.i64
 (IntKind.wrap IntKind.i64 (n + (719468 : Int)) -
 IntKind.wrap IntKind.i64
 ((146097 : Int) *
 IntKind.wrap IntKind.i64
 (IntKind.wrap IntKind.i64 (Int.tdiv (IntKind.wrap IntKind.i64 (n + (719468 : Int))) (146097 : Int)) - (1 : Int)))))
 (36524 : Int))) -
 IntKind.wrap IntKind.i64
 (Int.tdiv
 (IntKind.wrap IntKind.i64
 (IntKind.wrap IntKind.i64 (n + (719468 : Int)) -
 IntKind.wrap IntKind.i64
 ((146097 : Int) *
 IntKind.wrap IntKind.i64
 (IntKind.wrap IntKind.i64 (Int.tdiv (IntKind.wrap IntKind.i64 (n + (719468 : Int))) (146097 : Int)) - (1 : Int)))))
 (146096 : Int))))
 (365 : Int)))
 (100 : Int)))) -
 IntKind.wrap IntKind.i64
 (Int.tdiv
 (IntKind.wrap IntKind.i64
 (IntKind.wrap IntKind.i64
 ((153 : Int) *
 IntKind.wrap IntKind.i64
 (Int.tdiv
 (IntKind.wrap IntKind.i64
 (IntKind.wrap IntKind.i64
 ((5 : Int) *
 IntKind.wrap IntKind.i64
 (IntKind.wrap IntKind.i64
 (IntKind.wrap IntKind.i64 (n + (719468 : Int)) -
 IntKind.wrap IntKind.i64
 ((146097 : Int) *
 IntKind.wrap IntKind.i64
 (IntKind.wrap IntKind.i64 (Int.tdiv (IntKind.wrap IntKind.i64 (n + (719468 : Int))) (146097 : Int)) - (1 : Int)))) -
 IntKind.wrap IntKind.i64
 (IntKind.wrap IntKind.i64
 (IntKind.wrap IntKind.i64
 ((365 : Int) *
 IntKind.wrap IntKind.i64
 (Int.tdiv
 (IntKind.wrap IntKind.i64
 (IntKind.wrap IntKind.i64
 (IntKind.wrap IntKind.i64
 (IntKind.wrap IntKind.i64
 (IntKind.wrap IntKind.i64 (n + (719468 : Int)) -
 IntKind.wrap IntKind.i64
 ((146097 : Int) *
 IntKind.wrap IntKind.i64
 (IntKind.wrap IntKind.i64
 (Int.tdiv (IntKind.wrap IntKind.i64 (n + (719468 : Int))) (146097 : Int)) -
 (1 : Int)))) -
 IntKind.wrap IntKind.i64
 (Int.tdiv
 (IntKind.wrap IntKind.i64
 (IntKind.wrap IntKind.i64 (n + (719468 : Int)) -
 IntKind.wrap IntKind.i64
 ((146097 : Int) *
 IntKind.wrap IntKind.i64
 (IntKind.wrap IntKind.i64
 (Int.tdiv (IntKind.wrap IntKind.i64 (n + (719468 : Int))) (146097 : Int)) -
 (1 : Int)))))
 (1460 : Int))) +
 IntKind.wrap IntKind.i64
 (Int.tdiv
 (IntKind.wrap IntKind.i64
 (IntKind.wrap IntKind.i64 (n + (719468 : Int)) -
 IntKind.wrap IntKind.i64
 ((146097 : Int) *
 IntKind.wrap IntKind.i64
 (IntKind.wrap IntKind.i64
 (Int.tdiv (IntKind.wrap IntKind.i64 (n + (719468 : Int))) (146097 : Int)) -
 (1 : Int)))))
 (36524 : Int))) -
 IntKind.wrap IntKind.i64
 (Int.tdiv
 (IntKind.wrap IntKind.i64
 (IntKind.wrap IntKind.i64 (n + (719468 : Int)) -
 IntKind.wrap IntKind.i64
 ((146097 : Int) *
 IntKind.wrap IntKind.i64
 (IntKind.wrap IntKind.i64 (Int.tdiv (IntKind.wrap IntKind.i64 (n + (719468 : Int))) (146097 : Int)) -
 (1 : Int)))))
 (146096 : Int))))
 (365 : Int))) +
 IntKind.wrap IntKind.i64
 (Int.tdiv
 (IntKind.wrap IntKind.i64
 (Int.tdiv
 (IntKind.wrap IntKind.i64
 (IntKind.wrap IntKind.i64
 (IntKind.wrap IntKind.i64
 (IntKind.wrap IntKind.i64
 (IntKind.wrap IntKind.i64 (n + (719468 : Int)) -
 IntKind.wrap IntKind.i64
 ((146097 : Int) *
 IntKind.wrap IntKind.i64
 (IntKind.wrap IntKind.i64
 (Int.tdiv (IntKind.wrap IntKind.i64 (n + (719468 : Int))) (146097 : Int)) -
 (1 : Int)))) -
 IntKind.wrap IntKind.i64
 (Int.tdiv
 (IntKind.wrap IntKind.i64
 (IntKind.wrap IntKind.i64 (n + (719468 : Int)) -
 IntKind.wrap IntKind.i64
 ((146097 : Int) *
 IntKind.wrap IntKind.i64
 (IntKind.wrap IntKind.i64
 (Int.tdiv (IntKind.wrap IntKind.i64 (n + (719468 : Int))) (146097 : Int)) -
 (1 : Int)))))
 (1460 : Int))) +
 IntKind.wrap IntKind.i64
 (Int.tdiv
 (IntKind.wrap IntKind.i64
 (IntKind.wrap IntKind.i64 (n + (719468 : Int)) -
 IntKind.wrap IntKind.i64
 ((146097 : Int) *
 IntKind.wrap IntKind.i64
 (IntKind.wrap IntKind.i64
 (Int.tdiv (IntKind.wrap IntKind.i64 (n + (719468 : Int))) (146097 : Int)) -
 (1 : Int)))))
 (36524 : Int))) -
 IntKind.wrap IntKind.i64
 (Int.tdiv
 (IntKind.wrap IntKind.i64
 (IntKind.wrap IntKind.i64 (n + (719468 : Int)) -
 IntKind.wrap IntKind.i64
 ((146097 : Int) *
 IntKind.wrap IntKind.i64
 (IntKind.wrap IntKind.i64 (Int.tdiv (IntKind.wrap IntKind.i64 (n + (719468 : Int))) (146097 : Int)) -
 (1 : Int)))))
 (146096 : Int))))
 (365 : Int)))
 (4 : Int))) -
 IntKind.wrap IntKind.i64
 (Int.tdiv
 (IntKind.wrap IntKind.i64
 (Int.tdiv
 (IntKind.wrap IntKind.i64
 (IntKind.wrap IntKind.i64
 (IntKind.wrap IntKind.i64
 (IntKind.wrap IntKind.i64
 (IntKind.wrap IntKind.i64 (n + (719468 : Int)) -
 IntKind.wrap IntKind.i64
 ((146097 : Int) *
 IntKind.wrap IntKind.i64
 (IntKind.wrap IntKind.i64 (Int.tdiv (IntKind.wrap IntKind.i64 (n + (719468 : Int))) (146097 : Int)) -
 (1 : Int)))) -
 IntKind.wrap IntKind.i64
 (Int.tdiv
 (IntKind.wrap IntKind.i64
 (IntKind.wrap IntKind.i64 (n + (719468 : Int)) -
 IntKind.wrap IntKind.i64
 ((146097 : Int) *
 IntKind.wrap IntKind.i64
 (IntKind.wrap IntKind.i64
 (Int.tdiv (IntKind.wrap IntKind.i64 (n + (719468 : Int))) (146097 : Int)) -
 (1 : Int)))))
 (1460 : Int))) +
 IntKind.wrap IntKind.i64
 (Int.tdiv
 (IntKind.wrap IntKind.i64
 (IntKind.wrap IntKind.i64 (n + (719468 : Int)) -
 IntKind.wrap IntKind.i64
 ((146097 : Int) *
 IntKind.wrap IntKind.i64
 (IntKind.wrap IntKind.i64 (Int.tdiv (IntKind.wrap IntKind.i64 (n + (719468 : Int))) (146097 : Int)) -
 (1 : Int)))))
 (36524 : Int))) -
 IntKind.wrap IntKind.i64
 (Int.tdiv
 (IntKind.wrap IntKind.i64
 (IntKind.wrap IntKind.i64 (n + (719468 : Int)) -
 IntKind.wrap IntKind.i64
 ((146097 : Int) *
 IntKind.wrap IntKind.i64
 (IntKind.wrap IntKind.i64 (Int.tdiv (IntKind.wrap IntKind.i64 (n + (719468 : Int))) (146097 : Int)) -
 (1 : Int)))))
 (146096 : Int))))
 (365 : Int)))
 (100 : Int))))) +
 (2 : Int)))
 (153 : Int))) +
 (2 : Int)))
 (5 : Int))) +
 (1 : Int))) →
 K
 (Value.tuple
 (Array.mk
 [Value.agg (Array.mk [Value.int IntKind.i64 (Int.ofNat (0 : Nat)), Value.int IntKind.i64 (Int.ofNat (0 : Nat)), Value.int IntKind.i64 (Int.ofNat (0 : Nat))]),
 Value.bool Bool.false]))
 (10 : Nat))))
 (bsel
 (decide
 (IntKind.wrap IntKind.i64
 (IntKind.wrap IntKind.i64
 (Int.tdiv
 (IntKind.wrap IntKind.i64
 (IntKind.wrap IntKind.i64
 ((5 : Int) *
 IntKind.wrap IntKind.i64
 (IntKind.wrap IntKind.i64
 (IntKind.wrap IntKind.i64 (n + (719468 : Int)) -
 IntKind.wrap IntKind.i64 ((146097 : Int) * IntKind.wrap IntKind.i64 (Int.tdiv (IntKind.wrap IntKind.i64 (n + (719468 : Int))) (146097 : Int)))) -
 IntKind.wrap IntKind.i64
 (IntKind.wrap IntKind.i64
 (IntKind.wrap IntKind.i64
 ((365 : Int) *
 IntKind.wrap IntKind.i64
 (Int.tdiv
 (IntKind.wrap IntKind.i64
 (IntKind.wrap IntKind.i64
 (IntKind.wrap IntKind.i64
 (IntKind.wrap IntKind.i64
 (IntKind.wrap IntKind.i64 (n + (719468 : Int)) -
 IntKind.wrap IntKind.i64
 ((146097 : Int) * IntKind.wrap IntKind.i64 (Int.tdiv (IntKind.wrap IntKind.i64 (n + (719468 : Int))) (146097 : Int)))) -
 IntKind.wrap IntKind.i64
 (Int.tdiv
 (IntKind.wrap IntKind.i64
 (IntKind.wrap IntKind.i64 (n + (719468 : Int)) -
 IntKind.wrap IntKind.i64
 ((146097 : Int) *
 IntKind.wrap IntKind.i64 (Int.tdiv (IntKind.wrap IntKind.i64 (n + (719468 : Int))) (146097 : Int)))))
 (1460 : Int))) +
 IntKind.wrap IntKind.i64
 (Int.tdiv
 (IntKind.wrap IntKind.i64
 (IntKind.wrap IntKind.i64 (n + (719468 : Int)) -
 IntKind.wrap IntKind.i64
 ((146097 : Int) * IntKind.wrap IntKind.i64 (Int.tdiv (IntKind.wrap IntKind.i64 (n + (719468 : Int))) (146097 : Int)))))
 (36524 : Int))) -
 IntKind.wrap IntKind.i64
 (Int.tdiv
 (IntKind.wrap IntKind.i64
 (IntKind.wrap IntKind.i64 (n + (719468 : Int)) -
 IntKind.wrap IntKind.i64
 ((146097 : Int) * IntKind.wrap IntKind.i64 (Int.tdiv (IntKind.wrap IntKind.i64 (n + (719468 : Int))) (146097 : Int)))))
 (146096 : Int))))
 (365 : Int))) +
 IntKind.wrap IntKind.i64
 (Int.tdiv
 (IntKind.wrap IntKind.i64
 (Int.tdiv
 (IntKind.wrap IntKind.i64
 (IntKind.wrap IntKind.i64
 (IntKind.wrap IntKind.i64
 (IntKind.wrap IntKind.i64
 (IntKind.wrap IntKind.i64 (n + (719468 : Int)) -
 IntKind.wrap IntKind.i64
 ((146097 : Int) * IntKind.wrap IntKind.i64 (Int.tdiv (IntKind.wrap IntKind.i64 (n + (719468 : Int))) (146097 : Int)))) -
 IntKind.wrap IntKind.i64
 (Int.tdiv
 (IntKind.wrap IntKind.i64
 (IntKind.wrap IntKind.i64 (n + (719468 : Int)) -
 IntKind.wrap IntKind.i64
 ((146097 : Int) *
 IntKind.wrap IntKind.i64 (Int.tdiv (IntKind.wrap IntKind.i64 (n + (719468 : Int))) (146097 : Int)))))
 (1460 : Int))) +
 IntKind.wrap IntKind.i64
 (Int.tdiv
 (IntKind.wrap IntKind.i64
 (IntKind.wrap IntKind.i64 (n + (719468 : Int)) -
 IntKind.wrap IntKind.i64
 ((146097 : Int) * IntKind.wrap IntKind.i64 (Int.tdiv (IntKind.wrap IntKind.i64 (n + (719468 : Int))) (146097 : Int)))))
 (36524 : Int))) -
 IntKind.wrap IntKind.i64
 (Int.tdiv
 (IntKind.wrap IntKind.i64
 (IntKind.wrap IntKind.i64 (n + (719468 : Int)) -
 IntKind.wrap IntKind.i64
 ((146097 : Int) * IntKind.wrap IntKind.i64 (Int.tdiv (IntKind.wrap IntKind.i64 (n + (719468 : Int))) (146097 : Int)))))
 (146096 : Int))))
 (365 : Int)))
 (4 : Int))) -
 IntKind.wrap IntKind.i64
 (Int.tdiv
 (IntKind.wrap IntKind.i64
 (Int.tdiv
 (IntKind.wrap IntKind.i64
 (IntKind.wrap IntKind.i64
 (IntKind.wrap IntKind.i64
 (IntKind.wrap IntKind.i64
 (IntKind.wrap IntKind.i64 (n + (719468 : Int)) -
 IntKind.wrap IntKind.i64
 ((146097 : Int) * IntKind.wrap IntKind.i64 (Int.tdiv (IntKind.wrap IntKind.i64 (n + (719468 : Int))) (146097 : Int)))) -
 IntKind.wrap IntKind.i64
 (Int.tdiv
 (IntKind.wrap IntKind.i64
 (IntKind.wrap IntKind.i64 (n + (719468 : Int)) -
 IntKind.wrap IntKind.i64
 ((146097 : Int) * IntKind.wrap IntKind.i64 (Int.tdiv (IntKind.wrap IntKind.i64 (n + (719468 : Int))) (146097 : Int)))))
 (1460 : Int))) +
 IntKind.wrap IntKind.i64
 (Int.tdiv
 (IntKind.wrap IntKind.i64
 (IntKind.wrap IntKind.i64 (n + (719468 : Int)) -
 IntKind.wrap IntKind.i64
 ((146097 : Int) * IntKind.wrap IntKind.i64 (Int.tdiv (IntKind.wrap IntKind.i64 (n + (719468 : Int))) (146097 : Int)))))
 (36524 : Int))) -
 IntKind.wrap IntKind.i64
 (Int.tdiv
 (IntKind.wrap IntKind.i64
 (IntKind.wrap IntKind.i64 (n + (719468 : Int)) -
 IntKind.wrap IntKind.i64
 ((146097 : Int) * IntKind.wrap IntKind.i64 (Int.tdiv (IntKind.wrap IntKind.i64 (n + (719468 : Int))) (146097 : Int)))))
 (146096 : Int))))
 (365 : Int)))
 (100 : Int))))) +
 (2 : Int)))
 (153 : Int)) +
 (3 : Int)) >
 (12 : Int)))
 ((dateOk
 (IntKind.wrap IntKind.i64
 (IntKind.wrap IntKind.i64
 (IntKind.wrap IntKind.i64 ((400 : Int) * IntKind.wrap IntKind.i64 (Int.tdiv (IntKind.wrap IntKind.i64 (n + (719468 : Int))) (146097 : Int))) +
 IntKind.wrap IntKind.i64
 (Int.tdiv
 (IntKind.wrap IntKind.i64
 (IntKind.wrap IntKind.i64
 (IntKind.wrap IntKind.i64
 (IntKind.wrap IntKind.i64
 (IntKind.wrap IntKind.i64 (n + (719468 : Int)) -
 IntKind.wrap IntKind.i64
 ((146097 : Int) * IntKind.wrap IntKind.i64 (Int.tdiv (IntKind.wrap IntKind.i64 (n + (719468 : Int))) (146097 : Int)))) -
 IntKind.wrap IntKind.i64
 (Int.tdiv
 (IntKind.wrap IntKind.i64
 (IntKind.wrap IntKind.i64 (n + (719468 : Int)) -
 IntKind.wrap IntKind.i64
 ((146097 : Int) * IntKind.wrap IntKind.i64 (Int.tdiv (IntKind.wrap IntKind.i64 (n + (719468 : Int))) (146097 : Int)))))
 (1460 : Int))) +
 IntKind.wrap IntKind.i64
 (Int.tdiv
 (IntKind.wrap IntKind.i64
 (IntKind.wrap IntKind.i64 (n + (719468 : Int)) -
 IntKind.wrap IntKind.i64
 ((146097 : Int) * IntKind.wrap IntKind.i64 (Int.tdiv (IntKind.wrap IntKind.i64 (n + (719468 : Int))) (146097 : Int)))))
 (36524 : Int))) -
 IntKind.wrap IntKind.i64
 (Int.tdiv
 (IntKind.wrap IntKind.i64
 (IntKind.wrap IntKind.i64 (n + (719468 : Int)) -
 IntKind.wrap IntKind.i64 ((146097 : Int) * IntKind.wrap IntKind.i64 (Int.tdiv (IntKind.wrap IntKind.i64 (n + (719468 : Int))) (146097 : Int)))))
 (146096 : Int))))
 (365 : Int))) +
 (1 : Int)))
 (IntKind.wrap IntKind.i64
 (IntKind.wrap IntKind.i64
 (IntKind.wrap IntKind.i64
 (Int.tdiv
 (IntKind.wrap IntKind.i64
 (IntKind.wrap IntKind.i64
 ((5 : Int) *
 IntKind.wrap IntKind.i64
 (IntKind.wrap IntKind.i64
 (IntKind.wrap IntKind.i64 (n + (719468 : Int)) -
 IntKind.wrap IntKind.i64
 ((146097 : Int) * IntKind.wrap IntKind.i64 (Int.tdiv (IntKind.wrap IntKind.i64 (n + (719468 : Int))) (146097 : Int)))) -
 IntKind.wrap IntKind.i64
 (IntKind.wrap IntKind.i64
 (IntKind.wrap IntKind.i64
 ((365 : Int) *
 IntKind.wrap IntKind.i64
 (Int.tdiv
 (IntKind.wrap IntKind.i64
 (IntKind.wrap IntKind.i64
 (IntKind.wrap IntKind.i64
 (IntKind.wrap IntKind.i64
 (IntKind.wrap IntKind.i64 (n + (719468 : Int)) -
 IntKind.wrap IntKind.i64
 ((146097 : Int) *
 IntKind.wrap IntKind.i64 (Int.tdiv (IntKind.wrap IntKind.i64 (n + (719468 : Int))) (146097 : Int)))) -
 IntKind.wrap IntKind.i64
 (Int.tdiv
 (IntKind.wrap IntKind.i64
 (IntKind.wrap IntKind.i64 (n + (719468 : Int)) -
 IntKind.wrap IntKind.i64
 ((146097 : Int) *
 IntKind.wrap IntKind.i64 (Int.tdiv (IntKind.wrap IntKind.i64 (n + (719468 : Int))) (146097 : Int)))))
 (1460 : Int))) +
 IntKind.wrap IntKind.i64
 (Int.tdiv
 (IntKind.wrap IntKind.i64
 (IntKind.wrap IntKind.i64 (n + (719468 : Int)) -
 IntKind.wrap IntKind.i64
 ((146097 : Int) *
 IntKind.wrap IntKind.i64 (Int.tdiv (IntKind.wrap IntKind.i64 (n + (719468 : Int))) (146097 : Int)))))
 (36524 : Int))) -
 IntKind.wrap IntKind.i64
 (Int.tdiv
 (IntKind.wrap IntKind.i64
 (IntKind.wrap IntKind.i64 (n + (719468 : Int)) -
 IntKind.wrap IntKind.i64
 ((146097 : Int) * IntKind.wrap IntKind.i64 (Int.tdiv (IntKind.wrap IntKind.i64 (n + (719468 : Int))) (146097 : Int)))))
 (146096 : Int))))
 (365 : Int))) +
 IntKind.wrap IntKind.i64
 (Int.tdiv
 (IntKind.wrap IntKind.i64
 (Int.tdiv
 (IntKind.wrap IntKind.i64
 (IntKind.wrap IntKind.i64
 (IntKind.wrap IntKind.i64
 (IntKind.wrap IntKind.i64
 (IntKind.wrap IntKind.i64 (n + (719468 : Int)) -
 IntKind.wrap IntKind.i64
 ((146097 : Int) *
 IntKind.wrap IntKind.i64 (Int.tdiv (IntKind.wrap IntKind.i64 (n + (719468 : Int))) (146097 : Int)))) -
 IntKind.wrap IntKind.i64
 (Int.tdiv
 (IntKind.wrap IntKind.i64
 (IntKind.wrap IntKind.i64 (n + (719468 : Int)) -
 IntKind.wrap IntKind.i64
 ((146097 : Int) *
 IntKind.wrap IntKind.i64 (Int.tdiv (IntKind.wrap IntKind.i64 (n + (719468 : Int))) (146097 : Int)))))
 (1460 : Int))) +
 IntKind.wrap IntKind.i64
 (Int.tdiv
 (IntKind.wrap IntKind.i64
 (IntKind.wrap IntKind.i64 (n + (719468 : Int)) -
 IntKind.wrap IntKind.i64
 ((146097 : Int) *
 IntKind.wrap IntKind.i64 (Int.tdiv (IntKind.wrap IntKind.i64 (n + (719468 : Int))) (146097 : Int)))))
 (36524 : Int))) -
 IntKind.wrap IntKind.i64
 (Int.tdiv
 (IntKind.wrap IntKind.i64
 (IntKind.wrap IntKind.i64 (n + (719468 : Int)) -
 IntKind.wrap IntKind.i64
 ((146097 : Int) * IntKind.wrap IntKind.i64 (Int.tdiv (IntKind.wrap IntKind.i64 (n + (719468 : Int))) (146097 : Int)))))
 (146096 : Int))))
 (365 : Int)))
 (4 : Int))) -
 IntKind.wrap IntKind.i64
 (Int.tdiv
 (IntKind.wrap IntKind.i64
 (Int.tdiv
 (IntKind.wrap IntKind.i64
 (IntKind.wrap IntKind.i64
 (IntKind.wrap IntKind.i64
 (IntKind.wrap IntKind.i64
 (IntKind.wrap IntKind.i64 (n + (719468 : Int)) -
 IntKind.wrap IntKind.i64
 ((146097 : Int) * IntKind.wrap IntKind.i64 (Int.tdiv (IntKind.wrap IntKind.i64 (n + (719468 : Int))) (146097 : Int)))) -
 IntKind.wrap IntKind.i64
 (Int.tdiv
 (IntKind.wrap IntKind.i64
 (IntKind.wrap IntKind.i64 (n + (719468 : Int)) -
 IntKind.wrap IntKind.i64
 ((146097 : Int) *
 IntKind.wrap IntKind.i64 (Int.tdiv (IntKind.wrap IntKind.i64 (n + (719468 : Int))) (146097 : Int)))))
 (1460 : Int))) +
 IntKind.wrap IntKind.i64
 (Int.tdiv
 (IntKind.wrap IntKind.i64
 (IntKind.wrap IntKind.i64 (n + (719468 : Int)) -
 IntKind.wrap IntKind.i64
 ((146097 : Int) * IntKind.wrap IntKind.i64 (Int.tdiv (IntKind.wrap IntKind.i64 (n + (719468 : Int))) (146097 : Int)))))
 (36524 : Int))) -
 IntKind.wrap IntKind.i64
 (Int.tdiv
 (IntKind.wrap IntKind.i64
 (IntKind.wrap IntKind.i64 (n + (719468 : Int)) -
 IntKind.wrap IntKind.i64
 ((146097 : Int) * IntKind.wrap IntKind.i64 (Int.tdiv (IntKind.wrap IntKind.i64 (n + (719468 : Int))) (146097 : Int)))))
 (146096 : Int))))
 (365 : Int)))
 (100 : Int))))) +
 (2 : Int)))
 (153 : Int)) +
 (3 : Int)) -
 (12 : Int)))
 (IntKind.wrap IntKind.i64
 (IntKind.wrap IntKind.i64
 (IntKind.wrap IntKind.i64
 (IntKind.wrap IntKind.i64
 (IntKind.wrap IntKind.i64 (n + (719468 : Int)) -
 IntKind.wrap IntKind.i64 ((146097 : Int) * IntKind.wrap IntKind.i64 (Int.tdiv (IntKind.wrap IntKind.i64 (n + (719468 : Int))) (146097 : Int)))) -
 IntKind.wrap IntKind.i64
 (IntKind.wrap IntKind.i64
 (IntKind.wrap IntKind.i64
 ((365 : Int) *
 IntKind.wrap IntKind.i64
 (Int.tdiv
 (IntKind.wrap IntKind.i64
 (IntKind.wrap IntKind.i64
 (IntKind.wrap IntKind.i64
 (IntKind.wrap IntKind.i64
 (IntKind.wrap IntKind.i64 (n + (719468 : Int)) -
 IntKind.wrap IntKind.i64
 ((146097 : Int) * IntKind.wrap IntKind.i64 (Int.tdiv (IntKind.wrap IntKind.i64 (n + (719468 : Int))) (146097 : Int)))) -
 IntKind.wrap IntKind.i64
 (Int.tdiv
 (IntKind.wrap IntKind.i64
 (IntKind.wrap IntKind.i64 (n + (719468 : Int)) -
 IntKind.wrap IntKind.i64
 ((146097 : Int) * IntKind.wrap IntKind.i64 (Int.tdiv (IntKind.wrap IntKind.i64 (n + (719468 : Int))) (146097 : Int)))))
 (1460 : Int))) +
 IntKind.wrap IntKind.i64
 (Int.tdiv
 (IntKind.wrap IntKind.i64
 (IntKind.wrap IntKind.i64 (n + (719468 : Int)) -
 IntKind.wrap IntKind.i64
 ((146097 : Int) * IntKind.wrap IntKind.i64 (Int.tdiv (IntKind.wrap IntKind.i64 (n + (719468 : Int))) (146097 : Int)))))
 (36524 : Int))) -
 IntKind.wrap IntKind.i64
 (Int.tdiv
 (IntKind.wrap IntKind.i64
 (IntKind.wrap IntKind.i64 (n + (719468 : Int)) -
 IntKind.wrap IntKind.i64
 ((146097 : Int) * IntKind.wrap IntKind.i64 (Int.tdiv (IntKind.wrap IntKind.i64 (n + (719468 : Int))) (146097 : Int)))))
 (146096 : Int))))
 (365 : Int))) +
 IntKind.wrap IntKind.i64
 (Int.tdiv
 (IntKind.wrap IntKind.i64
 (Int.tdiv
 (IntKind.wrap IntKind.i64
 (IntKind.wrap IntKind.i64
 (IntKind.wrap IntKind.i64
 (IntKind.wrap IntKind.i64
 (IntKind.wrap IntKind.i64 (n + (719468 : Int)) -
 IntKind.wrap IntKind.i64
 ((146097 : Int) * IntKind.wrap IntKind.i64 (Int.tdiv (IntKind.wrap IntKind.i64 (n + (719468 : Int))) (146097 : Int)))) -
 IntKind.wrap IntKind.i64
 (Int.tdiv
 (IntKind.wrap IntKind.i64
 (IntKind.wrap IntKind.i64 (n + (719468 : Int)) -
 IntKind.wrap IntKind.i64
 ((146097 : Int) * IntKind.wrap IntKind.i64 (Int.tdiv (IntKind.wrap IntKind.i64 (n + (719468 : Int))) (146097 : Int)))))
 (1460 : Int))) +
 IntKind.wrap IntKind.i64
 (Int.tdiv
 (IntKind.wrap IntKind.i64
 (IntKind.wrap IntKind.i64 (n + (719468 : Int)) -
 IntKind.wrap IntKind.i64
 ((146097 : Int) * IntKind.wrap IntKind.i64 (Int.tdiv (IntKind.wrap IntKind.i64 (n + (719468 : Int))) (146097 : Int)))))
 (36524 : Int))) -
 IntKind.wrap IntKind.i64
 (Int.tdiv
 (IntKind.wrap IntKind.i64
 (IntKind.wrap IntKind.i64 (n + (719468 : Int)) -
 IntKind.wrap IntKind.i64
 ((146097 : Int) * IntKind.wrap IntKind.i64 (Int.tdiv (IntKind.wrap IntKind.i64 (n + (719468 : Int))) (146097 : Int)))))
 (146096 : Int))))
 (365 : Int)))
 (4 : Int))) -
 IntKind.wrap IntKind.i64
 (Int.tdiv
 (IntKind.wrap IntKind.i64
 (Int.tdiv
 (IntKind.wrap IntKind.i64
 (IntKind.wrap IntKind.i64
 (IntKind.wrap IntKind.i64
 (IntKind.wrap IntKind.i64
 (IntKind.wrap IntKind.i64 (n + (719468 : Int)) -
 IntKind.wrap IntKind.i64
 ((146097 : Int) * IntKind.wrap IntKind.i64 (Int.tdiv (IntKind.wrap IntKind.i64 (n + (719468 : Int))) (146097 : Int)))) -
 IntKind.wrap IntKind.i64
 (Int.tdiv
 (IntKind.wrap IntKind.i64
 (IntKind.wrap IntKind.i64 (n + (719468 : Int)) -
 IntKind.wrap IntKind.i64
 ((146097 : Int) * IntKind.wrap IntKind.i64 (Int.tdiv (IntKind.wrap IntKind.i64 (n + (719468 : Int))) (146097 : Int)))))
 (1460 : Int))) +
 IntKind.wrap IntKind.i64
 (Int.tdiv
 (IntKind.wrap IntKind.i64
 (IntKind.wrap IntKind.i64 (n + (719468 : Int)) -
 IntKind.wrap IntKind.i64
 ((146097 : Int) * IntKind.wrap IntKind.i64 (Int.tdiv (IntKind.wrap IntKind.i64 (n + (719468 : Int))) (146097 : Int)))))
 (36524 : Int))) -
 IntKind.wrap IntKind.i64
 (Int.tdiv
 (IntKind.wrap IntKind.i64
 (IntKind.wrap IntKind.i64 (n + (719468 : Int)) -
 IntKind.wrap IntKind.i64
 ((146097 : Int) * IntKind.wrap IntKind.i64 (Int.tdiv (IntKind.wrap IntKind.i64 (n + (719468 : Int))) (146097 : Int)))))
 (146096 : Int))))
 (365 : Int)))
 (100 : Int)))) -
 IntKind.wrap IntKind.i64
 (Int.tdiv
 (IntKind.wrap IntKind.i64
 (IntKind.wrap IntKind.i64
 ((153 : Int) *
 IntKind.wrap IntKind.i64
 (Int.tdiv
 (IntKind.wrap IntKind.i64
 (IntKind.wrap IntKind.i64
 ((5 : Int) *
 IntKind.wrap IntKind.i64
 (IntKind.wrap IntKind.i64
 (IntKind.wrap IntKind.i64 (n + (719468 : Int)) -
 IntKind.wrap IntKind.i64
 ((146097 : Int) * IntKind.wrap IntKind.i64 (Int.tdiv (IntKind.wrap IntKind.i64 (n + (719468 : Int))) (146097 : Int)))) -
 IntKind.wrap IntKind.i64
 (IntKind.wrap IntKind.i64
 (IntKind.wrap IntKind.i64
 ((365 : Int) *
 IntKind.wrap IntKind.i64
 (Int.tdiv
 (IntKind.wrap IntKind.i64
 (IntKind.wrap IntKind.i64
 (IntKind.wrap IntKind.i64
 (IntKind.wrap IntKind.i64
 (IntKind.wrap IntKind.i64 (n + (719468 : Int)) -
 IntKind.wrap IntKind.i64
 ((146097 : Int) *
 IntKind.wrap IntKind.i64 (Int.tdiv (IntKind.wrap IntKind.i64 (n + (719468 : Int))) (146097 : Int)))) -
 IntKind.wrap IntKind.i64
 (Int.tdiv
 (IntKind.wrap IntKind.i64
 (IntKind.wrap IntKind.i64 (n + (719468 : Int)) -
 IntKind.wrap IntKind.i64
 ((146097 : Int) *
 IntKind.wrap IntKind.i64
 (Int.tdiv (IntKind.wrap IntKind.i64 (n + (719468 : Int))) (146097 : Int)))))
 (1460 : Int))) +
 IntKind.wrap IntKind.i64
 (Int.tdiv
 (IntKind.wrap IntKind.i64
 (IntKind.wrap IntKind.i64 (n + (719468 : Int)) -
 IntKind.wrap IntKind.i64
 ((146097 : Int) *
 IntKind.wrap IntKind.i64 (Int.tdiv (IntKind.wrap IntKind.i64 (n + (719468 : Int))) (146097 : Int)))))
 (36524 : Int))) -
 IntKind.wrap IntKind.i64
 (Int.tdiv
 (IntKind.wrap IntKind.i64
 (IntKind.wrap IntKind.i64 (n + (719468 : Int)) -
 IntKind.wrap IntKind.i64
 ((146097 : Int) *
 IntKind.wrap IntKind.i64 (Int.tdiv (IntKind.wrap IntKind.i64 (n + (719468 : Int))) (146097 : Int)))))
 (146096 : Int))))
 (365 : Int))) +
 IntKind.wrap IntKind.i64
 (Int.tdiv
 (IntKind.wrap IntKind.i64
 (Int.tdiv
 (IntKind.wrap IntKind.i64
 (IntKind.wrap IntKind.i64
 (IntKind.wrap IntKind.i64
 (IntKind.wrap IntKind.i64
 (IntKind.wrap IntKind.i64 (n + (719468 : Int)) -
 IntKind.wrap IntKind.i64
 ((146097 : Int) *
 IntKind.wrap IntKind.i64 (Int.tdiv (IntKind.wrap IntKind.i64 (n + (719468 : Int))) (146097 : Int)))) -
 IntKind.wrap IntKind.i64
 (Int.tdiv
 (IntKind.wrap IntKind.i64
 (IntKind.wrap IntKind.i64 (n + (719468 : Int)) -
 IntKind.wrap IntKind.i64
 ((146097 : Int) *
 IntKind.wrap IntKind.i64
 (Int.tdiv (IntKind.wrap IntKind.i64 (n + (719468 : Int))) (146097 : Int)))))
 (1460 : Int))) +
 IntKind.wrap IntKind.i64
 (Int.tdiv
 (IntKind.wrap IntKind.i64
 (IntKind.wrap IntKind.i64 (n + (719468 : Int)) -
 IntKind.wrap IntKind.i64
 ((146097 : Int) *
 IntKind.wrap IntKind.i64 (Int.tdiv (IntKind.wrap IntKind.i64 (n + (719468 : Int))) (146097 : Int)))))
 (36524 : Int))) -
 IntKind.wrap IntKind.i64
 (Int.tdiv
 (IntKind.wrap IntKind.i64
 (IntKind.wrap IntKind.i64 (n + (719468 : Int)) -
 IntKind.wrap IntKind.i64
 ((146097 : Int) *
 IntKind.wrap IntKind.i64 (Int.tdiv (IntKind.wrap IntKind.i64 (n + (719468 : Int))) (146097 : Int)))))
 (146096 : Int))))
 (365 : Int)))
 (4 : Int))) -
 IntKind.wrap IntKind.i64
 (Int.tdiv
 (IntKind.wrap IntKind.i64
 (Int.tdiv
 (IntKind.wrap IntKind.i64
 (IntKind.wrap IntKind.i64
 (IntKind.wrap IntKind.i64
 (IntKind.wrap IntKind.i64
 (IntKind.wrap IntKind.i64 (n + (719468 : Int)) -
 IntKind.wrap IntKind.i64
 ((146097 : Int) *
 IntKind.wrap IntKind.i64 (Int.tdiv (IntKind.wrap IntKind.i64 (n + (719468 : Int))) (146097 : Int)))) -
 IntKind.wrap IntKind.i64
 (Int.tdiv
 (IntKind.wrap IntKind.i64
 (IntKind.wrap IntKind.i64 (n + (719468 : Int)) -
 IntKind.wrap IntKind.i64
 ((146097 : Int) *
 IntKind.wrap IntKind.i64 (Int.tdiv (IntKind.wrap IntKind.i64 (n + (719468 : Int))) (146097 : Int)))))
 (1460 : Int))) +
 IntKind.wrap IntKind.i64
 (Int.tdiv
 (IntKind.wrap IntKind.i64
 (IntKind.wrap IntKind.i64 (n + (719468 : Int)) -
 IntKind.wrap IntKind.i64
 ((146097 : Int) *
 IntKind.wrap IntKind.i64 (Int.tdiv (IntKind.wrap IntKind.i64 (n + (719468 : Int))) (146097 : Int)))))
 (36524 : Int))) -
 IntKind.wrap IntKind.i64
 (Int.tdiv
 (IntKind.wrap IntKind.i64
 (IntKind.wrap IntKind.i64 (n + (719468 : Int)) -
 IntKind.wrap IntKind.i64
 ((146097 : Int) *
 IntKind.wrap IntKind.i64 (Int.tdiv (IntKind.wrap IntKind.i64 (n + (719468 : Int))) (146097 : Int)))))
 (146096 : Int))))
 (365 : Int)))
 (100 : Int))))) +
 (2 : Int)))
 (153 : Int))) +
 (2 : Int)))
 (5 : Int))) +
 (1 : Int))) →
 K
 (Value.tuple
 (Array.mk
 [Value.agg
 (Array.mk
 [Value.int IntKind.i64
 (IntKind.wrap IntKind.i64
 (IntKind.wrap IntKind.i64
 (IntKind.wrap IntKind.i64 ((400 : Int) * IntKind.wrap IntKind.i64 (Int.tdiv (IntKind.wrap IntKind.i64 (n + (719468 : Int))) (146097 : Int))) +
 IntKind.wrap IntKind.i64
 (Int.tdiv
 (IntKind.wrap IntKind.i64
 (IntKind.wrap IntKind.i64
 (IntKind.wrap IntKind.i64
 (IntKind.wrap IntKind.i64
 (IntKind.wrap IntKind.i64 (n + (719468 : Int)) -
 IntKind.wrap IntKind.i64
 ((146097 : Int) * IntKind.wrap IntKind.i64 (Int.tdiv (IntKind.wrap IntKind.i64 (n + (719468 : Int))) (146097 : Int)))) -
 IntKind.wrap IntKind.i64
 (Int.tdiv
 (IntKind.wrap IntKind.i64
 (IntKind.wrap IntKind.i64 (n + (719468 : Int)) -
 IntKind.wrap IntKind.i64
 ((146097 : Int) * IntKind.wrap IntKind.i64 (Int.tdiv (IntKind.wrap IntKind.i64 (n + (719468 : Int))) (146097 : Int)))))
 (1460 : Int))) +
 IntKind.wrap IntKind.i64
 (Int.tdiv
 (IntKind.wrap IntKind.i64
 (IntKind.wrap IntKind.i64 (n + (719468 : Int)) -
 IntKind.wrap IntKind.i64
 ((146097 : Int) * IntKind.wrap IntKind.i64 (Int.tdiv (IntKind.wrap IntKind.i64 (n + (719468 : Int))) (146097 : Int)))))
 (36524 : Int))) -
 IntKind.wrap IntKind.i64
 (Int.tdiv
 (IntKind.wrap IntKind.i64
 (IntKind.wrap IntKind.i64 (n + (719468 : Int)) -
 IntKind.wrap IntKind.i64
 ((146097 : Int) * IntKind.wrap IntKind.i64 (Int.tdiv (IntKind.wrap IntKind.i64 (n + (719468 : Int))) (146097 : Int)))))
 (146096 : Int))))
 (365 : Int))) +
 (1 : Int))),
 Value.int IntKind.i64
 (IntKind.wrap IntKind.i64
 (IntKind.wrap IntKind.i64
 (IntKind.wrap IntKind.i64
 (Int.tdiv
 (IntKind.wrap IntKind.i64
 (IntKind.wrap IntKind.i64
 ((5 : Int) *
 IntKind.wrap IntKind.i64
 (IntKind.wrap IntKind.i64
 (IntKind.wrap IntKind.i64 (n + (719468 : Int)) -
 IntKind.wrap IntKind.i64
 ((146097 : Int) * IntKind.wrap IntKind.i64 (Int.tdiv (IntKind.wrap IntKind.i64 (n + (719468 : Int))) (146097 : Int)))) -
 IntKind.wrap IntKind.i64
 (IntKind.wrap IntKind.i64
 (IntKind.wrap IntKind.i64
 ((365 : Int) *
 IntKind.wrap IntKind.i64
 (Int.tdiv
 (IntKind.wrap IntKind.i64
 (IntKind.wrap IntKind.i64
 (IntKind.wrap IntKind.i64
 (IntKind.wrap IntKind.i64
 (IntKind.wrap IntKind.i64 (n + (719468 : Int)) -
 IntKind.wrap IntKind.i64
 ((146097 : Int) *
 IntKind.wrap IntKind.i64
 (Int.tdiv (IntKind.wrap IntKind.i64 (n + (719468 : Int))) (146097 : Int)))) -
 IntKind.wrap IntKind.i64
 (Int.tdiv
 (IntKind.wrap IntKind.i64
 (IntKind.wrap IntKind.i64 (n + (719468 : Int)) -
 IntKind.wrap IntKind.i64
 ((146097 : Int) *
 IntKind.wrap IntKind.i64
 (Int.tdiv (IntKind.wrap IntKind.i64 (n + (719468 : Int))) (146097 : Int)))))
 (1460 : Int))) +
 IntKind.wrap IntKind.i64
 (Int.tdiv
 (IntKind.wrap IntKind.i64
 (IntKind.wrap IntKind.i64 (n + (719468 : Int)) -
 IntKind.wrap IntKind.i64
 ((146097 : Int) *
 IntKind.wrap IntKind.i64
 (Int.tdiv (IntKind.wrap IntKind.i64 (n + (719468 : Int))) (146097 : Int)))))
 (36524 : Int))) -
 IntKind.wrap IntKind.i64
 (Int.tdiv
 (IntKind.wrap IntKind.i64
 (IntKind.wrap IntKind.i64 (n + (719468 : Int)) -
 IntKind.wrap IntKind.i64
 ((146097 : Int) *
 IntKind.wrap IntKind.i64 (Int.tdiv (IntKind.wrap IntKind.i64 (n + (719468 : Int))) (146097 : Int)))))
 (146096 : Int))))
 (365 : Int))) +
 IntKind.wrap IntKind.i64
 (Int.tdiv
 (IntKind.wrap IntKind.i64
 (Int.tdiv
 (IntKind.wrap IntKind.i64
 (IntKind.wrap IntKind.i64
 (IntKind.wrap IntKind.i64
 (IntKind.wrap IntKind.i64
 (IntKind.wrap IntKind.i64 (n + (719468 : Int)) -
 IntKind.wrap IntKind.i64
 ((146097 : Int) *
 IntKind.wrap IntKind.i64
 (Int.tdiv (IntKind.wrap IntKind.i64 (n + (719468 : Int))) (146097 : Int)))) -
 IntKind.wrap IntKind.i64
 (Int.tdiv
 (IntKind.wrap IntKind.i64
 (IntKind.wrap IntKind.i64 (n + (719468 : Int)) -
 IntKind.wrap IntKind.i64
 ((146097 : Int) *
 IntKind.wrap IntKind.i64
 (Int.tdiv (IntKind.wrap IntKind.i64 (n + (719468 : Int))) (146097 : Int)))))
 (1460 : Int))) +
 IntKind.wrap IntKind.i64
 (Int.tdiv
 (IntKind.wrap IntKind.i64
 (IntKind.wrap IntKind.i64 (n + (719468 : Int)) -
 IntKind.wrap IntKind.i64
 ((146097 : Int) *
 IntKind.wrap IntKind.i64
 (Int.tdiv (IntKind.wrap IntKind.i64 (n + (719468 : Int))) (146097 : Int)))))
 (36524 : Int))) -
 IntKind.wrap IntKind.i64
 (Int.tdiv
 (IntKind.wrap IntKind.i64
 (IntKind.wrap IntKind.i64 (n + (719468 : Int)) -
 IntKind.wrap IntKind.i64
 ((146097 : Int) *
 IntKind.wrap IntKind.i64 (Int.tdiv (IntKind.wrap IntKind.i64 (n + (719468 : Int))) (146097 : Int)))))
 (146096 : Int))))
 (365 : Int)))
 (4 : Int))) -
 IntKind.wrap IntKind.i64
 (Int.tdiv
 (IntKind.wrap IntKind.i64
 (Int.tdiv
 (IntKind.wrap IntKind.i64
 (IntKind.wrap IntKind.i64
 (IntKind.wrap IntKind.i64
 (IntKind.wrap IntKind.i64
 (IntKind.wrap IntKind.i64 (n + (719468 : Int)) -
 IntKind.wrap IntKind.i64
 ((146097 : Int) *
 IntKind.wrap IntKind.i64 (Int.tdiv (IntKind.wrap IntKind.i64 (n + (719468 : Int))) (146097 : Int)))) -
 IntKind.wrap IntKind.i64
 (Int.tdiv
 (IntKind.wrap IntKind.i64
 (IntKind.wrap IntKind.i64 (n + (719468 : Int)) -
 IntKind.wrap IntKind.i64
 ((146097 : Int) *
 IntKind.wrap IntKind.i64
 (Int.tdiv (IntKind.wrap IntKind.i64 (n + (719468 : Int))) (146097 : Int)))))
 (1460 : Int))) +
 IntKind.wrap IntKind.i64
 (Int.tdiv
 (IntKind.wrap IntKind.i64
 (IntKind.wrap IntKind.i64 (n + (719468 : Int)) -
 IntKind.wrap IntKind.i64
 ((146097 : Int) *
 IntKind.wrap IntKind.i64 (Int.tdiv (IntKind.wrap IntKind.i64 (n + (719468 : Int))) (146097 : Int)))))
 (36524 : Int))) -
 IntKind.wrap IntKind.i64
 (Int.tdiv
 (IntKind.wrap IntKind.i64
 (IntKind.wrap IntKind.i64 (n + (719468 : Int)) -
 IntKind.wrap IntKind.i64
 ((146097 : Int) *
 IntKind.wrap IntKind.i64 (Int.tdiv (IntKind.wrap IntKind.i64 (n + (719468 : Int))) (146097 : Int)))))
 (146096 : Int))))
 (365 : Int)))
 (100 : Int))))) +
 (2 : Int)))
 (153 : Int)) +
 (3 : Int)) -
 (12 : Int))),
 Value.int IntKind.i64
 (IntKind.wrap IntKind.i64
 (IntKind.wrap IntKind.i64
 (IntKind.wrap IntKind.i64
 (IntKind.wrap IntKind.i64
 (IntKind.wrap IntKind.i64 (n + (719468 : Int)) -
 IntKind.wrap IntKind.i64
 ((146097 : Int) * IntKind.wrap IntKind.i64 (Int.tdiv (IntKind.wrap IntKind.i64 (n + (719468 : Int))) (146097 : Int)))) -
 IntKind.wrap IntKind.i64
 (IntKind.wrap IntKind.i64
 (IntKind.wrap IntKind.i64
 ((365 : Int) *
 IntKind.wrap IntKind.i64
 (Int.tdiv
 (IntKind.wrap IntKind.i64
 (IntKind.wrap IntKind.i64
 (IntKind.wrap IntKind.i64
 (IntKind.wrap IntKind.i64
 (IntKind.wrap IntKind.i64 (n + (719468 : Int)) -
 IntKind.wrap IntKind.i64
 ((146097 : Int) *
 IntKind.wrap IntKind.i64 (Int.tdiv (IntKind.wrap IntKind.i64 (n + (719468 : Int))) (146097 : Int)))) -
 IntKind.wrap IntKind.i64
 (Int.tdiv
 (IntKind.wrap IntKind.i64
 (IntKind.wrap IntKind.i64 (n + (719468 : Int)) -
 IntKind.wrap IntKind.i64
 ((146097 : Int) *
 IntKind.wrap IntKind.i64 (Int.tdiv (IntKind.wrap IntKind.i64 (n + (719468 : Int))) (146097 : Int)))))
 (1460 : Int))) +
 IntKind.wrap IntKind.i64
 (Int.tdiv
 (IntKind.wrap IntKind.i64
 (IntKind.wrap IntKind.i64 (n + (719468 : Int)) -
 IntKind.wrap IntKind.i64
 ((146097 : Int) *
 IntKind.wrap IntKind.i64 (Int.tdiv (IntKind.wrap IntKind.i64 (n + (719468 : Int))) (146097 : Int)))))
 (36524 : Int))) -
 IntKind.wrap IntKind.i64
 (Int.tdiv
 (IntKind.wrap IntKind.i64
 (IntKind.wrap IntKind.i64 (n + (719468 : Int)) -
 IntKind.wrap IntKind.i64
 ((146097 : Int) *
 IntKind.wrap IntKind.i64 (Int.tdiv (IntKind.wrap IntKind.i64 (n + (719468 : Int))) (146097 : Int)))))
 (146096 : Int))))
 (365 : Int))) +
 IntKind.wrap IntKind.i64
 (Int.tdiv
 (IntKind.wrap IntKind.i64
 (Int.tdiv
 (IntKind.wrap IntKind.i64
 (IntKind.wrap IntKind.i64
 (IntKind.wrap IntKind.i64
 (IntKind.wrap IntKind.i64
 (IntKind.wrap IntKind.i64 (n + (719468 : Int)) -
 IntKind.wrap IntKind.i64
 ((146097 : Int) *
 IntKind.wrap IntKind.i64 (Int.tdiv (IntKind.wrap IntKind.i64 (n + (719468 : Int))) (146097 : Int)))) -
 IntKind.wrap IntKind.i64
 (Int.tdiv
 (IntKind.wrap IntKind.i64
 (IntKind.wrap IntKind.i64 (n + (719468 : Int)) -
 IntKind.wrap IntKind.i64
 ((146097 : Int) *
 IntKind.wrap IntKind.i64 (Int.tdiv (IntKind.wrap IntKind.i64 (n + (719468 : Int))) (146097 : Int)))))
 (1460 : Int))) +
 IntKind.wrap IntKind.i64
 (Int.tdiv
 (IntKind.wrap IntKind.i64
 (IntKind.wrap IntKind.i64 (n + (719468 : Int)) -
 IntKind.wrap IntKind.i64
 ((146097 : Int) *
 IntKind.wrap IntKind.i64 (Int.tdiv (IntKind.wrap IntKind.i64 (n + (719468 : Int))) (146097 : Int)))))
 (36524 : Int))) -
 IntKind.wrap IntKind.i64
 (Int.tdiv
 (IntKind.wrap IntKind.i64
 (IntKind.wrap IntKind.i64 (n + (719468 : Int)) -
 IntKind.wrap IntKind.i64
 ((146097 : Int) *
 IntKind.wrap IntKind.i64 (Int.tdiv (IntKind.wrap IntKind.i64 (n + (719468 : Int))) (146097 : Int)))))
 (146096 : Int))))
 (365 : Int)))
 (4 : Int))) -
 IntKind.wrap IntKind.i64
 (Int.tdiv
 (IntKind.wrap IntKind.i64
 (Int.tdiv
 (IntKind.wrap IntKind.i64
 (IntKind.wrap IntKind.i64
 (IntKind.wrap IntKind.i64
 (IntKind.wrap IntKind.i64
 (IntKind.wrap IntKind.i64 (n + (719468 : Int)) -
 IntKind.wrap IntKind.i64
 ((146097 : Int) *
 IntKind.wrap IntKind.i64 (Int.tdiv (IntKind.wrap IntKind.i64 (n + (719468 : Int))) (146097 : Int)))) -
 IntKind.wrap IntKind.i64
 (Int.tdiv
 (IntKind.wrap IntKind.i64
 (IntKind.wrap IntKind.i64 (n + (719468 : Int)) -
 IntKind.wrap IntKind.i64
 ((146097 : Int) *
 IntKind.wrap IntKind.i64 (Int.tdiv (IntKind.wrap IntKind.i64 (n + (719468 : Int))) (146097 : Int)))))
 (1460 : Int))) +
 IntKind.wrap IntKind.i64
 (Int.tdiv
 (IntKind.wrap IntKind.i64
 (IntKind.wrap IntKind.i64 (n + (719468 : Int)) -
 IntKind.wrap IntKind.i64
 ((146097 : Int) *
 IntKind.wrap IntKind.i64 (Int.tdiv (IntKind.wrap IntKind.i64 (n + (719468 : Int))) (146097 : Int)))))
 (36524 : Int))) -
 IntKind.wrap IntKind.i64
 (Int.tdiv
 (IntKind.wrap IntKind.i64
 (IntKind.wrap IntKind.i64 (n + (719468 : Int)) -
 IntKind.wrap IntKind.i64
 ((146097 : Int) * IntKind.wrap IntKind.i64 (Int.tdiv (IntKind.wrap IntKind.i64 (n + (719468 : Int))) (146097 : Int)))))
 (146096 : Int))))
 (365 : Int)))
 (100 : Int)))) -
 IntKind.wrap IntKind.i64
 (Int.tdiv
 (IntKind.wrap IntKind.i64
 (IntKind.wrap IntKind.i64
 ((153 : Int) *
 IntKind.wrap IntKind.i64
 (Int.tdiv
 (IntKind.wrap IntKind.i64
 (IntKind.wrap IntKind.i64
 ((5 : Int) *
 IntKind.wrap IntKind.i64
 (IntKind.wrap IntKind.i64
 (IntKind.wrap IntKind.i64 (n + (719468 : Int)) -
 IntKind.wrap IntKind.i64
 ((146097 : Int) *
 IntKind.wrap IntKind.i64 (Int.tdiv (IntKind.wrap IntKind.i64 (n + (719468 : Int))) (146097 : Int)))) -
 IntKind.wrap IntKind.i64
 (IntKind.wrap IntKind.i64
 (IntKind.wrap IntKind.i64
 ((365 : Int) *
 IntKind.wrap IntKind.i64
 (Int.tdiv
 (IntKind.wrap IntKind.i64
 (IntKind.wrap IntKind.i64
 (IntKind.wrap IntKind.i64
 (IntKind.wrap IntKind.i64
 (IntKind.wrap IntKind.i64 (n + (719468 : Int)) -
 IntKind.wrap IntKind.i64
 ((146097 : Int) *
 IntKind.wrap IntKind.i64
 (Int.tdiv (IntKind.wrap IntKind.i64 (n + (719468 : Int))) (146097 : Int)))) -
 IntKind.wrap IntKind.i64
 (Int.tdiv
 (IntKind.wrap IntKind.i64
 (IntKind.wrap IntKind.i64 (n + (719468 : Int)) -
 IntKind.wrap IntKind.i64
 ((146097 : Int) *
 IntKind.wrap IntKind.i64
 (Int.tdiv (IntKind.wrap IntKind.i64 (n + (719468 : Int))) (146097 : Int)))))
 (1460 : Int))) +
 IntKind.wrap IntKind.i64
 (Int.tdiv
 (IntKind.wrap IntKind.i64
 (IntKind.wrap IntKind.i64 (n + (719468 : Int)) -
 IntKind.wrap IntKind.i64
 ((146097 : Int) *
 IntKind.wrap IntKind.i64
 (Int.tdiv (IntKind.wrap IntKind.i64 (n + (719468 : Int))) (146097 : Int)))))
 (36524 : Int))) -
 IntKind.wrap IntKind.i64
 (Int.tdiv
 (IntKind.wrap IntKind.i64
 (IntKind.wrap IntKind.i64 (n + (719468 : Int)) -
 IntKind.wrap IntKind.i64
 ((146097 : Int) *
 IntKind.wrap IntKind.i64
 (Int.tdiv (IntKind.wrap IntKind.i64 (n + (719468 : Int))) (146097 : Int)))))
 (146096 : Int))))
 (365 : Int))) +
 IntKind.wrap IntKind.i64
 (Int.tdiv
 (IntKind.wrap IntKind.i64
 (Int.tdiv
 (IntKind.wrap IntKind.i64
 (IntKind.wrap IntKind.i64
 (IntKind.wrap IntKind.i64
 (IntKind.wrap IntKind.i64
 (IntKind.wrap IntKind.i64 (n + (719468 : Int)) -
 IntKind.wrap IntKind.i64
 ((146097 : Int) *
 IntKind.wrap IntKind.i64
 (Int.tdiv (IntKind.wrap IntKind.i64 (n + (719468 : Int))) (146097 : Int)))) -
 IntKind.wrap IntKind.i64
 (Int.tdiv
 (IntKind.wrap IntKind.i64
 (IntKind.wrap IntKind.i64 (n + (719468 : Int)) -
 IntKind.wrap IntKind.i64
 ((146097 : Int) *
 IntKind.wrap IntKind.i64
 (Int.tdiv (IntKind.wrap IntKind.i64 (n + (719468 : Int))) (146097 : Int)))))
 (1460 : Int))) +
 IntKind.wrap IntKind.i64
 (Int.tdiv
 (IntKind.wrap IntKind.i64
 (IntKind.wrap IntKind.i64 (n + (719468 : Int)) -
 IntKind.wrap IntKind.i64
 ((146097 : Int) *
 IntKind.wrap IntKind.i64
 (Int.tdiv (IntKind.wrap IntKind.i64 (n + (719468 : Int))) (146097 : Int)))))
 (36524 : Int))) -
 IntKind.wrap IntKind.i64
 (Int.tdiv
 (IntKind.wrap IntKind.i64
 (IntKind.wrap IntKind.i64 (n + (719468 : Int)) -
 IntKind.wrap IntKind.i64
 ((146097 : Int) *
 IntKind.wrap IntKind.i64
 (Int.tdiv (IntKind.wrap IntKind.i64 (n + (719468 : Int))) (146097 : Int)))))
 (146096 : Int))))
 (365 : Int)))
 (4 : Int))) -
 IntKind.wrap IntKind.i64
 (Int.tdiv
 (IntKind.wrap IntKind.i64
 (Int.tdiv
 (IntKind.wrap IntKind.i64
 (IntKind.wrap IntKind.i64
 (IntKind.wrap IntKind.i64
 (IntKind.wrap IntKind.i64
 (IntKind.wrap IntKind.i64 (n + (719468 : Int)) -
 IntKind.wrap IntKind.i64
 ((146097 : Int) *
 IntKind.wrap IntKind.i64
 (Int.tdiv (IntKind.wrap IntKind.i64 (n + (719468 : Int))) (146097 : Int)))) -
 IntKind.wrap IntKind.i64
 (Int.tdiv
 (IntKind.wrap IntKind.i64
 (IntKind.wrap IntKind.i64 (n + (719468 : Int)) -
 IntKind.wrap IntKind.i64
 ((146097 : Int) *
 IntKind.wrap IntKind.i64
 (Int.tdiv (IntKind.wrap IntKind.i64 (n + (719468 : Int))) (146097 : Int)))))
 (1460 : Int))) +
 IntKind.wrap IntKind.i64
 (Int.tdiv
 (IntKind.wrap IntKind.i64
 (IntKind.wrap IntKind.i64 (n + (719468 : Int)) -
 IntKind.wrap IntKind.i64
 ((146097 : Int) *
 IntKind.wrap IntKind.i64
 (Int.tdiv (IntKind.wrap IntKind.i64 (n + (719468 : Int))) (146097 : Int)))))
 (36524 : Int))) -
 IntKind.wrap IntKind.i64
 (Int.tdiv
 (IntKind.wrap IntKind.i64
 (IntKind.wrap IntKind.i64 (n + (719468 : Int)) -
 IntKind.wrap IntKind.i64
 ((146097 : Int) *
 IntKind.wrap IntKind.i64
 (Int.tdiv (IntKind.wrap IntKind.i64 (n + (719468 : Int))) (146097 : Int)))))
 (146096 : Int))))
 (365 : Int)))
 (100 : Int))))) +
 (2 : Int)))
 (153 : Int))) +
 (2 : Int)))
 (5 : Int))) +
 (1 : Int)))]),
 Value.bool Bool.true]))
 (10 : Nat)) ∧
 (¬dateOk
 (IntKind.wrap IntKind.i64
 (IntKind.wrap IntKind.i64
 (IntKind.wrap IntKind.i64 ((400 : Int) * IntKind.wrap IntKind.i64 (Int.tdiv (IntKind.wrap IntKind.i64 (n + (719468 : Int))) (146097 : Int))) +
 IntKind.wrap IntKind.i64
 (Int.tdiv
 (IntKind.wrap IntKind.i64
 (IntKind.wrap IntKind.i64
 (IntKind.wrap IntKind.i64
 (IntKind.wrap IntKind.i64
 (IntKind.wrap IntKind.i64 (n + (719468 : Int)) -
 IntKind.wrap IntKind.i64
 ((146097 : Int) * IntKind.wrap IntKind.i64 (Int.tdiv (IntKind.wrap IntKind.i64 (n + (719468 : Int))) (146097 : Int)))) -
 IntKind.wrap IntKind.i64
 (Int.tdiv
 (IntKind.wrap IntKind.i64
 (IntKind.wrap IntKind.i64 (n + (719468 : Int)) -
 IntKind.wrap IntKind.i64
 ((146097 : Int) * IntKind.wrap IntKind.i64 (Int.tdiv (IntKind.wrap IntKind.i64 (n + (719468 : Int))) (146097 : Int)))))
 (1460 : Int))) +
 IntKind.wrap IntKind.i64
 (Int.tdiv
 (IntKind.wrap IntKind.i64
 (IntKind.wrap IntKind.i64 (n + (719468 : Int)) -
 IntKind.wrap IntKind.i64
 ((146097 : Int) * IntKind.wrap IntKind.i64 (Int.tdiv (IntKind.wrap IntKind.i64 (n + (719468 : Int))) (146097 : Int)))))
 (36524 : Int))) -
 IntKind.wrap IntKind.i64
 (Int.tdiv
 (IntKind.wrap IntKind.i64
 (IntKind.wrap IntKind.i64 (n + (719468 : Int)) -
 IntKind.wrap IntKind.i64
 ((146097 : Int) * IntKind.wrap IntKind.i64 (Int.tdiv (IntKind.wrap IntKind.i64 (n + (719468 : Int))) (146097 : Int)))))
 (146096 : Int))))
 (365 : Int))) +
 (1 : Int)))
 (IntKind.wrap IntKind.i64
 (IntKind.wrap IntKind.i64
 (IntKind.wrap IntKind.i64
 (Int.tdiv
 (IntKind.wrap IntKind.i64
 (IntKind.wrap IntKind.i64
 ((5 : Int) *
 IntKind.wrap IntKind.i64
 (IntKind.wrap IntKind.i64
 (IntKind.wrap IntKind.i64 (n + (719468 : Int)) -
 IntKind.wrap IntKind.i64
 ((146097 : Int) * IntKind.wrap IntKind.i64 (Int.tdiv (IntKind.wrap IntKind.i64 (n + (719468 : Int))) (146097 : Int)))) -
 IntKind.wrap IntKind.i64
 (IntKind.wrap IntKind.i64
 (IntKind.wrap IntKind.i64
 ((365 : Int) *
 IntKind.wrap IntKind.i64
 (Int.tdiv
 (IntKind.wrap IntKind.i64
 (IntKind.wrap IntKind.i64
 (IntKind.wrap IntKind.i64
 (IntKind.wrap IntKind.i64
 (IntKind.wrap IntKind.i64 (n + (719468 : Int)) -
 IntKind.wrap IntKind.i64
 ((146097 : Int) *
 IntKind.wrap IntKind.i64 (Int.tdiv (IntKind.wrap IntKind.i64 (n + (719468 : Int))) (146097 : Int)))) -
 IntKind.wrap IntKind.i64
 (Int.tdiv
 (IntKind.wrap IntKind.i64
 (IntKind.wrap IntKind.i64 (n + (719468 : Int)) -
 IntKind.wrap IntKind.i64
 ((146097 : Int) *
 IntKind.wrap IntKind.i64 (Int.tdiv (IntKind.wrap IntKind.i64 (n + (719468 : Int))) (146097 : Int)))))
 (1460 : Int))) +
 IntKind.wrap IntKind.i64
 (Int.tdiv
 (IntKind.wrap IntKind.i64
 (IntKind.wrap IntKind.i64 (n + (719468 : Int)) -
 IntKind.wrap IntKind.i64
 ((146097 : Int) *
 IntKind.wrap IntKind.i64 (Int.tdiv (IntKind.wrap IntKind.i64 (n + (719468 : Int))) (146097 : Int)))))
 (36524 : Int))) -
 IntKind.wrap IntKind.i64
 (Int.tdiv
 (IntKind.wrap IntKind.i64
 (IntKind.wrap IntKind.i64 (n + (719468 : Int)) -
 IntKind.wrap IntKind.i64
 ((146097 : Int) *
 IntKind.wrap IntKind.i64 (Int.tdiv (IntKind.wrap IntKind.i64 (n + (719468 : Int))) (146097 : Int)))))
 (146096 : Int))))
 (365 : Int))) +
 IntKind.wrap IntKind.i64
 (Int.tdiv
 (IntKind.wrap IntKind.i64
 (Int.tdiv
 (IntKind.wrap IntKind.i64
 (IntKind.wrap IntKind.i64
 (IntKind.wrap IntKind.i64
 (IntKind.wrap IntKind.i64
 (IntKind.wrap IntKind.i64 (n + (719468 : Int)) -
 IntKind.wrap IntKind.i64
 ((146097 : Int) *
 IntKind.wrap IntKind.i64 (Int.tdiv (IntKind.wrap IntKind.i64 (n + (719468 : Int))) (146097 : Int)))) -
 IntKind.wrap IntKind.i64
 (Int.tdiv
 (IntKind.wrap IntKind.i64
 (IntKind.wrap IntKind.i64 (n + (719468 : Int)) -
 IntKind.wrap IntKind.i64
 ((146097 : Int) *
 IntKind.wrap IntKind.i64 (Int.tdiv (IntKind.wrap IntKind.i64 (n + (719468 : Int))) (146097 : Int)))))
 (1460 : Int))) +
 IntKind.wrap IntKind.i64
 (Int.tdiv
 (IntKind.wrap IntKind.i64
 (IntKind.wrap IntKind.i64 (n + (719468 : Int)) -
 IntKind.wrap IntKind.i64
 ((146097 : Int) *
 IntKind.wrap IntKind.i64 (Int.tdiv (IntKind.wrap IntKind.i64 (n + (719468 : Int))) (146097 : Int)))))
 (36524 : Int))) -
 IntKind.wrap IntKind.i64
 (Int.tdiv
 (IntKind.wrap IntKind.i64
 (IntKind.wrap IntKind.i64 (n + (719468 : Int)) -
 IntKind.wrap IntKind.i64
 ((146097 : Int) *
 IntKind.wrap IntKind.i64 (Int.tdiv (IntKind.wrap IntKind.i64 (n + (719468 : Int))) (146097 : Int)))))
 (146096 : Int))))
 (365 : Int)))
 (4 : Int))) -
 IntKind.wrap IntKind.i64
 (Int.tdiv
 (IntKind.wrap IntKind.i64
 (Int.tdiv
 (IntKind.wrap IntKind.i64
 (IntKind.wrap IntKind.i64
 (IntKind.wrap IntKind.i64
 (IntKind.wrap IntKind.i64
 (IntKind.wrap IntKind.i64 (n + (719468 : Int)) -
 IntKind.wrap IntKind.i64
 ((146097 : Int) *
 IntKind.wrap IntKind.i64 (Int.tdiv (IntKind.wrap IntKind.i64 (n + (719468 : Int))) (146097 : Int)))) -
 IntKind.wrap IntKind.i64
 (Int.tdiv
 (IntKind.wrap IntKind.i64
 (IntKind.wrap IntKind.i64 (n + (719468 : Int)) -
 IntKind.wrap IntKind.i64
 ((146097 : Int) *
 IntKind.wrap IntKind.i64 (Int.tdiv (IntKind.wrap IntKind.i64 (n + (719468 : Int))) (146097 : Int)))))
 (1460 : Int))) +
 IntKind.wrap IntKind.i64
 (Int.tdiv
 (IntKind.wrap IntKind.i64
 (IntKind.wrap IntKind.i64 (n + (719468 : Int)) -
 IntKind.wrap IntKind.i64
 ((146097 : Int) *
 IntKind.wrap IntKind.i64 (Int.tdiv (IntKind.wrap IntKind.i64 (n + (719468 : Int))) (146097 : Int)))))
 (36524 : Int))) -
 IntKind.wrap IntKind.i64
 (Int.tdiv
 (IntKind.wrap IntKind.i64
 (IntKind.wrap IntKind.i64 (n + (719468 : Int)) -
 IntKind.wrap IntKind.i64
 ((146097 : Int) * IntKind.wrap IntKind.i64 (Int.tdiv (IntKind.wrap IntKind.i64 (n + (719468 : Int))) (146097 : Int)))))
 (146096 : Int))))
 (365 : Int)))
 (100 : Int))))) +
 (2 : Int)))
 (153 : Int)) +
 (3 : Int)) -
 (12 : Int)))
 (IntKind.wrap IntKind.i64
 (IntKind.wrap IntKind.i64
 (IntKind.wrap IntKind.i64
 (IntKind.wrap IntKind.i64
 (IntKind.wrap IntKind.i64 (n + (719468 : Int)) -
 IntKind.wrap IntKind.i64 ((146097 : Int) * IntKind.wrap IntKind.i64 (Int.tdiv (IntKind.wrap IntKind.i64 (n + (719468 : Int))) (146097 : Int)))) -
 IntKind.wrap IntKind.i64
 (IntKind.wrap IntKind.i64
 (IntKind.wrap IntKind.i64
 ((365 : Int) *
 IntKind.wrap IntKind.i64
 (Int.tdiv
 (IntKind.wrap IntKind.i64
 (IntKind.wrap IntKind.i64
 (IntKind.wrap IntKind.i64
 (IntKind.wrap IntKind.i64
 (IntKind.wrap IntKind.i64 (n + (719468 : Int)) -
 IntKind.wrap IntKind.i64
 ((146097 : Int) * IntKind.wrap IntKind.i64 (Int.tdiv (IntKind.wrap IntKind.i64 (n + (719468 : Int))) (146097 : Int)))) -
 IntKind.wrap IntKind.i64
 (Int.tdiv
 (IntKind.wrap IntKind.i64
 (IntKind.wrap IntKind.i64 (n + (719468 : Int)) -
 IntKind.wrap IntKind.i64
 ((146097 : Int) * IntKind.wrap IntKind.i64 (Int.tdiv (IntKind.wrap IntKind.i64 (n + (719468 : Int))) (146097 : Int)))))
 (1460 : Int))) +
 IntKind.wrap IntKind.i64
 (Int.tdiv
 (IntKind.wrap IntKind.i64
 (IntKind.wrap IntKind.i64 (n + (719468 : Int)) -
 IntKind.wrap IntKind.i64
 ((146097 : Int) * IntKind.wrap IntKind.i64 (Int.tdiv (IntKind.wrap IntKind.i64 (n + (719468 : Int))) (146097 : Int)))))
 (36524 : Int))) -
 IntKind.wrap IntKind.i64
 (Int.tdiv
 (IntKind.wrap IntKind.i64
 (IntKind.wrap IntKind.i64 (n + (719468 : Int)) -
 IntKind.wrap IntKind.i64
 ((146097 : Int) * IntKind.wrap IntKind.i64 (Int.tdiv (IntKind.wrap IntKind.i64 (n + (719468 : Int))) (146097 : Int)))))
 (146096 : Int))))
 (365 : Int))) +
 IntKind.wrap IntKind.i64
 (Int.tdiv
 (IntKind.wrap IntKind.i64
 (Int.tdiv
 (IntKind.wrap IntKind.i64
 (IntKind.wrap IntKind.i64
 (IntKind.wrap IntKind.i64
 (IntKind.wrap IntKind.i64
 (IntKind.wrap IntKind.i64 (n + (719468 : Int)) -
 IntKind.wrap IntKind.i64
 ((146097 : Int) * IntKind.wrap IntKind.i64 (Int.tdiv (IntKind.wrap IntKind.i64 (n + (719468 : Int))) (146097 : Int)))) -
 IntKind.wrap IntKind.i64
 (Int.tdiv
 (IntKind.wrap IntKind.i64
 (IntKind.wrap IntKind.i64 (n + (719468 : Int)) -
 IntKind.wrap IntKind.i64
 ((146097 : Int) * IntKind.wrap IntKind.i64 (Int.tdiv (IntKind.wrap IntKind.i64 (n + (719468 : Int))) (146097 : Int)))))
 (1460 : Int))) +
 IntKind.wrap IntKind.i64
 (Int.tdiv
 (IntKind.wrap IntKind.i64
 (IntKind.wrap IntKind.i64 (n + (719468 : Int)) -
 IntKind.wrap IntKind.i64
 ((146097 : Int) * IntKind.wrap IntKind.i64 (Int.tdiv (IntKind.wrap IntKind.i64 (n + (719468 : Int))) (146097 : Int)))))
 (36524 : Int))) -
 IntKind.wrap IntKind.i64
 (Int.tdiv
 (IntKind.wrap IntKind.i64
 (IntKind.wrap IntKind.i64 (n + (719468 : Int)) -
 IntKind.wrap IntKind.i64
 ((146097 : Int) * IntKind.wrap IntKind.i64 (Int.tdiv (IntKind.wrap IntKind.i64 (n + (719468 : Int))) (146097 : Int)))))
 (146096 : Int))))
 (365 : Int)))
 (4 : Int))) -
 IntKind.wrap IntKind.i64
 (Int.tdiv
 (IntKind.wrap IntKind.i64
 (Int.tdiv
 (IntKind.wrap IntKind.i64
 (IntKind.wrap IntKind.i64
 (IntKind.wrap IntKind.i64
 (IntKind.wrap IntKind.i64
 (IntKind.wrap IntKind.i64 (n + (719468 : Int)) -
 IntKind.wrap IntKind.i64
 ((146097 : Int) * IntKind.wrap IntKind.i64 (Int.tdiv (IntKind.wrap IntKind.i64 (n + (719468 : Int))) (146097 : Int)))) -
 IntKind.wrap IntKind.i64
 (Int.tdiv
 (IntKind.wrap IntKind.i64
 (IntKind.wrap IntKind.i64 (n + (719468 : Int)) -
 IntKind.wrap IntKind.i64
 ((146097 : Int) * IntKind.wrap IntKind.i64 (Int.tdiv (IntKind.wrap IntKind.i64 (n + (719468 : Int))) (146097 : Int)))))
 (1460 : Int))) +
 IntKind.wrap IntKind.i64
 (Int.tdiv
 (IntKind.wrap IntKind.i64
 (IntKind.wrap IntKind.i64 (n + (719468 : Int)) -
 IntKind.wrap IntKind.i64
 ((146097 : Int) * IntKind.wrap IntKind.i64 (Int.tdiv (IntKind.wrap IntKind.i64 (n + (719468 : Int))) (146097 : Int)))))
 (36524 : Int))) -
 IntKind.wrap IntKind.i64
 (Int.tdiv
 (IntKind.wrap IntKind.i64
 (IntKind.wrap IntKind.i64 (n + (719468 : Int)) -
 IntKind.wrap IntKind.i64
 ((146097 : Int) * IntKind.wrap IntKind.i64 (Int.tdiv (IntKind.wrap IntKind.i64 (n + (719468 : Int))) (146097 : Int)))))
 (146096 : Int))))
 (365 : Int)))
 (100 : Int)))) -
 IntKind.wrap IntKind.i64
 (Int.tdiv
 (IntKind.wrap IntKind.i64
 (IntKind.wrap IntKind.i64
 ((153 : Int) *
 IntKind.wrap IntKind.i64
 (Int.tdiv
 (IntKind.wrap IntKind.i64
 (IntKind.wrap IntKind.i64
 ((5 : Int) *
 IntKind.wrap IntKind.i64
 (IntKind.wrap IntKind.i64
 (IntKind.wrap IntKind.i64 (n + (719468 : Int)) -
 IntKind.wrap IntKind.i64
 ((146097 : Int) * IntKind.wrap IntKind.i64 (Int.tdiv (IntKind.wrap IntKind.i64 (n + (719468 : Int))) (146097 : Int)))) -
 IntKind.wrap IntKind.i64
 (IntKind.wrap IntKind.i64
 (IntKind.wrap IntKind.i64
 ((365 : Int) *
 IntKind.wrap IntKind.i64
 (Int.tdiv
 (IntKind.wrap IntKind.i64
 (IntKind.wrap IntKind.i64
 (IntKind.wrap IntKind.i64
 (IntKind.wrap IntKind.i64
 (IntKind.wrap IntKind.i64 (n + (719468 : Int)) -
 IntKind.wrap IntKind.i64
 ((146097 : Int) *
 IntKind.wrap IntKind.i64
 (Int.tdiv (IntKind.wrap IntKind.i64 (n + (719468 : Int))) (146097 : Int)))) -
 IntKind.wrap IntKind.i64
 (Int.tdiv
 (IntKind.wrap IntKind.i64
 (IntKind.wrap IntKind.i64 (n + (719468 : Int)) -
 IntKind.wrap IntKind.i64
 ((146097 : Int) *
 IntKind.wrap IntKind.i64
 (Int.tdiv (IntKind.wrap IntKind.i64 (n + (719468 : Int))) (146097 : Int)))))
 (1460 : Int))) +
 IntKind.wrap IntKind.i64
 (Int.tdiv
 (IntKind.wrap IntKind.i64
 (IntKind.wrap IntKind.i64 (n + (719468 : Int)) -
 IntKind.wrap IntKind.i64
 ((146097 : Int) *
 IntKind.wrap IntKind.i64
 (Int.tdiv (IntKind.wrap IntKind.i64 (n + (719468 : Int))) (146097 : Int)))))
 (36524 : Int))) -
 IntKind.wrap IntKind.i64
 (Int.tdiv
 (IntKind.wrap IntKind.i64
 (IntKind.wrap IntKind.i64 (n + (719468 : Int)) -
 IntKind.wrap IntKind.i64
 ((146097 : Int) *
 IntKind.wrap IntKind.i64 (Int.tdiv (IntKind.wrap IntKind.i64 (n + (719468 : Int))) (146097 : Int)))))
 (146096 : Int))))
 (365 : Int))) +
 IntKind.wrap IntKind.i64
 (Int.tdiv
 (IntKind.wrap IntKind.i64
 (Int.tdiv
 (IntKind.wrap IntKind.i64
 (IntKind.wrap IntKind.i64
 (IntKind.wrap IntKind.i64
 (IntKind.wrap IntKind.i64
 (IntKind.wrap IntKind.i64 (n + (719468 : Int)) -
 IntKind.wrap IntKind.i64
 ((146097 : Int) *
 IntKind.wrap IntKind.i64
 (Int.tdiv (IntKind.wrap IntKind.i64 (n + (719468 : Int))) (146097 : Int)))) -
 IntKind.wrap IntKind.i64
 (Int.tdiv
 (IntKind.wrap IntKind.i64
 (IntKind.wrap IntKind.i64 (n + (719468 : Int)) -
 IntKind.wrap IntKind.i64
 ((146097 : Int) *
 IntKind.wrap IntKind.i64
 (Int.tdiv (IntKind.wrap IntKind.i64 (n + (719468 : Int))) (146097 : Int)))))
 (1460 : Int))) +
 IntKind.wrap IntKind.i64
 (Int.tdiv
 (IntKind.wrap IntKind.i64
 (IntKind.wrap IntKind.i64 (n + (719468 : Int)) -
 IntKind.wrap IntKind.i64
 ((146097 : Int) *
 IntKind.wrap IntKind.i64
 (Int.tdiv (IntKind.wrap IntKind.i64 (n + (719468 : Int))) (146097 : Int)))))
 (36524 : Int))) -
 IntKind.wrap IntKind.i64
 (Int.tdiv
 (IntKind.wrap IntKind.i64
 (IntKind.wrap IntKind.i64 (n + (719468 : Int)) -
 IntKind.wrap IntKind.i64
 ((146097 : Int) *
 IntKind.wrap IntKind.i64 (Int.tdiv (IntKind.wrap IntKind.i64 (n + (719468 : Int))) (146097 : Int)))))
 (146096 : Int))))
 (365 : Int)))
 (4 : Int))) -
 IntKind.wrap IntKind.i64
 (Int.tdiv
 (IntKind.wrap IntKind.i64
 (Int.tdiv
 (IntKind.wrap IntKind.i64
 (IntKind.wrap IntKind.i64
 (IntKind.wrap IntKind.i64
 (IntKind.wrap IntKind.i64
 (IntKind.wrap IntKind.i64 (n + (719468 : Int)) -
 IntKind.wrap IntKind.i64
 ((146097 : Int) *
 IntKind.wrap IntKind.i64 (Int.tdiv (IntKind.wrap IntKind.i64 (n + (719468 : Int))) (146097 : Int)))) -
 IntKind.wrap IntKind.i64
 (Int.tdiv
 (IntKind.wrap IntKind.i64
 (IntKind.wrap IntKind.i64 (n + (719468 : Int)) -
 IntKind.wrap IntKind.i64
 ((146097 : Int) *
 IntKind.wrap IntKind.i64
 (Int.tdiv (IntKind.wrap IntKind.i64 (n + (719468 : Int))) (146097 : Int)))))
 (1460 : Int))) +
 IntKind.wrap IntKind.i64
 (Int.tdiv
 (IntKind.wrap IntKind.i64
 (IntKind.wrap IntKind.i64 (n + (719468 : Int)) -
 IntKind.wrap IntKind.i64
 ((146097 : Int) *
 IntKind.wrap IntKind.i64 (Int.tdiv (IntKind.wrap IntKind.i64 (n + (719468 : Int))) (146097 : Int)))))
 (36524 : Int))) -
 IntKind.wrap IntKind.i64
 (Int.tdiv
 (IntKind.wrap IntKind.i64
 (IntKind.wrap IntKind.i64 (n + (719468 : Int)) -
 IntKind.wrap IntKind.i64
 ((146097 : Int) *
 IntKind.wrap IntKind.i64 (Int.tdiv (IntKind.wrap IntKind.i64 (n + (719468 : Int))) (146097 : Int)))))
 (146096 : Int))))
 (365 : Int)))
 (100 : Int))))) +
 (2 : Int)))
 (153 : Int))) +
 (2 : Int)))
 (5 : Int))) +
 (1 : Int))) →
 K
 (Value.tuple
 (Array.mk
 [Value.agg (Array.mk [Value.int IntKind.i64 (Int.ofNat (0 : Nat)), Value.int IntKind.i64 (Int.ofNat (0 : Nat)), Value.int IntKind.i64 (Int.ofNat (0 : Nat))]),
 Value.bool Bool.false]))
 (10 : Nat)))
 ((dateOk
 (IntKind.wrap IntKind.i64
 (IntKind.wrap IntKind.i64 ((400 : Int) * IntKind.wrap IntKind.i64 (Int.tdiv (IntKind.wrap IntKind.i64 (n + (719468 : Int))) (146097 : Int))) +
 IntKind.wrap IntKind.i64
 (Int.tdiv
 (IntKind.wrap IntKind.i64
 (IntKind.wrap IntKind.i64
 (IntKind.wrap IntKind.i64
 (IntKind.wrap IntKind.i64
 (IntKind.wrap IntKind.i64 (n + (719468 : Int)) -
 IntKind.wrap IntKind.i64
 ((146097 : Int) * IntKind.wrap IntKind.i64 (Int.tdiv (IntKind.wrap IntKind.i64 (n + (719468 : Int))) (146097 : Int)))) -
 IntKind.wrap IntKind.i64
 (Int.tdiv
 (IntKind.wrap IntKind.i64
 (IntKind.wrap IntKind.i64 (n + (719468 : Int)) -
 IntKind.wrap IntKind.i64
 ((146097 : Int) * IntKind.wrap IntKind.i64 (Int.tdiv (IntKind.wrap IntKind.i64 (n + (719468 : Int))) (146097 : Int)))))
 (1460 : Int))) +
 IntKind.wrap IntKind.i64
 (Int.tdiv
 (IntKind.wrap IntKind.i64
 (IntKind.wrap IntKind.i64 (n + (719468 : Int)) -
 IntKind.wrap IntKind.i64 ((146097 : Int) * IntKind.wrap IntKind.i64 (Int.tdiv (IntKind.wrap IntKind.i64 (n + (719468 : Int))) (146097 : Int)))))
 (36524 : Int))) -
 IntKind.wrap IntKind.i64
 (Int.tdiv
 (IntKind.wrap IntKind.i64
 (IntKind.wrap IntKind.i64 (n + (719468 : Int)) -
 IntKind.wrap IntKind.i64 ((146097 : Int) * IntKind.wrap IntKind.i64 (Int.tdiv (IntKind.wrap IntKind.i64 (n + (719468 : Int))) (146097 : Int)))))
 (146096 : Int))))
 (365 : Int))))
 (IntKind.wrap IntKind.i64
 (IntKind.wrap IntKind.i64
 (Int.tdiv
 (IntKind.wrap IntKind.i64
 (IntKind.wrap IntKind.i64
 ((5 : Int) *
 IntKind.wrap IntKind.i64
 (IntKind.wrap IntKind.i64
 (IntKind.wrap IntKind.i64 (n + (719468 : Int)) -
 IntKind.wrap IntKind.i64
 ((146097 : Int) * IntKind.wrap IntKind.i64 (Int.tdiv (IntKind.wrap IntKind.i64 (n + (719468 : Int))) (146097 : Int)))) -
 IntKind.wrap IntKind.i64
 (IntKind.wrap IntKind.i64
 (IntKind.wrap IntKind.i64
 ((365 : Int) *
 IntKind.wrap IntKind.i64
 (Int.tdiv
 (IntKind.wrap IntKind.i64
 (IntKind.wrap IntKind.i64
 (IntKind.wrap IntKind.i64
 (IntKind.wrap IntKind.i64
 (IntKind.wrap IntKind.i64 (n + (719468 : Int)) -
 IntKind.wrap IntKind.i64
 ((146097 : Int) * IntKind.wrap IntKind.i64 (Int.tdiv (IntKind.wrap IntKind.i64 (n + (719468 : Int))) (146097 : Int)))) -
 IntKind.wrap IntKind.i64
 (Int.tdiv
 (IntKind.wrap IntKind.i64
 (IntKind.wrap IntKind.i64 (n + (719468 : Int)) -
 IntKind.wrap IntKind.i64
 ((146097 : Int) *
 IntKind.wrap IntKind.i64 (Int.tdiv (IntKind.wrap IntKind.i64 (n + (719468 : Int))) (146097 : Int)))))
 (1460 : Int))) +
 IntKind.wrap IntKind.i64
 (Int.tdiv
 (IntKind.wrap IntKind.i64
 (IntKind.wrap IntKind.i64 (n + (719468 : Int)) -
 IntKind.wrap IntKind.i64
 ((146097 : Int) * IntKind.wrap IntKind.i64 (Int.tdiv (IntKind.wrap IntKind.i64 (n + (719468 : Int))) (146097 : Int)))))
 (36524 : Int))) -
 IntKind.wrap IntKind.i64
 (Int.tdiv
 (IntKind.wrap IntKind.i64
 (IntKind.wrap IntKind.i64 (n + (719468 : Int)) -
 IntKind.wrap IntKind.i64
 ((146097 : Int) * IntKind.wrap IntKind.i64 (Int.tdiv (IntKind.wrap IntKind.i64 (n + (719468 : Int))) (146097 : Int)))))
 (146096 : Int))))
 (365 : Int))) +
 IntKind.wrap IntKind.i64
 (Int.tdiv
 (IntKind.wrap IntKind.i64
 (Int.tdiv
 (IntKind.wrap IntKind.i64
 (IntKind.wrap IntKind.i64
 (IntKind.wrap IntKind.i64
 (IntKind.wrap IntKind.i64
 (IntKind.wrap IntKind.i64 (n + (719468 : Int)) -
 IntKind.wrap IntKind.i64
 ((146097 : Int) * IntKind.wrap IntKind.i64 (Int.tdiv (IntKind.wrap IntKind.i64 (n + (719468 : Int))) (146097 : Int)))) -
 IntKind.wrap IntKind.i64
 (Int.tdiv
 (IntKind.wrap IntKind.i64
 (IntKind.wrap IntKind.i64 (n + (719468 : Int)) -
 IntKind.wrap IntKind.i64
 ((146097 : Int) *
 IntKind.wrap IntKind.i64 (Int.tdiv (IntKind.wrap IntKind.i64 (n + (719468 : Int))) (146097 : Int)))))
 (1460 : Int))) +
 IntKind.wrap IntKind.i64
 (Int.tdiv
 (IntKind.wrap IntKind.i64
 (IntKind.wrap IntKind.i64 (n + (719468 : Int)) -
 IntKind.wrap IntKind.i64
 ((146097 : Int) * IntKind.wrap IntKind.i64 (Int.tdiv (IntKind.wrap IntKind.i64 (n + (719468 : Int))) (146097 : Int)))))
 (36524 : Int))) -
 IntKind.wrap IntKind.i64
 (Int.tdiv
 (IntKind.wrap IntKind.i64
 (IntKind.wrap IntKind.i64 (n + (719468 : Int)) -
 IntKind.wrap IntKind.i64
 ((146097 : Int) * IntKind.wrap IntKind.i64 (Int.tdiv (IntKind.wrap IntKind.i64 (n + (719468 : Int))) (146097 : Int)))))
 (146096 : Int))))
 (365 : Int)))
 (4 : Int))) -
 IntKind.wrap IntKind.i64
 (Int.tdiv
 (IntKind.wrap IntKind.i64
 (Int.tdiv
 (IntKind.wrap IntKind.i64
 (IntKind.wrap IntKind.i64
 (IntKind.wrap IntKind.i64
 (IntKind.wrap IntKind.i64
 (IntKind.wrap IntKind.i64 (n + (719468 : Int)) -
 IntKind.wrap IntKind.i64
 ((146097 : Int) * IntKind.wrap IntKind.i64 (Int.tdiv (IntKind.wrap IntKind.i64 (n + (719468 : Int))) (146097 : Int)))) -
 IntKind.wrap IntKind.i64
 (Int.tdiv
 (IntKind.wrap IntKind.i64
 (IntKind.wrap IntKind.i64 (n + (719468 : Int)) -
 IntKind.wrap IntKind.i64
 ((146097 : Int) * IntKind.wrap IntKind.i64 (Int.tdiv (IntKind.wrap IntKind.i64 (n + (719468 : Int))) (146097 : Int)))))
 (1460 : Int))) +
 IntKind.wrap IntKind.i64
 (Int.tdiv
 (IntKind.wrap IntKind.i64
 (IntKind.wrap IntKind.i64 (n + (719468 : Int)) -
 IntKind.wrap IntKind.i64
 ((146097 : Int) * IntKind.wrap IntKind.i64 (Int.tdiv (IntKind.wrap IntKind.i64 (n + (719468 : Int))) (146097 : Int)))))
 (36524 : Int))) -
 IntKind.wrap IntKind.i64
 (Int.tdiv
 (IntKind.wrap IntKind.i64
 (IntKind.wrap IntKind.i64 (n + (719468 : Int)) -
 IntKind.wrap IntKind.i64
 ((146097 : Int) * IntKind.wrap IntKind.i64 (Int.tdiv (IntKind.wrap IntKind.i64 (n + (719468 : Int))) (146097 : Int)))))
 (146096 : Int))))
 (365 : Int)))
 (100 : Int))))) +
 (2 : Int)))
 (153 : Int)) +
 (3 : Int)))
 (IntKind.wrap IntKind.i64
 (IntKind.wrap IntKind.i64
 (IntKind.wrap IntKind.i64
 (IntKind.wrap IntKind.i64
 (IntKind.wrap IntKind.i64 (n + (719468 : Int)) -
 IntKind.wrap IntKind.i64 ((146097 : Int) * IntKind.wrap IntKind.i64 (Int.tdiv (IntKind.wrap IntKind.i64 (n + (719468 : Int))) (146097 : Int)))) -
 IntKind.wrap IntKind.i64
 (IntKind.wrap IntKind.i64
 (IntKind.wrap IntKind.i64
 ((365 : Int) *
 IntKind.wrap IntKind.i64
 (Int.tdiv
 (IntKind.wrap IntKind.i64
 (IntKind.wrap IntKind.i64
 (IntKind.wrap IntKind.i64
 (IntKind.wrap IntKind.i64
 (IntKind.wrap IntKind.i64 (n + (719468 : Int)) -
 IntKind.wrap IntKind.i64
 ((146097 : Int) * IntKind.wrap IntKind.i64 (Int.tdiv (IntKind.wrap IntKind.i64 (n + (719468 : Int))) (146097 : Int)))) -
 IntKind.wrap IntKind.i64
 (Int.tdiv
 (IntKind.wrap IntKind.i64
 (IntKind.wrap IntKind.i64 (n + (719468 : Int)) -
 IntKind.wrap IntKind.i64
 ((146097 : Int) * IntKind.wrap IntKind.i64 (Int.tdiv (IntKind.wrap IntKind.i64 (n + (719468 : Int))) (146097 : Int)))))
 (1460 : Int))) +
 IntKind.wrap IntKind.i64
 (Int.tdiv
 (IntKind.wrap IntKind.i64
 (IntKind.wrap IntKind.i64 (n + (719468 : Int)) -
 IntKind.wrap IntKind.i64
 ((146097 : Int) * IntKind.wrap IntKind.i64 (Int.tdiv (IntKind.wrap IntKind.i64 (n + (719468 : Int))) (146097 : Int)))))
 (36524 : Int))) -
 IntKind.wrap IntKind.i64
 (Int.tdiv
 (IntKind.wrap IntKind.i64
 (IntKind.wrap IntKind.i64 (n + (719468 : Int)) -
 IntKind.wrap IntKind.i64
 ((146097 : Int) * IntKind.wrap IntKind.i64 (Int.tdiv (IntKind.wrap IntKind.i64 (n + (719468 : Int))) (146097 : Int)))))
 (146096 : Int))))
 (365 : Int))) +
 IntKind.wrap IntKind.i64
 (Int.tdiv
 (IntKind.wrap IntKind.i64
 (Int.tdiv
 (IntKind.wrap IntKind.i64
 (IntKind.wrap IntKind.i64
 (IntKind.wrap IntKind.i64
 (IntKind.wrap IntKind.i64
 (IntKind.wrap IntKind.i64 (n + (719468 : Int)) -
 IntKind.wrap IntKind.i64
 ((146097 : Int) * IntKind.wrap IntKind.i64 (Int.tdiv (IntKind.wrap IntKind.i64 (n + (719468 : Int))) (146097 : Int)))) -
 IntKind.wrap IntKind.i64
 (Int.tdiv
 (IntKind.wrap IntKind.i64
 (IntKind.wrap IntKind.i64 (n + (719468 : Int)) -
 IntKind.wrap IntKind.i64
 ((146097 : Int) * IntKind.wrap IntKind.i64 (Int.tdiv (IntKind.wrap IntKind.i64 (n + (719468 : Int))) (146097 : Int)))))
 (1460 : Int))) +
 IntKind.wrap IntKind.i64
 (Int.tdiv
 (IntKind.wrap IntKind.i64
 (IntKind.wrap IntKind.i64 (n + (719468 : Int)) -
 IntKind.wrap IntKind.i64
 ((146097 : Int) * IntKind.wrap IntKind.i64 (Int.tdiv (IntKind.wrap IntKind.i64 (n + (719468 : Int))) (146097 : Int)))))
 (36524 : Int))) -
 IntKind.wrap IntKind.i64
 (Int.tdiv
 (IntKind.wrap IntKind.i64
 (IntKind.wrap IntKind.i64 (n + (719468 : Int)) -
 IntKind.wrap IntKind.i64
 ((146097 : Int) * IntKind.wrap IntKind.i64 (Int.tdiv (IntKind.wrap IntKind.i64 (n + (719468 : Int))) (146097 : Int)))))
 (146096 : Int))))
 (365 : Int)))
 (4 : Int))) -
 IntKind.wrap IntKind.i64
 (Int.tdiv
 (IntKind.wrap IntKind.i64
 (Int.tdiv
 (IntKind.wrap IntKind.i64
 (IntKind.wrap IntKind.i64
 (IntKind.wrap IntKind.i64
 (IntKind.wrap IntKind.i64
 (IntKind.wrap IntKind.i64 (n + (719468 : Int)) -
 IntKind.wrap IntKind.i64
 ((146097 : Int) * IntKind.wrap IntKind.i64 (Int.tdiv (IntKind.wrap IntKind.i64 (n + (719468 : Int))) (146097 : Int)))) -
 IntKind.wrap IntKind.i64
 (Int.tdiv
 (IntKind.wrap IntKind.i64
 (IntKind.wrap IntKind.i64 (n + (719468 : Int)) -
 IntKind.wrap IntKind.i64
 ((146097 : Int) * IntKind.wrap IntKind.i64 (Int.tdiv (IntKind.wrap IntKind.i64 (n + (719468 : Int))) (146097 : Int)))))
 (1460 : Int))) +
 IntKind.wrap IntKind.i64
 (Int.tdiv
 (IntKind.wrap IntKind.i64
 (IntKind.wrap IntKind.i64 (n + (719468 : Int)) -
 IntKind.wrap IntKind.i64
 ((146097 : Int) * IntKind.wrap IntKind.i64 (Int.tdiv (IntKind.wrap IntKind.i64 (n + (719468 : Int))) (146097 : Int)))))
 (36524 : Int))) -
 IntKind.wrap IntKind.i64
 (Int.tdiv
 (IntKind.wrap IntKind.i64
 (IntKind.wrap IntKind.i64 (n + (719468 : Int)) -
 IntKind.wrap IntKind.i64
 ((146097 : Int) * IntKind.wrap IntKind.i64 (Int.tdiv (IntKind.wrap IntKind.i64 (n + (719468 : Int))) (146097 : Int)))))
 (146096 : Int))))
 (365 : Int)))
 (100 : Int)))) -
 IntKind.wrap IntKind.i64
 (Int.tdiv
 (IntKind.wrap IntKind.i64
 (IntKind.wrap IntKind.i64
 ((153 : Int) *
 IntKind.wrap IntKind.i64
 (Int.tdiv
 (IntKind.wrap IntKind.i64
 (IntKind.wrap IntKind.i64
 ((5 : Int) *
 IntKind.wrap IntKind.i64
 (IntKind.wrap IntKind.i64
 (IntKind.wrap IntKind.i64 (n + (719468 : Int)) -
 IntKind.wrap IntKind.i64
 ((146097 : Int) * IntKind.wrap IntKind.i64 (Int.tdiv (IntKind.wrap IntKind.i64 (n + (719468 : Int))) (146097 : Int)))) -
 IntKind.wrap IntKind.i64
 (IntKind.wrap IntKind.i64
 (IntKind.wrap IntKind.i64
 ((365 : Int) *
 IntKind.wrap IntKind.i64
 (Int.tdiv
 (IntKind.wrap IntKind.i64
 (IntKind.wrap IntKind.i64
 (IntKind.wrap IntKind.i64
 (IntKind.wrap IntKind.i64
 (IntKind.wrap IntKind.i64 (n + (719468 : Int)) -
 IntKind.wrap IntKind.i64
 ((146097 : Int) *
 IntKind.wrap IntKind.i64 (Int.tdiv (IntKind.wrap IntKind.i64 (n + (719468 : Int))) (146097 : Int)))) -
 IntKind.wrap IntKind.i64
 (Int.tdiv
 (IntKind.wrap IntKind.i64
 (IntKind.wrap IntKind.i64 (n + (719468 : Int)) -
 IntKind.wrap IntKind.i64
 ((146097 : Int) *
 IntKind.wrap IntKind.i64
 (Int.tdiv (IntKind.wrap IntKind.i64 (n + (719468 : Int))) (146097 : Int)))))
 (1460 : Int))) +
 IntKind.wrap IntKind.i64
 (Int.tdiv
 (IntKind.wrap IntKind.i64
 (IntKind.wrap IntKind.i64 (n + (719468 : Int)) -
 IntKind.wrap IntKind.i64
 ((146097 : Int) *
 IntKind.wrap IntKind.i64 (Int.tdiv (IntKind.wrap IntKind.i64 (n + (719468 : Int))) (146097 : Int)))))
 (36524 : Int))) -
 IntKind.wrap IntKind.i64
 (Int.tdiv
 (IntKind.wrap IntKind.i64
 (IntKind.wrap IntKind.i64 (n + (719468 : Int)) -
 IntKind.wrap IntKind.i64
 ((146097 : Int) *
 IntKind.wrap IntKind.i64 (Int.tdiv (IntKind.wrap IntKind.i64 (n + (719468 : Int))) (146097 : Int)))))
 (146096 : Int))))
 (365 : Int))) +
 IntKind.wrap IntKind.i64
 (Int.tdiv
 (IntKind.wrap IntKind.i64
 (Int.tdiv
 (IntKind.wrap IntKind.i64
 (IntKind.wrap IntKind.i64
 (IntKind.wrap IntKind.i64
 (IntKind.wrap IntKind.i64
 (IntKind.wrap IntKind.i64 (n + (719468 : Int)) -
 IntKind.wrap IntKind.i64
 ((146097 : Int) *
 IntKind.wrap IntKind.i64 (Int.tdiv (IntKind.wrap IntKind.i64 (n + (719468 : Int))) (146097 : Int)))) -
 IntKind.wrap IntKind.i64
 (Int.tdiv
 (IntKind.wrap IntKind.i64
 (IntKind.wrap IntKind.i64 (n + (719468 : Int)) -
 IntKind.wrap IntKind.i64
 ((146097 : Int) *
 IntKind.wrap IntKind.i64
 (Int.tdiv (IntKind.wrap IntKind.i64 (n + (719468 : Int))) (146097 : Int)))))
 (1460 : Int))) +
 IntKind.wrap IntKind.i64
 (Int.tdiv
 (IntKind.wrap IntKind.i64
 (IntKind.wrap IntKind.i64 (n + (719468 : Int)) -
 IntKind.wrap IntKind.i64
 ((146097 : Int) *
 IntKind.wrap IntKind.i64 (Int.tdiv (IntKind.wrap IntKind.i64 (n + (719468 : Int))) (146097 : Int)))))
 (36524 : Int))) -
 IntKind.wrap IntKind.i64
 (Int.tdiv
 (IntKind.wrap IntKind.i64
 (IntKind.wrap IntKind.i64 (n + (719468 : Int)) -
 IntKind.wrap IntKind.i64
 ((146097 : Int) *
 IntKind.wrap IntKind.i64 (Int.tdiv (IntKind.wrap IntKind.i64 (n + (719468 : Int))) (146097 : Int)))))
 (146096 : Int))))
 (365 : Int)))
 (4 : Int))) -
 IntKind.wrap IntKind.i64
 (Int.tdiv
 (IntKind.wrap IntKind.i64
 (Int.tdiv
 (IntKind.wrap IntKind.i64
 (IntKind.wrap IntKind.i64
 (IntKind.wrap IntKind.i64
 (IntKind.wrap IntKind.i64
 (IntKind.wrap IntKind.i64 (n + (719468 : Int)) -
 IntKind.wrap IntKind.i64
 ((146097 : Int) *
 IntKind.wrap IntKind.i64 (Int.tdiv (IntKind.wrap IntKind.i64 (n + (719468 : Int))) (146097 : Int)))) -
 IntKind.wrap IntKind.i64
 (Int.tdiv
 (IntKind.wrap IntKind.i64
 (IntKind.wrap IntKind.i64 (n + (719468 : Int)) -
 IntKind.wrap IntKind.i64
 ((146097 : Int) *
 IntKind.wrap IntKind.i64 (Int.tdiv (IntKind.wrap IntKind.i64 (n + (719468 : Int))) (146097 : Int)))))
 (1460 : Int))) +
 IntKind.wrap IntKind.i64
 (Int.tdiv
 (IntKind.wrap IntKind.i64
 (IntKind.wrap IntKind.i64 (n + (719468 : Int)) -
 IntKind.wrap IntKind.i64
 ((146097 : Int) *
 IntKind.wrap IntKind.i64 (Int.tdiv (IntKind.wrap IntKind.i64 (n + (719468 : Int))) (146097 : Int)))))
 (36524 : Int))) -
 IntKind.wrap IntKind.i64
 (Int.tdiv
 (IntKind.wrap IntKind.i64
 (IntKind.wrap IntKind.i64 (n + (719468 : Int)) -
 IntKind.wrap IntKind.i64
 ((146097 : Int) *
 IntKind.wrap IntKind.i64 (Int.tdiv (IntKind.wrap IntKind.i64 (n + (719468 : Int))) (146097 : Int)))))
 (146096 : Int))))
 (365 : Int)))
 (100 : Int))))) +
 (2 : Int)))
 (153 : Int))) +
 (2 : Int)))
 (5 : Int))) +
 (1 : Int))) →
 K
 (Value.tuple
 (Array.mk
 [Value.agg
 (Array.mk
 [Value.int IntKind.i64
 (IntKind.wrap IntKind.i64
 (IntKind.wrap IntKind.i64 ((400 : Int) * IntKind.wrap IntKind.i64 (Int.tdiv (IntKind.wrap IntKind.i64 (n + (719468 : Int))) (146097 : Int))) +
 IntKind.wrap IntKind.i64
 (Int.tdiv
 (IntKind.wrap IntKind.i64
 (IntKind.wrap IntKind.i64
 (IntKind.wrap IntKind.i64
 (IntKind.wrap IntKind.i64
 (IntKind.wrap IntKind.i64 (n + (719468 : Int)) -
 IntKind.wrap IntKind.i64
 ((146097 : Int) * IntKind.wrap IntKind.i64 (Int.tdiv (IntKind.wrap IntKind.i64 (n + (719468 : Int))) (146097 : Int)))) -
 IntKind.wrap IntKind.i64
 (Int.tdiv
 (IntKind.wrap IntKind.i64
 (IntKind.wrap IntKind.i64 (n + (719468 : Int)) -
 IntKind.wrap IntKind.i64
 ((146097 : Int) * IntKind.wrap IntKind.i64 (Int.tdiv (IntKind.wrap IntKind.i64 (n + (719468 : Int))) (146097 : Int)))))
 (1460 : Int))) +
 IntKind.wrap IntKind.i64
 (Int.tdiv
 (IntKind.wrap IntKind.i64
 (IntKind.wrap IntKind.i64 (n + (719468 : Int)) -
 IntKind.wrap IntKind.i64
 ((146097 : Int) * IntKind.wrap IntKind.i64 (Int.tdiv (IntKind.wrap IntKind.i64 (n + (719468 : Int))) (146097 : Int)))))
 (36524 : Int))) -
 IntKind.wrap IntKind.i64
 (Int.tdiv
 (IntKind.wrap IntKind.i64
 (IntKind.wrap IntKind.i64 (n + (719468 : Int)) -
 IntKind.wrap IntKind.i64
 ((146097 : Int) * IntKind.wrap IntKind.i64 (Int.tdiv (IntKind.wrap IntKind.i64 (n + (719468 : Int))) (146097 : Int)))))
 (146096 : Int))))
 (365 : Int)))),
 Value.int IntKind.i64
 (IntKind.wrap IntKind.i64
 (IntKind.wrap IntKind.i64
 (Int.tdiv
 (IntKind.wrap IntKind.i64
 (IntKind.wrap IntKind.i64
 ((5 : Int) *
 IntKind.wrap IntKind.i64
 (IntKind.wrap IntKind.i64
 (IntKind.wrap IntKind.i64 (n + (719468 : Int)) -
 IntKind.wrap IntKind.i64
 ((146097 : Int) * IntKind.wrap IntKind.i64 (Int.tdiv (IntKind.wrap IntKind.i64 (n + (719468 : Int))) (146097 : Int)))) -
 IntKind.wrap IntKind.i64
 (IntKind.wrap IntKind.i64
 (IntKind.wrap IntKind.i64
 ((365 : Int) *
 IntKind.wrap IntKind.i64
 (Int.tdiv
 (IntKind.wrap IntKind.i64
 (IntKind.wrap IntKind.i64
 (IntKind.wrap IntKind.i64
 (IntKind.wrap IntKind.i64
 (IntKind.wrap IntKind.i64 (n + (719468 : Int)) -
 IntKind.wrap IntKind.i64
 ((146097 : Int) *
 IntKind.wrap IntKind.i64 (Int.tdiv (IntKind.wrap IntKind.i64 (n + (719468 : Int))) (146097 : Int)))) -
 IntKind.wrap IntKind.i64
 (Int.tdiv
 (IntKind.wrap IntKind.i64
 (IntKind.wrap IntKind.i64 (n + (719468 : Int)) -
 IntKind.wrap IntKind.i64
 ((146097 : Int) *
 IntKind.wrap IntKind.i64
 (Int.tdiv (IntKind.wrap IntKind.i64 (n + (719468 : Int))) (146097 : Int)))))
 (1460 : Int))) +
 IntKind.wrap IntKind.i64
 (Int.tdiv
 (IntKind.wrap IntKind.i64
 (IntKind.wrap IntKind.i64 (n + (719468 : Int)) -
 IntKind.wrap IntKind.i64
 ((146097 : Int) *
 IntKind.wrap IntKind.i64 (Int.tdiv (IntKind.wrap IntKind.i64 (n + (719468 : Int))) (146097 : Int)))))
 (36524 : Int))) -
 IntKind.wrap IntKind.i64
 (Int.tdiv
 (IntKind.wrap IntKind.i64
 (IntKind.wrap IntKind.i64 (n + (719468 : Int)) -
 IntKind.wrap IntKind.i64
 ((146097 : Int) *
 IntKind.wrap IntKind.i64 (Int.tdiv (IntKind.wrap IntKind.i64 (n + (719468 : Int))) (146097 : Int)))))
 (146096 : Int))))
 (365 : Int))) +
 IntKind.wrap IntKind.i64
 (Int.tdiv
 (IntKind.wrap IntKind.i64
 (Int.tdiv
 (IntKind.wrap IntKind.i64
 (IntKind.wrap IntKind.i64
 (IntKind.wrap IntKind.i64
 (IntKind.wrap IntKind.i64
 (IntKind.wrap IntKind.i64 (n + (719468 : Int)) -
 IntKind.wrap IntKind.i64
 ((146097 : Int) *
 IntKind.wrap IntKind.i64 (Int.tdiv (IntKind.wrap IntKind.i64 (n + (719468 : Int))) (146097 : Int)))) -
 IntKind.wrap IntKind.i64
 (Int.tdiv
 (IntKind.wrap IntKind.i64
 (IntKind.wrap IntKind.i64 (n + (719468 : Int)) -
 IntKind.wrap IntKind.i64
 ((146097 : Int) *
 IntKind.wrap IntKind.i64
 (Int.tdiv (IntKind.wrap IntKind.i64 (n + (719468 : Int))) (146097 : Int)))))
 (1460 : Int))) +
 IntKind.wrap IntKind.i64
 (Int.tdiv
 (IntKind.wrap IntKind.i64
 (IntKind.wrap IntKind.i64 (n + (719468 : Int)) -
 IntKind.wrap IntKind.i64
 ((146097 : Int) *
 IntKind.wrap IntKind.i64 (Int.tdiv (IntKind.wrap IntKind.i64 (n + (719468 : Int))) (146097 : Int)))))
 (36524 : Int))) -
 IntKind.wrap IntKind.i64
 (Int.tdiv
 (IntKind.wrap IntKind.i64
 (IntKind.wrap IntKind.i64 (n + (719468 : Int)) -
 IntKind.wrap IntKind.i64
 ((146097 : Int) *
 IntKind.wrap IntKind.i64 (Int.tdiv (IntKind.wrap IntKind.i64 (n + (719468 : Int))) (146097 : Int)))))
 (146096 : Int))))
 (365 : Int)))
 (4 : Int))) -
 IntKind.wrap IntKind.i64
 (Int.tdiv
 (IntKind.wrap IntKind.i64
 (Int.tdiv
 (IntKind.wrap IntKind.i64
 (IntKind.wrap IntKind.i64
 (IntKind.wrap IntKind.i64
 (IntKind.wrap IntKind.i64
 (IntKind.wrap IntKind.i64 (n + (719468 : Int)) -
 IntKind.wrap IntKind.i64
 ((146097 : Int) *
 IntKind.wrap IntKind.i64 (Int.tdiv (IntKind.wrap IntKind.i64 (n + (719468 : Int))) (146097 : Int)))) -
 IntKind.wrap IntKind.i64
 (Int.tdiv
 (IntKind.wrap IntKind.i64
 (IntKind.wrap IntKind.i64 (n + (719468 : Int)) -
 IntKind.wrap IntKind.i64
 ((146097 : Int) *
 IntKind.wrap IntKind.i64 (Int.tdiv (IntKind.wrap IntKind.i64 (n + (719468 : Int))) (146097 : Int)))))
 (1460 : Int))) +
 IntKind.wrap IntKind.i64
 (Int.tdiv
 (IntKind.wrap IntKind.i64
 (IntKind.wrap IntKind.i64 (n + (719468 : Int)) -
 IntKind.wrap IntKind.i64
 ((146097 : Int) *
 IntKind.wrap IntKind.i64 (Int.tdiv (IntKind.wrap IntKind.i64 (n + (719468 : Int))) (146097 : Int)))))
 (36524 : Int))) -
 IntKind.wrap IntKind.i64
 (Int.tdiv
 (IntKind.wrap IntKind.i64
 (IntKind.wrap IntKind.i64 (n + (719468 : Int)) -
 IntKind.wrap IntKind.i64
 ((146097 : Int) *
 IntKind.wrap IntKind.i64 (Int.tdiv (IntKind.wrap IntKind.i64 (n + (719468 : Int))) (146097 : Int)))))
 (146096 : Int))))
 (365 : Int)))
 (100 : Int))))) +
 (2 : Int)))
 (153 : Int)) +
 (3 : Int))),
 Value.int IntKind.i64
 (IntKind.wrap IntKind.i64
 (IntKind.wrap IntKind.i64
 (IntKind.wrap IntKind.i64
 (IntKind.wrap IntKind.i64
 (IntKind.wrap IntKind.i64 (n + (719468 : Int)) -
 IntKind.wrap IntKind.i64
 ((146097 : Int) * IntKind.wrap IntKind.i64 (Int.tdiv (IntKind.wrap IntKind.i64 (n + (719468 : Int))) (146097 : Int)))) -
 IntKind.wrap IntKind.i64
 (IntKind.wrap IntKind.i64
 (IntKind.wrap IntKind.i64
 ((365 : Int) *
 IntKind.wrap IntKind.i64
 (Int.tdiv
 (IntKind.wrap IntKind.i64
 (IntKind.wrap IntKind.i64
 (IntKind.wrap IntKind.i64
 (IntKind.wrap IntKind.i64
 (IntKind.wrap IntKind.i64 (n + (719468 : Int)) -
 IntKind.wrap IntKind.i64
 ((146097 : Int) *
 IntKind.wrap IntKind.i64 (Int.tdiv (IntKind.wrap IntKind.i64 (n + (719468 : Int))) (146097 : Int)))) -
 IntKind.wrap IntKind.i64
 (Int.tdiv
 (IntKind.wrap IntKind.i64
 (IntKind.wrap IntKind.i64 (n + (719468 : Int)) -
 IntKind.wrap IntKind.i64
 ((146097 : Int) *
 IntKind.wrap IntKind.i64 (Int.tdiv (IntKind.wrap IntKind.i64 (n + (719468 : Int))) (146097 : Int)))))
 (1460 : Int))) +
 IntKind.wrap IntKind.i64
 (Int.tdiv
 (IntKind.wrap IntKind.i64
 (IntKind.wrap IntKind.i64 (n + (719468 : Int)) -
 IntKind.wrap IntKind.i64
 ((146097 : Int) *
 IntKind.wrap IntKind.i64 (Int.tdiv (IntKind.wrap IntKind.i64 (n + (719468 : Int))) (146097 : Int)))))
 (36524 : Int))) -
 IntKind.wrap IntKind.i64
 (Int.tdiv
 (IntKind.wrap IntKind.i64
 (IntKind.wrap IntKind.i64 (n + (719468 : Int)) -
 IntKind.wrap IntKind.i64
 ((146097 : Int) *
 IntKind.wrap IntKind.i64 (Int.tdiv (IntKind.wrap IntKind.i64 (n + (719468 : Int))) (146097 : Int)))))
 (146096 : Int))))
 (365 : Int))) +
 IntKind.wrap IntKind.i64
 (Int.tdiv
 (IntKind.wrap IntKind.i64
 (Int.tdiv
 (IntKind.wrap IntKind.i64
 (IntKind.wrap IntKind.i64
 (IntKind.wrap IntKind.i64
 (IntKind.wrap IntKind.i64
 (IntKind.wrap IntKind.i64 (n + (719468 : Int)) -
 IntKind.wrap IntKind.i64
 ((146097 : Int) *
 IntKind.wrap IntKind.i64 (Int.tdiv (IntKind.wrap IntKind.i64 (n + (719468 : Int))) (146097 : Int)))) -
 IntKind.wrap IntKind.i64
 (Int.tdiv
 (IntKind.wrap IntKind.i64
 (IntKind.wrap IntKind.i64 (n + (719468 : Int)) -
 IntKind.wrap IntKind.i64
 ((146097 : Int) *
 IntKind.wrap IntKind.i64 (Int.tdiv (IntKind.wrap IntKind.i64 (n + (719468 : Int))) (146097 : Int)))))
 (1460 : Int))) +
 IntKind.wrap IntKind.i64
 (Int.tdiv
 (IntKind.wrap IntKind.i64
 (IntKind.wrap IntKind.i64 (n + (719468 : Int)) -
 IntKind.wrap IntKind.i64
 ((146097 : Int) *
 IntKind.wrap IntKind.i64 (Int.tdiv (IntKind.wrap IntKind.i64 (n + (719468 : Int))) (146097 : Int)))))
 (36524 : Int))) -
 IntKind.wrap IntKind.i64
 (Int.tdiv
 (IntKind.wrap IntKind.i64
 (IntKind.wrap IntKind.i64 (n + (719468 : Int)) -
 IntKind.wrap IntKind.i64
 ((146097 : Int) *
 IntKind.wrap IntKind.i64 (Int.tdiv (IntKind.wrap IntKind.i64 (n + (719468 : Int))) (146097 : Int)))))
 (146096 : Int))))
 (365 : Int)))
 (4 : Int))) -
 IntKind.wrap IntKind.i64
 (Int.tdiv
 (IntKind.wrap IntKind.i64
 (Int.tdiv
 (IntKind.wrap IntKind.i64
 (IntKind.wrap IntKind.i64
 (IntKind.wrap IntKind.i64
 (IntKind.wrap IntKind.i64
 (IntKind.wrap IntKind.i64 (n + (719468 : Int)) -
 IntKind.wrap IntKind.i64
 ((146097 : Int) *
 IntKind.wrap IntKind.i64 (Int.tdiv (IntKind.wrap IntKind.i64 (n + (719468 : Int))) (146097 : Int)))) -
 IntKind.wrap IntKind.i64
 (Int.tdiv
 (IntKind.wrap IntKind.i64
 (IntKind.wrap IntKind.i64 (n + (719468 : Int)) -
 IntKind.wrap IntKind.i64
 ((146097 : Int) *
 IntKind.wrap IntKind.i64 (Int.tdiv (IntKind.wrap IntKind.i64 (n + (719468 : Int))) (146097 : Int)))))
 (1460 : Int))) +
 IntKind.wrap IntKind.i64
 (Int.tdiv
 (IntKind.wrap IntKind.i64
 (IntKind.wrap IntKind.i64 (n + (719468 : Int)) -
 IntKind.wrap IntKind.i64
 ((146097 : Int) *
 IntKind.wrap IntKind.i64 (Int.tdiv (IntKind.wrap IntKind.i64 (n + (719468 : Int))) (146097 : Int)))))
 (36524 : Int))) -
 IntKind.wrap IntKind.i64
 (Int.tdiv
 (IntKind.wrap IntKind.i64
 (IntKind.wrap IntKind.i64 (n + (719468 : Int)) -
 IntKind.wrap IntKind.i64
 ((146097 : Int) * IntKind.wrap IntKind.i64 (Int.tdiv (IntKind.wrap IntKind.i64 (n + (719468 : Int))) (146097 : Int)))))
 (146096 : Int))))
 (365 : Int)))
 (100 : Int)))) -
 IntKind.wrap IntKind.i64
 (Int.tdiv
 (IntKind.wrap IntKind.i64
 (IntKind.wrap IntKind.i64
 ((153 : Int) *
 IntKind.wrap IntKind.i64
 (Int.tdiv
 (IntKind.wrap IntKind.i64
 (IntKind.wrap IntKind.i64
 ((5 : Int) *
 IntKind.wrap IntKind.i64
 (IntKind.wrap IntKind.i64
 (IntKind.wrap IntKind.i64 (n + (719468 : Int)) -
 IntKind.wrap IntKind.i64
 ((146097 : Int) *
 IntKind.wrap IntKind.i64 (Int.tdiv (IntKind.wrap IntKind.i64 (n + (719468 : Int))) (146097 : Int)))) -
 IntKind.wrap IntKind.i64
 (IntKind.wrap IntKind.i64
 (IntKind.wrap IntKind.i64
 ((365 : Int) *
 IntKind.wrap IntKind.i64
 (Int.tdiv
 (IntKind.wrap IntKind.i64
 (IntKind.wrap IntKind.i64
 (IntKind.wrap IntKind.i64
 (IntKind.wrap IntKind.i64
 (IntKind.wrap IntKind.i64 (n + (719468 : Int)) -
 IntKind.wrap IntKind.i64
 ((146097 : Int) *
 IntKind.wrap IntKind.i64
 (Int.tdiv (IntKind.wrap IntKind.i64 (n + (719468 : Int))) (146097 : Int)))) -
 IntKind.wrap IntKind.i64
 (Int.tdiv
 (IntKind.wrap IntKind.i64
 (IntKind.wrap IntKind.i64 (n + (719468 : Int)) -
 IntKind.wrap IntKind.i64
 ((146097 : Int) *
 IntKind.wrap IntKind.i64
 (Int.tdiv (IntKind.wrap IntKind.i64 (n + (719468 : Int))) (146097 : Int)))))
 (1460 : Int))) +
 IntKind.wrap IntKind.i64
 (Int.tdiv
 (IntKind.wrap IntKind.i64
 (IntKind.wrap IntKind.i64 (n + (719468 : Int)) -
 IntKind.wrap IntKind.i64
 ((146097 : Int) *
 IntKind.wrap IntKind.i64
 (Int.tdiv (IntKind.wrap IntKind.i64 (n + (719468 : Int))) (146097 : Int)))))
 (36524 : Int))) -
 IntKind.wrap IntKind.i64
 (Int.tdiv
 (IntKind.wrap IntKind.i64
 (IntKind.wrap IntKind.i64 (n + (719468 : Int)) -
 IntKind.wrap IntKind.i64
 ((146097 : Int) *
 IntKind.wrap IntKind.i64
 (Int.tdiv (IntKind.wrap IntKind.i64 (n + (719468 : Int))) (146097 : Int)))))
 (146096 : Int))))
 (365 : Int))) +
 IntKind.wrap IntKind.i64
 (Int.tdiv
 (IntKind.wrap IntKind.i64
 (Int.tdiv
 (IntKind.wrap IntKind.i64
 (IntKind.wrap IntKind.i64
 (IntKind.wrap IntKind.i64
 (IntKind.wrap IntKind.i64
 (IntKind.wrap IntKind.i64 (n + (719468 : Int)) -
 IntKind.wrap IntKind.i64
 ((146097 : Int) *
 IntKind.wrap IntKind.i64
 (Int.tdiv (IntKind.wrap IntKind.i64 (n + (719468 : Int))) (146097 : Int)))) -
 IntKind.wrap IntKind.i64
 (Int.tdiv
 (IntKind.wrap IntKind.i64
 (IntKind.wrap IntKind.i64 (n + (719468 : Int)) -
 IntKind.wrap IntKind.i64
 ((146097 : Int) *
 IntKind.wrap IntKind.i64
 (Int.tdiv (IntKind.wrap IntKind.i64 (n + (719468 : Int))) (146097 : Int)))))
 (1460 : Int))) +
 IntKind.wrap IntKind.i64
 (Int.tdiv
 (IntKind.wrap IntKind.i64
 (IntKind.wrap IntKind.i64 (n + (719468 : Int)) -
 IntKind.wrap IntKind.i64
 ((146097 : Int) *
 IntKind.wrap IntKind.i64
 (Int.tdiv (IntKind.wrap IntKind.i64 (n + (719468 : Int))) (146097 : Int)))))
 (36524 : Int))) -
 IntKind.wrap IntKind.i64
 (Int.tdiv
 (IntKind.wrap IntKind.i64
 (IntKind.wrap IntKind.i64 (n + (719468 : Int)) -
 IntKind.wrap IntKind.i64
 ((146097 : Int) *
 IntKind.wrap IntKind.i64
 (Int.tdiv (IntKind.wrap IntKind.i64 (n + (719468 : Int))) (146097 : Int)))))
 (146096 : Int))))
 (365 : Int)))
 (4 : Int))) -
 IntKind.wrap IntKind.i64
 (Int.tdiv
 (IntKind.wrap IntKind.i64
 (Int.tdiv
 (IntKind.wrap IntKind.i64
 (IntKind.wrap IntKind.i64
 (IntKind.wrap IntKind.i64
 (IntKind.wrap IntKind.i64
 (IntKind.wrap IntKind.i64 (n + (719468 : Int)) -
 IntKind.wrap IntKind.i64
 ((146097 : Int) *
 IntKind.wrap IntKind.i64
 (Int.tdiv (IntKind.wrap IntKind.i64 (n + (719468 : Int))) (146097 : Int)))) -
 IntKind.wrap IntKind.i64
 (Int.tdiv
 (IntKind.wrap IntKind.i64
 (IntKind.wrap IntKind.i64 (n + (719468 : Int)) -
 IntKind.wrap IntKind.i64
 ((146097 : Int) *
 IntKind.wrap IntKind.i64
 (Int.tdiv (IntKind.wrap IntKind.i64 (n + (719468 : Int))) (146097 : Int)))))
 (1460 : Int))) +
 IntKind.wrap IntKind.i64
 (Int.tdiv
 (IntKind.wrap IntKind.i64
 (IntKind.wrap IntKind.i64 (n + (719468 : Int)) -
 IntKind.wrap IntKind.i64
 ((146097 : Int) *
 IntKind.wrap IntKind.i64
 (Int.tdiv (IntKind.wrap IntKind.i64 (n + (719468 : Int))) (146097 : Int)))))
 (36524 : Int))) -
 IntKind.wrap IntKind.i64
 (Int.tdiv
 (IntKind.wrap IntKind.i64
 (IntKind.wrap IntKind.i64 (n + (719468 : Int)) -
 IntKind.wrap IntKind.i64
 ((146097 : Int) *
 IntKind.wrap IntKind.i64
 (Int.tdiv (IntKind.wrap IntKind.i64 (n + (719468 : Int))) (146097 : Int)))))
 (146096 : Int))))
 (365 : Int)))
 (100 : Int))))) +
 (2 : Int)))
 (153 : Int))) +
 (2 : Int)))
 (5 : Int))) +
 (1 : Int)))]),
 Value.bool Bool.true]))
 (10 : Nat)) ∧
 (¬dateOk
 (IntKind.wrap IntKind.i64
 (IntKind.wrap IntKind.i64 ((400 : Int) * IntKind.wrap IntKind.i64 (Int.tdiv (IntKind.wrap IntKind.i64 (n + (719468 : Int))) (146097 : Int))) +
 IntKind.wrap IntKind.i64
 (Int.tdiv
 (IntKind.wrap IntKind.i64
 (IntKind.wrap IntKind.i64
 (IntKind.wrap IntKind.i64
 (IntKind.wrap IntKind.i64
 (IntKind.wrap IntKind.i64 (n + (719468 : Int)) -
 IntKind.wrap IntKind.i64
 ((146097 : Int) * IntKind.wrap IntKind.i64 (Int.tdiv (IntKind.wrap IntKind.i64 (n + (719468 : Int))) (146097 : Int)))) -
 IntKind.wrap IntKind.i64
 (Int.tdiv
 (IntKind.wrap IntKind.i64
 (IntKind.wrap IntKind.i64 (n + (719468 : Int)) -
 IntKind.wrap IntKind.i64
 ((146097 : Int) * IntKind.wrap IntKind.i64 (Int.tdiv (IntKind.wrap IntKind.i64 (n + (719468 : Int))) (146097 : Int)))))
 (1460 : Int))) +
 IntKind.wrap IntKind.i64
 (Int.tdiv
 (IntKind.wrap IntKind.i64
 (IntKind.wrap IntKind.i64 (n + (719468 : Int)) -
 IntKind.wrap IntKind.i64
 ((146097 : Int) * IntKind.wrap IntKind.i64 (Int.tdiv (IntKind.wrap IntKind.i64 (n + (719468 : Int))) (146097 : Int)))))
 (36524 : Int))) -
 IntKind.wrap IntKind.i64
 (Int.tdiv
 (IntKind.wrap IntKind.i64
 (IntKind.wrap IntKind.i64 (n + (719468 : Int)) -
 IntKind.wrap IntKind.i64 ((146097 : Int) * IntKind.wrap IntKind.i64 (Int.tdiv (IntKind.wrap IntKind.i64 (n + (719468 : Int))) (146097 : Int)))))
 (146096 : Int))))
 (365 : Int))))
 (IntKind.wrap IntKind.i64
 (IntKind.wrap IntKind.i64
 (Int.tdiv
 (IntKind.wrap IntKind.i64
 (IntKind.wrap IntKind.i64
 ((5 : Int) *
 IntKind.wrap IntKind.i64
 (IntKind.wrap IntKind.i64
 (IntKind.wrap IntKind.i64 (n + (719468 : Int)) -
 IntKind.wrap IntKind.i64
 ((146097 : Int) * IntKind.wrap IntKind.i64 (Int.tdiv (IntKind.wrap IntKind.i64 (n + (719468 : Int))) (146097 : Int)))) -
 IntKind.wrap IntKind.i64
 (IntKind.wrap IntKind.i64
 (IntKind.wrap IntKind.i64
 ((365 : Int) *
 IntKind.wrap IntKind.i64
 (Int.tdiv
 (IntKind.wrap IntKind.i64
 (IntKind.wrap IntKind.i64
 (IntKind.wrap IntKind.i64
 (IntKind.wrap IntKind.i64
 (IntKind.wrap IntKind.i64 (n + (719468 : Int)) -
 IntKind.wrap IntKind.i64
 ((146097 : Int) *
 IntKind.wrap IntKind.i64 (Int.tdiv (IntKind.wrap IntKind.i64 (n + (719468 : Int))) (146097 : Int)))) -
 IntKind.wrap IntKind.i64
 (Int.tdiv
 (IntKind.wrap IntKind.i64
 (IntKind.wrap IntKind.i64 (n + (719468 : Int)) -
 IntKind.wrap IntKind.i64
 ((146097 : Int) *
 IntKind.wrap IntKind.i64 (Int.tdiv (IntKind.wrap IntKind.i64 (n + (719468 : Int))) (146097 : Int)))))
 (1460 : Int))) +
 IntKind.wrap IntKind.i64
 (Int.tdiv
 (IntKind.wrap IntKind.i64
 (IntKind.wrap IntKind.i64 (n + (719468 : Int)) -
 IntKind.wrap IntKind.i64
 ((146097 : Int) *
 IntKind.wrap IntKind.i64 (Int.tdiv (IntKind.wrap IntKind.i64 (n + (719468 : Int))) (146097 : Int)))))
 (36524 : Int))) -
 IntKind.wrap IntKind.i64
 (Int.tdiv
 (IntKind.wrap IntKind.i64
 (IntKind.wrap IntKind.i64 (n + (719468 : Int)) -
 IntKind.wrap IntKind.i64
 ((146097 : Int) * IntKind.wrap IntKind.i64 (Int.tdiv (IntKind.wrap IntKind.i64 (n + (719468 : Int))) (146097 : Int)))))
 (146096 : Int))))
 (365 : Int))) +
 IntKind.wrap IntKind.i64
 (Int.tdiv
 (IntKind.wrap IntKind.i64
 (Int.tdiv
 (IntKind.wrap IntKind.i64
 (IntKind.wrap IntKind.i64
 (IntKind.wrap IntKind.i64
 (IntKind.wrap IntKind.i64
 (IntKind.wrap IntKind.i64 (n + (719468 : Int)) -
 IntKind.wrap IntKind.i64
 ((146097 : Int) *
 IntKind.wrap IntKind.i64 (Int.tdiv (IntKind.wrap IntKind.i64 (n + (719468 : Int))) (146097 : Int)))) -
 IntKind.wrap IntKind.i64
 (Int.tdiv
 (IntKind.wrap IntKind.i64
 (IntKind.wrap IntKind.i64 (n + (719468 : Int)) -
 IntKind.wrap IntKind.i64
 ((146097 : Int) *
 IntKind.wrap IntKind.i64 (Int.tdiv (IntKind.wrap IntKind.i64 (n + (719468 : Int))) (146097 : Int)))))
 (1460 : Int))) +
 IntKind.wrap IntKind.i64
 (Int.tdiv
 (IntKind.wrap IntKind.i64
 (IntKind.wrap IntKind.i64 (n + (719468 : Int)) -
 IntKind.wrap IntKind.i64
 ((146097 : Int) *
 IntKind.wrap IntKind.i64 (Int.tdiv (IntKind.wrap IntKind.i64 (n + (719468 : Int))) (146097 : Int)))))
 (36524 : Int))) -
 IntKind.wrap IntKind.i64
 (Int.tdiv
 (IntKind.wrap IntKind.i64
 (IntKind.wrap IntKind.i64 (n + (719468 : Int)) -
 IntKind.wrap IntKind.i64
 ((146097 : Int) * IntKind.wrap IntKind.i64 (Int.tdiv (IntKind.wrap IntKind.i64 (n + (719468 : Int))) (146097 : Int)))))
 (146096 : Int))))
 (365 : Int)))
 (4 : Int))) -
 IntKind.wrap IntKind.i64
 (Int.tdiv
 (IntKind.wrap IntKind.i64
 (Int.tdiv
 (IntKind.wrap IntKind.i64
 (IntKind.wrap IntKind.i64
 (IntKind.wrap IntKind.i64
 (IntKind.wrap IntKind.i64
 (IntKind.wrap IntKind.i64 (n + (719468 : Int)) -
 IntKind.wrap IntKind.i64
 ((146097 : Int) * IntKind.wrap IntKind.i64 (Int.tdiv (IntKind.wrap IntKind.i64 (n + (719468 : Int))) (146097 : Int)))) -
 IntKind.wrap IntKind.i64
 (Int.tdiv
 (IntKind.wrap IntKind.i64
 (IntKind.wrap IntKind.i64 (n + (719468 : Int)) -
 IntKind.wrap IntKind.i64
 ((146097 : Int) *
 IntKind.wrap IntKind.i64 (Int.tdiv (IntKind.wrap IntKind.i64 (n + (719468 : Int))) (146097 : Int)))))
 (1460 : Int))) +
 IntKind.wrap IntKind.i64
 (Int.tdiv
 (IntKind.wrap IntKind.i64
 (IntKind.wrap IntKind.i64 (n + (719468 : Int)) -
 IntKind.wrap IntKind.i64
 ((146097 : Int) * IntKind.wrap IntKind.i64 (Int.tdiv (IntKind.wrap IntKind.i64 (n + (719468 : Int))) (146097 : Int)))))
 (36524 : Int))) -
 IntKind.wrap IntKind.i64
 (Int.tdiv
 (IntKind.wrap IntKind.i64
 (IntKind.wrap IntKind.i64 (n + (719468 : Int)) -
 IntKind.wrap IntKind.i64
 ((146097 : Int) * IntKind.wrap IntKind.i64 (Int.tdiv (IntKind.wrap IntKind.i64 (n + (719468 : Int))) (146097 : Int)))))
 (146096 : Int))))
 (365 : Int)))
 (100 : Int))))) +
 (2 : Int)))
 (153 : Int)) +
 (3 : Int)))
 (IntKind.wrap IntKind.i64
 (IntKind.wrap IntKind.i64
 (IntKind.wrap IntKind.i64
 (IntKind.wrap IntKind.i64
 (IntKind.wrap IntKind.i64 (n + (719468 : Int)) -
 IntKind.wrap IntKind.i64 ((146097 : Int) * IntKind.wrap IntKind.i64 (Int.tdiv (IntKind.wrap IntKind.i64 (n + (719468 : Int))) (146097 : Int)))) -
 IntKind.wrap IntKind.i64
 (IntKind.wrap IntKind.i64
 (IntKind.wrap IntKind.i64
 ((365 : Int) *
 IntKind.wrap IntKind.i64
 (Int.tdiv
 (IntKind.wrap IntKind.i64
 (IntKind.wrap IntKind.i64
 (IntKind.wrap IntKind.i64
 (IntKind.wrap IntKind.i64
 (IntKind.wrap IntKind.i64 (n + (719468 : Int)) -
 IntKind.wrap IntKind.i64
 ((146097 : Int) * IntKind.wrap IntKind.i64 (Int.tdiv (IntKind.wrap IntKind.i64 (n + (719468 : Int))) (146097 : Int)))) -
 IntKind.wrap IntKind.i64
 (Int.tdiv
 (IntKind.wrap IntKind.i64
 (IntKind.wrap IntKind.i64 (n + (719468 : Int)) -
 IntKind.wrap IntKind.i64
 ((146097 : Int) * IntKind.wrap IntKind.i64 (Int.tdiv (IntKind.wrap IntKind.i64 (n + (719468 : Int))) (146097 : Int)))))
 (1460 : Int))) +
 IntKind.wrap IntKind.i64
 (Int.tdiv
 (IntKind.wrap IntKind.i64
 (IntKind.wrap IntKind.i64 (n + (719468 : Int)) -
 IntKind.wrap IntKind.i64
 ((146097 : Int) * IntKind.wrap IntKind.i64 (Int.tdiv (IntKind.wrap IntKind.i64 (n + (719468 : Int))) (146097 : Int)))))
 (36524 : Int))) -
 IntKind.wrap IntKind.i64
 (Int.tdiv
 (IntKind.wrap IntKind.i64
 (IntKind.wrap IntKind.i64 (n + (719468 : Int)) -
 IntKind.wrap IntKind.i64
 ((146097 : Int) * IntKind.wrap IntKind.i64 (Int.tdiv (IntKind.wrap IntKind.i64 (n + (719468 : Int))) (146097 : Int)))))
 (146096 : Int))))
 (365 : Int))) +
 IntKind.wrap IntKind.i64
 (Int.tdiv
 (IntKind.wrap IntKind.i64
 (Int.tdiv
 (IntKind.wrap IntKind.i64
 (IntKind.wrap IntKind.i64
 (IntKind.wrap IntKind.i64
 (IntKind.wrap IntKind.i64
 (IntKind.wrap IntKind.i64 (n + (719468 : Int)) -
 IntKind.wrap IntKind.i64
 ((146097 : Int) * IntKind.wrap IntKind.i64 (Int.tdiv (IntKind.wrap IntKind.i64 (n + (719468 : Int))) (146097 : Int)))) -
 IntKind.wrap IntKind.i64
 (Int.tdiv
 (IntKind.wrap IntKind.i64
 (IntKind.wrap IntKind.i64 (n + (719468 : Int)) -
 IntKind.wrap IntKind.i64
 ((146097 : Int) * IntKind.wrap IntKind.i64 (Int.tdiv (IntKind.wrap IntKind.i64 (n + (719468 : Int))) (146097 : Int)))))
 (1460 : Int))) +
 IntKind.wrap IntKind.i64
 (Int.tdiv
 (IntKind.wrap IntKind.i64
 (IntKind.wrap IntKind.i64 (n + (719468 : Int)) -
 IntKind.wrap IntKind.i64
 ((146097 : Int) * IntKind.wrap IntKind.i64 (Int.tdiv (IntKind.wrap IntKind.i64 (n + (719468 : Int))) (146097 : Int)))))
 (36524 : Int))) -
 IntKind.wrap IntKind.i64
 (Int.tdiv
 (IntKind.wrap IntKind.i64
 (IntKind.wrap IntKind.i64 (n + (719468 : Int)) -
 IntKind.wrap IntKind.i64
 ((146097 : Int) * IntKind.wrap IntKind.i64 (Int.tdiv (IntKind.wrap IntKind.i64 (n + (719468 : Int))) (146097 : Int)))))
 (146096 : Int))))
 (365 : Int)))
 (4 : Int))) -
 IntKind.wrap IntKind.i64
 (Int.tdiv
 (IntKind.wrap IntKind.i64
 (Int.tdiv
 (IntKind.wrap IntKind.i64
 (IntKind.wrap IntKind.i64
 (IntKind.wrap IntKind.i64
 (IntKind.wrap IntKind.i64
 (IntKind.wrap IntKind.i64 (n + (719468 : Int)) -
 IntKind.wrap IntKind.i64
 ((146097 : Int) * IntKind.wrap IntKind.i64 (Int.tdiv (IntKind.wrap IntKind.i64 (n + (719468 : Int))) (146097 : Int)))) -
 IntKind.wrap IntKind.i64
 (Int.tdiv
 (IntKind.wrap IntKind.i64
 (IntKind.wrap IntKind.i64 (n + (719468 : Int)) -
 IntKind.wrap IntKind.i64
 ((146097 : Int) * IntKind.wrap IntKind.i64 (Int.tdiv (IntKind.wrap IntKind.i64 (n + (719468 : Int))) (146097 : Int)))))
 (1460 : Int))) +
 IntKind.wrap IntKind.i64
 (Int.tdiv
 (IntKind.wrap IntKind.i64
 (IntKind.wrap IntKind.i64 (n + (719468 : Int)) -
 IntKind.wrap IntKind.i64
 ((146097 : Int) * IntKind.wrap IntKind.i64 (Int.tdiv (IntKind.wrap IntKind.i64 (n + (719468 : Int))) (146097 : Int)))))
 (36524 : Int))) -
 IntKind.wrap IntKind.i64
 (Int.tdiv
 (IntKind.wrap IntKind.i64
 (IntKind.wrap IntKind.i64 (n + (719468 : Int)) -
 IntKind.wrap IntKind.i64
 ((146097 : Int) * IntKind.wrap IntKind.i64 (Int.tdiv (IntKind.wrap IntKind.i64 (n + (719468 : Int))) (146097 : Int)))))
 (146096 : Int))))
 (365 : Int)))
 (100 : Int)))) -
 IntKind.wrap IntKind.i64
 (Int.tdiv
 (IntKind.wrap IntKind.i64
 (IntKind.wrap IntKind.i64
 ((153 : Int) *
 IntKind.wrap IntKind.i64
 (Int.tdiv
 (IntKind.wrap IntKind.i64
 (IntKind.wrap IntKind.i64
 ((5 : Int) *
 IntKind.wrap IntKind.i64
 (IntKind.wrap IntKind.i64
 (IntKind.wrap IntKind.i64 (n + (719468 : Int)) -
 IntKind.wrap IntKind.i64
 ((146097 : Int) * IntKind.wrap IntKind.i64 (Int.tdiv (IntKind.wrap IntKind.i64 (n + (719468 : Int))) (146097 : Int)))) -
 IntKind.wrap IntKind.i64
 (IntKind.wrap IntKind.i64
 (IntKind.wrap IntKind.i64
 ((365 : Int) *
 IntKind.wrap IntKind.i64
 (Int.tdiv
 (IntKind.wrap IntKind.i64
 (IntKind.wrap IntKind.i64
 (IntKind.wrap IntKind.i64
 (IntKind.wrap IntKind.i64
 (IntKind.wrap IntKind.i64 (n + (719468 : Int)) -
 IntKind.wrap IntKind.i64
 ((146097 : Int) *
 IntKind.wrap IntKind.i64
 (Int.tdiv (IntKind.wrap IntKind.i64 (n + (719468 : Int))) (146097 : Int)))) -
 IntKind.wrap IntKind.i64
 (Int.tdiv
 (IntKind.wrap IntKind.i64
 (IntKind.wrap IntKind.i64 (n + (719468 : Int)) -
 IntKind.wrap IntKind.i64
 ((146097 : Int) *
 IntKind.wrap IntKind.i64
 (Int.tdiv (IntKind.wrap IntKind.i64 (n + (719468 : Int))) (146097 : Int)))))
 (1460 : Int))) +
 IntKind.wrap IntKind.i64
 (Int.tdiv
 (IntKind.wrap IntKind.i64
 (IntKind.wrap IntKind.i64 (n + (719468 : Int)) -
 IntKind.wrap IntKind.i64
 ((146097 : Int) *
 IntKind.wrap IntKind.i64
 (Int.tdiv (IntKind.wrap IntKind.i64 (n + (719468 : Int))) (146097 : Int)))))
 (36524 : Int))) -
 IntKind.wrap IntKind.i64
 (Int.tdiv
 (IntKind.wrap IntKind.i64
 (IntKind.wrap IntKind.i64 (n + (719468 : Int)) -
 IntKind.wrap IntKind.i64
 ((146097 : Int) *
 IntKind.wrap IntKind.i64 (Int.tdiv (IntKind.wrap IntKind.i64 (n + (719468 : Int))) (146097 : Int)))))
 (146096 : Int))))
 (365 : Int))) +
 IntKind.wrap IntKind.i64
 (Int.tdiv
 (IntKind.wrap IntKind.i64
 (Int.tdiv
 (IntKind.wrap IntKind.i64
 (IntKind.wrap IntKind.i64
 (IntKind.wrap IntKind.i64
 (IntKind.wrap IntKind.i64
 (IntKind.wrap IntKind.i64 (n + (719468 : Int)) -
 IntKind.wrap IntKind.i64
 ((146097 : Int) *
 IntKind.wrap IntKind.i64
 (Int.tdiv (IntKind.wrap IntKind.i64 (n + (719468 : Int))) (146097 : Int)))) -
 IntKind.wrap IntKind.i64
 (Int.tdiv
 (IntKind.wrap IntKind.i64
 (IntKind.wrap IntKind.i64 (n + (719468 : Int)) -
 IntKind.wrap IntKind.i64
 ((146097 : Int) *
 IntKind.wrap IntKind.i64
 (Int.tdiv (IntKind.wrap IntKind.i64 (n + (719468 : Int))) (146097 : Int)))))
 (1460 : Int))) +
 IntKind.wrap IntKind.i64
 (Int.tdiv
 (IntKind.wrap IntKind.i64
 (IntKind.wrap IntKind.i64 (n + (719468 : Int)) -
 IntKind.wrap IntKind.i64
 ((146097 : Int) *
 IntKind.wrap IntKind.i64
 (Int.tdiv (IntKind.wrap IntKind.i64 (n + (719468 : Int))) (146097 : Int)))))
 (36524 : Int))) -
 IntKind.wrap IntKind.i64
 (Int.tdiv
 (IntKind.wrap IntKind.i64
 (IntKind.wrap IntKind.i64 (n + (719468 : Int)) -
 IntKind.wrap IntKind.i64
 ((146097 : Int) *
 IntKind.wrap IntKind.i64 (Int.tdiv (IntKind.wrap IntKind.i64 (n + (719468 : Int))) (146097 : Int)))))
 (146096 : Int))))
 (365 : Int)))
 (4 : Int))) -
 IntKind.wrap IntKind.i64
 (Int.tdiv
 (IntKind.wrap IntKind.i64
 (Int.tdiv
 (IntKind.wrap IntKind.i64
 (IntKind.wrap IntKind.i64
 (IntKind.wrap IntKind.i64
 (IntKind.wrap IntKind.i64
 (IntKind.wrap IntKind.i64 (n + (719468 : Int)) -
 IntKind.wrap IntKind.i64
 ((146097 : Int) *
 IntKind.wrap IntKind.i64 (Int.tdiv (IntKind.wrap IntKind.i64 (n + (719468 : Int))) (146097 : Int)))) -
 IntKind.wrap IntKind.i64
 (Int.tdiv
 (IntKind.wrap IntKind.i64
 (IntKind.wrap IntKind.i64 (n + (719468 : Int)) -
 IntKind.wrap IntKind.i64
 ((146097 : Int) *
 IntKind.wrap IntKind.i64
 (Int.tdiv (IntKind.wrap IntKind.i64 (n + (719468 : Int))) (146097 : Int)))))
 (1460 : Int))) +
 IntKind.wrap IntKind.i64
 (Int.tdiv
 (IntKind.wrap IntKind.i64
 (IntKind.wrap IntKind.i64 (n + (719468 : Int)) -
 IntKind.wrap IntKind.i64
 ((146097 : Int) *
 IntKind.wrap IntKind.i64 (Int.tdiv (IntKind.wrap IntKind.i64 (n + (719468 : Int))) (146097 : Int)))))
 (36524 : Int))) -
 IntKind.wrap IntKind.i64
 (Int.tdiv
 (IntKind.wrap IntKind.i64
 (IntKind.wrap IntKind.i64 (n + (719468 : Int)) -
 IntKind.wrap IntKind.i64
 ((146097 : Int) *
 IntKind.wrap IntKind.i64 (Int.tdiv (IntKind.wrap IntKind.i64 (n + (719468 : Int))) (146097 : Int)))))
 (146096 : Int))))
 (365 : Int)))
 (100 : Int))))) +
 (2 : Int)))
 (153 : Int))) +
 (2 : Int)))
 (5 : Int))) +
 (1 : Int))) →
 K
 (Value.tuple
 (Array.mk
 [Value.agg (Array.mk [Value.int IntKind.i64 (Int.ofNat (0 : Nat)), Value.int IntKind.i64 (Int.ofNat (0 : Nat)), Value.int IntKind.i64 (Int.ofNat (0 : Nat))]),
 Value.bool Bool.false]))
 (10 : Nat))))))) := by kernel_rfl

def isMayD (y m d : Int) (u : Value) : Prop := (u = .bool true ∧ dateOk y m d) ∨ (u = .bool false ∧ ¬ dateOk y m d)
theorem isMayD_pure {y m d : Int} : ∀ v, isMayD y m d v → pureV 6 v = true := by
  rintro v (⟨rfl, _⟩ | ⟨rfl, _⟩) <;> kernel_rfl

theorem mayD_hk (y m d : Int) : ReckE (env rules1) 30 120 [dateC y m d] (isMayD y m d) := by
  constructor
  rw [may2_tree fun u mw => isMayD y m d u ∧ Tryz.prog.globals.size ≤ mw]
  repeat' (refine bsel_of (fun _ => ?_) (fun _ => ?_))
  all_goals first
    | exact ⟨.inl ⟨rfl, by grind [dateOk, lenF, leapF]⟩, globals_big⟩
    | exact ⟨.inr ⟨rfl, by grind [dateOk, lenF, leapF]⟩, globals_big⟩
    | (exfalso; grind)

theorem mayD_ok (base : World) : RuleOk Tryz.prog base 120 ruleMayD := ruleOk_of fun args T K hT hK => by
  split at hT
  · cases hT
    rename_i y m d
    obtain ⟨v, hv, ht⟩ := tot_ofE (env_ok (rules1_ok base)) env_loops rfl (mayD_hk y m d) isMayD_pure (pure1 (by kernel_rfl))
    rcases hv with ⟨rfl, h⟩ | ⟨rfl, h⟩
    · exact ⟨_, hK.1 h, ht⟩
    · exact ⟨_, hK.2 h, ht⟩
  · cases hT

theorem rulesU1_ok (base : World) : ∀ x ∈ rulesU1, RuleOk Tryz.prog base x.1 x.2 := List.forall_mem_cons.2 ⟨mayD_ok base, rules1_ok base⟩

theorem tdivB {x B k : Int} (hk : 1 ≤ k) (h : -B ≤ x ∧ x ≤ B) : -B ≤ Int.tdiv x k ∧ Int.tdiv x k ≤ B := by
  have h1 : (Int.tdiv x k).natAbs ≤ x.natAbs := by rw [Int.natAbs_tdiv]; exact Nat.div_le_self _ _
  omega

theorem numB {e Y mm d : Int} (he : -2600000 ≤ e ∧ e ≤ 2600000) (hY : -1000000001 ≤ Y ∧ Y ≤ 1000000001) (hm : -10 ≤ mm ∧ mm ≤ 30) (hd : 0 ≤ d ∧ d ≤ 31) :
    -2000000000000 ≤ IntKind.wrap .i64 (IntKind.wrap .i64 (IntKind.wrap .i64 (IntKind.wrap .i64 (IntKind.wrap .i64 (IntKind.wrap .i64 (146097 * e) + IntKind.wrap .i64 (365 * IntKind.wrap .i64 (Y - IntKind.wrap .i64 (400 * e)))) + IntKind.wrap .i64 (Int.tdiv (IntKind.wrap .i64 (Y - IntKind.wrap .i64 (400 * e))) 4)) - IntKind.wrap .i64 (Int.tdiv (IntKind.wrap .i64 (Y - IntKind.wrap .i64 (400 * e))) 100)) + IntKind.wrap .i64 (IntKind.wrap .i64 (IntKind.wrap .i64 (Int.tdiv (IntKind.wrap .i64 (IntKind.wrap .i64 (153 * mm) + 2)) 5) + d) - 1)) - 719468) ∧
      IntKind.wrap .i64 (IntKind.wrap .i64 (IntKind.wrap .i64 (IntKind.wrap .i64 (IntKind.wrap .i64 (IntKind.wrap .i64 (146097 * e) + IntKind.wrap .i64 (365 * IntKind.wrap .i64 (Y - IntKind.wrap .i64 (400 * e)))) + IntKind.wrap .i64 (Int.tdiv (IntKind.wrap .i64 (Y - IntKind.wrap .i64 (400 * e))) 4)) - IntKind.wrap .i64 (Int.tdiv (IntKind.wrap .i64 (Y - IntKind.wrap .i64 (400 * e))) 100)) + IntKind.wrap .i64 (IntKind.wrap .i64 (IntKind.wrap .i64 (Int.tdiv (IntKind.wrap .i64 (IntKind.wrap .i64 (153 * mm) + 2)) 5) + d) - 1)) - 719468) ≤ 2000000000000 := by
  have t1 := tdivB (k := 4) (B := 2100000000) (x := Y - 400 * e) (by decide) (by omega)
  have t2 := tdivB (k := 100) (B := 2100000000) (x := Y - 400 * e) (by decide) (by omega)
  have t3 := tdivB (k := 5) (B := 10000) (x := 153 * mm + 2) (by decide) (by omega)
  simp (disch := (unfold rng; omega)) only [wrap_i64]
  generalize Int.tdiv (Y - 400 * e) 4 = a at *
  generalize Int.tdiv (Y - 400 * e) 100 = b at *
  generalize Int.tdiv (153 * mm + 2) 5 = c at *
  omega

theorem eraB {Y : Int} (hY : -1000000001 ≤ Y ∧ Y ≤ 1000000001) : (-2600000 ≤ IntKind.wrap .i64 (Int.tdiv Y 400) ∧ IntKind.wrap .i64 (Int.tdiv Y 400) ≤ 2600000) ∧
    -2600000 ≤ IntKind.wrap .i64 (IntKind.wrap .i64 (Int.tdiv Y 400) - 1) ∧ IntKind.wrap .i64 (IntKind.wrap .i64 (Int.tdiv Y 400) - 1) ≤ 2600000 := by
  have h1 : (Int.tdiv Y 400).natAbs = Y.natAbs / 400 := by rw [Int.natAbs_tdiv]; rfl
  have h2 : -2500003 ≤ Int.tdiv Y 400 ∧ Int.tdiv Y 400 ≤ 2500003 := by omega
  generalize Int.tdiv Y 400 = q at *
  simp (disch := (unfold rng; omega)) only [wrap_i64]
  omega

def isNumber (y m d : Int) (u : Value) : Prop := (∃ k, u = .tuple #[.int .i64 k, .bool true] ∧ (-2000000000000 ≤ k ∧ k ≤ 2000000000000) ∧ dateOk y m d) ∨ (u = .tuple #[.int .i64 0, .bool false] ∧ ¬ dateOk y m d)
theorem isNumber_pure {y m d : Int} : ∀ v, isNumber y m d v → pureV 6 v = true := by
  rintro v (⟨_, rfl, _, _⟩ | ⟨rfl, _⟩) <;> kernel_rfl

theorem number_hk (y m d : Int) : ReckE (env rulesU1) 30 175 [dateC y m d] (isNumber y m d) := by
  constructor
  rw [number_tree fun u mw => isNumber y m d u ∧ Tryz.prog.globals.size ≤ mw]
  refine ⟨fun h => ?_, fun h => ⟨.inr ⟨rfl, h⟩, Nat.le_of_ble_eq_true (by kernel_rfl)⟩⟩
  have h31 := dateOk_len h
  have hy : -999999999 ≤ y ∧ y ≤ 999999999 := ⟨h.1, h.2.1⟩
  have hm : 1 ≤ m ∧ m ≤ 12 := ⟨h.2.2.1, h.2.2.2.1⟩
  have hd : 1 ≤ d := h.2.2.2.2.1
  have w1 : IntKind.wrap .i64 (y - 1) = y - 1 := wrap_i64 _ (by unfold rng; omega)
  have w2 : IntKind.wrap .i64 (IntKind.wrap .i64 (m + 12) - 3) = m + 9 := by
    simp (disch := (unfold rng; omega)) only [wrap_i64]
    omega
  have w3 : IntKind.wrap .i64 (m - 3) = m - 3 := wrap_i64 _ (by unfold rng; omega)
  have e1 := eraB (Y := y - 1) (by omega)
  have e2 := eraB (Y := y) (by omega)
  simp only [w1, w2, w3]
  refine bsel_of (fun _ => bsel_of (fun _ => ?_) (fun _ => ?_)) (fun _ => bsel_of (fun _ => ?_) (fun _ => ?_))
  · exact ⟨.inl ⟨_, rfl, numB e1.2 (by omega) (by omega) (by omega), h⟩, Nat.le_of_ble_eq_true (by kernel_rfl)⟩
  · exact ⟨.inl ⟨_, rfl, numB e1.1 (by omega) (by omega) (by omega), h⟩, Nat.le_of_ble_eq_true (by kernel_rfl)⟩
  · exact ⟨.inl ⟨_, rfl, numB e2.2 (by omega) (by omega) (by omega), h⟩, Nat.le_of_ble_eq_true (by kernel_rfl)⟩
  · exact ⟨.inl ⟨_, rfl, numB e2.1 (by omega) (by omega) (by omega), h⟩, Nat.le_of_ble_eq_true (by kernel_rfl)⟩

theorem number_ok (base : World) : RuleOk Tryz.prog base 175 ruleNumber := ruleOk_of fun args T K hT hK => by
  split at hT
  · cases hT
    rename_i y m d
    obtain ⟨v, hv, ht⟩ := tot_ofE (env_ok (rulesU1_ok base)) env_loops rfl (number_hk y m d) isNumber_pure (pure1 (by kernel_rfl))
    rcases hv with ⟨k, rfl, hk, h⟩ | ⟨rfl, h⟩
    · exact ⟨_, hK.1 h k hk, ht⟩
    · exact ⟨_, hK.2 h, ht⟩
  · cases hT

/-- A day and whether there is one. -/
def isDay (u : Value) : Prop := (∃ y m d, u = .tuple #[dateC y m d, .bool true] ∧ dateOk y m d) ∨ u = .tuple #[dateC 0 0 0, .bool false]
theorem isDay_pure : ∀ v, isDay v → pureV 6 v = true := by
  rintro v (⟨_, _, _, rfl, _⟩ | rfl) <;> kernel_rfl

theorem of_hk (n : Int) : ReckE (env rulesU1) 30 270 [.int .i64 n] isDay := by
  constructor
  rw [of_tree fun u mw => isDay u ∧ Tryz.prog.globals.size ≤ mw]
  repeat' (first
    | exact ⟨.inr rfl, Nat.le_of_ble_eq_true (by kernel_rfl)⟩
    | (refine And.intro (fun h => ⟨.inl ⟨_, _, _, rfl, h⟩, Nat.le_of_ble_eq_true (by kernel_rfl)⟩) (fun _ => ⟨.inr rfl, Nat.le_of_ble_eq_true (by kernel_rfl)⟩))
    | refine bsel_of (fun _ => ?_) (fun _ => ?_))

theorem of_ok (base : World) : RuleOk Tryz.prog base 270 ruleOf := ruleOk_of fun args T K hT hK => by
  split at hT
  · cases hT
    rename_i n
    obtain ⟨v, hv, ht⟩ := tot_ofE (env_ok (rulesU1_ok base)) env_loops rfl (of_hk n) isDay_pure (pure1 (by kernel_rfl))
    rcases hv with ⟨y, m, d, rfl, h⟩ | rfl
    · exact ⟨_, hK.1 y m d h, ht⟩
    · exact ⟨_, hK.2, ht⟩
  · cases hT

theorem rulesU2_ok (base : World) : ∀ x ∈ rulesU2, RuleOk Tryz.prog base x.1 x.2 :=
  List.forall_mem_cons.2 ⟨number_ok base, List.forall_mem_cons.2 ⟨of_ok base, List.forall_mem_cons.2 ⟨length_ok base, rulesU1_ok base⟩⟩⟩

end Go.Proofs.YtdbjbmdaekgbhaaGreatDoor
