/-
  Days of the week, days of the year, weeks: whatever they are, they are numbers.
-/
import Derived.Test.YtdbjbmdaekgbhaaGreatDoorEh
namespace Go.Proofs.YtdbjbmdaekgbhaaGreatDoor
open Go Go.Pe Go.RowKit

/-- An environment whose loops end after so many rounds. -/
noncomputable def envN (k : Nat) (rules : List (Nat × Rule)) : Env :=
  { P := Tryz.prog, isBool := bools, oracle := findR rules, eqAgg := fun _ _ _ => none, loops := k, loopP := fun _ _ => none, guess := fun _ _ => none, strF := strAt }

theorem envN_ok {k : Nat} {rules : List (Nat × Rule)} {base : World} (hr : ∀ x ∈ rules, RuleOk Tryz.prog base x.1 x.2) : EnvOk (envN k rules) base :=
  envOk_of (E := envN k rules) rfl rfl mixed_ok plain_ok hr fun _ _ _ _ h => by cases h

theorem envN_loops {k : Nat} {rules : List (Nat × Rule)} {base : World} : LoopsOk (envN k rules) base := fun _ _ _ _ _ _ h => by cases h

/-- The evaluator comes to a value of a kind, in an environment. -/
structure ReckE (E : Env) (d : Nat) (f : FuncId) (args : List Value) (S : Value → Prop) : Prop where
  out : funcK E d f args tabs Tryz.prog.globals.size (fun u _ _ mw => S u ∧ Tryz.prog.globals.size ≤ mw)

theorem tot_ofE {E : Env} {base : World} (hE : EnvOk E base) (hL : LoopsOk E base) (hP : E.P = Tryz.prog) {d : Nat} {f : FuncId} {args : List Value} {S : Value → Prop} (hk : ReckE E d f args S)
    (hp : ∀ v, S v → pureV 6 v = true) (ha : ∀ x ∈ args, pureV 6 x = true) : ∃ v, S v ∧ Tot base f args v := by
  obtain ⟨u, h', n', mw, ⟨hS, hmw⟩, hs⟩ := funcK_sound hE hL d f args tabs Tryz.prog.globals.size _ hk.out
  exact ⟨u, hS, fun E' hE' h ht n => (hs.anywhere hmw (hp u hS) ha tabs_ok (by rw [hP]; exact Nat.le_refl _) (hasTab_sub ht) n).env (hE'.trans hP.symm)⟩

def isInt (lo hi : Int) (u : Value) : Prop := ∃ k, u = .int .i64 k ∧ lo ≤ k ∧ k ≤ hi
theorem isInt_pure {lo hi : Int} : ∀ v, isInt lo hi v → pureV 6 v = true := by
  rintro v ⟨_, rfl, _⟩
  kernel_rfl

def isRng (u : Value) : Prop := ∃ k, u = .int .i64 k ∧ rng k
theorem isRng_pure : ∀ v, isRng v → pureV 6 v = true := by
  rintro v ⟨_, rfl, _⟩
  kernel_rfl

def ruleWeekday : Rule := rule1 fun args => match args with
  | [.agg ⟨[.int .i64 y, .int .i64 m, .int .i64 d]⟩] => some fun K => dateOk y m d ∧ ∀ k, 1 ≤ k → k ≤ 7 → K (.int .i64 k)
  | _ => none

def ruleYearday : Rule := rule1 fun args => match args with
  | [.agg ⟨[.int .i64 y, .int .i64 m, .int .i64 d]⟩] => some fun K => dateOk y m d ∧ ∀ k, rng k → K (.int .i64 k)
  | _ => none

def ruleLength : Rule := rule1 fun args => match args with
  | [.int .i64 _, .int .i64 _] => some fun K => ∀ k, 0 ≤ k → k ≤ 31 → K (.int .i64 k)
  | _ => none

def rulesW : List (Nat × Rule) := (92, ruleWeekday) :: (164, ruleYearday) :: rules4
def rulesL : List (Nat × Rule) := (192, ruleLength) :: rules4

theorem weekday_tree (K : Value → Nat → Prop) (y m d : Int) :
    funcK (env rules4) 30 92 [dateC y m d] tabs Tryz.prog.globals.size (fun u _ _ mw => K u mw) =
  (dateOk y m d ∧
 bsel (decide (m ≤ (2 : Int)))
 (bsel (decide (Int.tmod (IntKind.wrap IntKind.i64 (y - (1 : Int))) (400 : Int) < (0 : Int)))
 (K
 (Value.int IntKind.i64
 (IntKind.wrap IntKind.i64
 (Int.tmod
 (IntKind.wrap IntKind.i64
 (Int.tmod
 (IntKind.wrap IntKind.i64
 (IntKind.wrap IntKind.i64
 (IntKind.wrap IntKind.i64
 (IntKind.wrap IntKind.i64
 (IntKind.wrap IntKind.i64
 (IntKind.wrap IntKind.i64
 ((146097 : Int) *
 IntKind.wrap IntKind.i64 (IntKind.wrap IntKind.i64 (Int.tdiv (IntKind.wrap IntKind.i64 (y - (1 : Int))) (400 : Int)) - (1 : Int))) +
 IntKind.wrap IntKind.i64
 ((365 : Int) *
 IntKind.wrap IntKind.i64
 (IntKind.wrap IntKind.i64 (y - (1 : Int)) -
 IntKind.wrap IntKind.i64
 ((400 : Int) *
 IntKind.wrap IntKind.i64
 (IntKind.wrap IntKind.i64 (Int.tdiv (IntKind.wrap IntKind.i64 (y - (1 : Int))) (400 : Int)) - (1 : Int)))))) +
 IntKind.wrap IntKind.i64
 (Int.tdiv
 (IntKind.wrap IntKind.i64
 (IntKind.wrap IntKind.i64 (y - (1 : Int)) -
 IntKind.wrap IntKind.i64
 ((400 : Int) *
 IntKind.wrap IntKind.i64 (IntKind.wrap IntKind.i64 (Int.tdiv (IntKind.wrap IntKind.i64 (y - (1 : Int))) (400 : Int)) - (1 : Int)))))
 (4 : Int))) -
 IntKind.wrap IntKind.i64
 (Int.tdiv
 (IntKind.wrap IntKind.i64
 (IntKind.wrap IntKind.i64 (y - (1 : Int)) -
 IntKind.wrap IntKind.i64
 ((400 : Int) *
 IntKind.wrap IntKind.i64 (IntKind.wrap IntKind.i64 (Int.tdiv (IntKind.wrap IntKind.i64 (y - (1 : Int))) (400 : Int)) - (1 : Int)))))
 (100 : Int))) +
 IntKind.wrap IntKind.i64
 (IntKind.wrap IntKind.i64
 (IntKind.wrap IntKind.i64
 (Int.tdiv
 (IntKind.wrap IntKind.i64
 (IntKind.wrap IntKind.i64 ((153 : Int) * IntKind.wrap IntKind.i64 (IntKind.wrap IntKind.i64 (m + (12 : Int)) - (3 : Int))) + (2 : Int)))
 (5 : Int)) +
 d) -
 (1 : Int))) -
 (719468 : Int)))
 (7 : Int) +
 (10 : Int)))
 (7 : Int) +
 (1 : Int))))
 (18446744073709551616 : Nat))
 (K
 (Value.int IntKind.i64
 (IntKind.wrap IntKind.i64
 (Int.tmod
 (IntKind.wrap IntKind.i64
 (Int.tmod
 (IntKind.wrap IntKind.i64
 (IntKind.wrap IntKind.i64
 (IntKind.wrap IntKind.i64
 (IntKind.wrap IntKind.i64
 (IntKind.wrap IntKind.i64
 (IntKind.wrap IntKind.i64 ((146097 : Int) * IntKind.wrap IntKind.i64 (Int.tdiv (IntKind.wrap IntKind.i64 (y - (1 : Int))) (400 : Int))) +
 IntKind.wrap IntKind.i64
 ((365 : Int) *
 IntKind.wrap IntKind.i64
 (IntKind.wrap IntKind.i64 (y - (1 : Int)) -
 IntKind.wrap IntKind.i64
 ((400 : Int) * IntKind.wrap IntKind.i64 (Int.tdiv (IntKind.wrap IntKind.i64 (y - (1 : Int))) (400 : Int)))))) +
 IntKind.wrap IntKind.i64
 (Int.tdiv
 (IntKind.wrap IntKind.i64
 (IntKind.wrap IntKind.i64 (y - (1 : Int)) -
 IntKind.wrap IntKind.i64 ((400 : Int) * IntKind.wrap IntKind.i64 (Int.tdiv (IntKind.wrap IntKind.i64 (y - (1 : Int))) (400 : Int)))))
 (4 : Int))) -
 IntKind.wrap IntKind.i64
 (Int.tdiv
 (IntKind.wrap IntKind.i64
 (IntKind.wrap IntKind.i64 (y - (1 : Int)) -
 IntKind.wrap IntKind.i64 ((400 : Int) * IntKind.wrap IntKind.i64 (Int.tdiv (IntKind.wrap IntKind.i64 (y - (1 : Int))) (400 : Int)))))
 (100 : Int))) +
 IntKind.wrap IntKind.i64
 (IntKind.wrap IntKind.i64
 (IntKind.wrap IntKind.i64
 (Int.tdiv
 (IntKind.wrap IntKind.i64
 (IntKind.wrap IntKind.i64 ((153 : Int) * IntKind.wrap IntKind.i64 (IntKind.wrap IntKind.i64 (m + (12 : Int)) - (3 : Int))) + (2 : Int)))
 (5 : Int)) +
 d) -
 (1 : Int))) -
 (719468 : Int)))
 (7 : Int) +
 (10 : Int)))
 (7 : Int) +
 (1 : Int))))
 (18446744073709551616 : Nat)))
 (bsel (decide (Int.tmod y (400 : Int) < (0 : Int)))
 (K
 (Value.int IntKind.i64
 (IntKind.wrap IntKind.i64
 (Int.tmod
 (IntKind.wrap IntKind.i64
 (Int.tmod
 (IntKind.wrap IntKind.i64
 (IntKind.wrap IntKind.i64
 (IntKind.wrap IntKind.i64
 (IntKind.wrap IntKind.i64
 (IntKind.wrap IntKind.i64
 (IntKind.wrap IntKind.i64 ((146097 : Int) * IntKind.wrap IntKind.i64 (IntKind.wrap IntKind.i64 (Int.tdiv y (400 : Int)) - (1 : Int))) +
 IntKind.wrap IntKind.i64
 ((365 : Int) *
 IntKind.wrap IntKind.i64
 (y -
 IntKind.wrap IntKind.i64
 ((400 : Int) * IntKind.wrap IntKind.i64 (IntKind.wrap IntKind.i64 (Int.tdiv y (400 : Int)) - (1 : Int)))))) +
 IntKind.wrap IntKind.i64
 (Int.tdiv
 (IntKind.wrap IntKind.i64
 (y - IntKind.wrap IntKind.i64 ((400 : Int) * IntKind.wrap IntKind.i64 (IntKind.wrap IntKind.i64 (Int.tdiv y (400 : Int)) - (1 : Int)))))
 (4 : Int))) -
 IntKind.wrap IntKind.i64
 (Int.tdiv
 (IntKind.wrap IntKind.i64
 (y - IntKind.wrap IntKind.i64 ((400 : Int) * IntKind.wrap IntKind.i64 (IntKind.wrap IntKind.i64 (Int.tdiv y (400 : Int)) - (1 : Int)))))
 (100 : Int))) +
 IntKind.wrap IntKind.i64
 (IntKind.wrap IntKind.i64
 (IntKind.wrap IntKind.i64
 (Int.tdiv (IntKind.wrap IntKind.i64 (IntKind.wrap IntKind.i64 ((153 : Int) * IntKind.wrap IntKind.i64 (m - (3 : Int))) + (2 : Int)))
 (5 : Int)) +
 d) -
 (1 : Int))) -
 (719468 : Int)))
 (7 : Int) +
 (10 : Int)))
 (7 : Int) +
 (1 : Int))))
 (18446744073709551616 : Nat))
 (K
 (Value.int IntKind.i64
 (IntKind.wrap IntKind.i64
 (Int.tmod
 (IntKind.wrap IntKind.i64
 (Int.tmod
 (IntKind.wrap IntKind.i64
 (IntKind.wrap IntKind.i64
 (IntKind.wrap IntKind.i64
 (IntKind.wrap IntKind.i64
 (IntKind.wrap IntKind.i64
 (IntKind.wrap IntKind.i64 ((146097 : Int) * IntKind.wrap IntKind.i64 (Int.tdiv y (400 : Int))) +
 IntKind.wrap IntKind.i64
 ((365 : Int) *
 IntKind.wrap IntKind.i64 (y - IntKind.wrap IntKind.i64 ((400 : Int) * IntKind.wrap IntKind.i64 (Int.tdiv y (400 : Int)))))) +
 IntKind.wrap IntKind.i64
 (Int.tdiv (IntKind.wrap IntKind.i64 (y - IntKind.wrap IntKind.i64 ((400 : Int) * IntKind.wrap IntKind.i64 (Int.tdiv y (400 : Int)))))
 (4 : Int))) -
 IntKind.wrap IntKind.i64
 (Int.tdiv (IntKind.wrap IntKind.i64 (y - IntKind.wrap IntKind.i64 ((400 : Int) * IntKind.wrap IntKind.i64 (Int.tdiv y (400 : Int)))))
 (100 : Int))) +
 IntKind.wrap IntKind.i64
 (IntKind.wrap IntKind.i64
 (IntKind.wrap IntKind.i64
 (Int.tdiv (IntKind.wrap IntKind.i64 (IntKind.wrap IntKind.i64 ((153 : Int) * IntKind.wrap IntKind.i64 (m - (3 : Int))) + (2 : Int)))
 (5 : Int)) +
 d) -
 (1 : Int))) -
 (719468 : Int)))
 (7 : Int) +
 (10 : Int)))
 (7 : Int) +
 (1 : Int))))
 (18446744073709551616 : Nat)))) := by kernel_rfl
theorem length_tree (K : Value → Nat → Prop) (y m : Int) :
    funcK (env rules4) 30 192 [.int .i64 y, .int .i64 m] tabs Tryz.prog.globals.size (fun u _ _ mw => K u mw) =
  (bsel (m == (1 : Int)) (K (Value.int IntKind.i64 (Int.ofNat (31 : Nat))) (18446744073709551616 : Nat))
 (bsel (m == (3 : Int)) (K (Value.int IntKind.i64 (Int.ofNat (31 : Nat))) (18446744073709551616 : Nat))
 (bsel (m == (5 : Int)) (K (Value.int IntKind.i64 (Int.ofNat (31 : Nat))) (18446744073709551616 : Nat))
 (bsel (m == (7 : Int)) (K (Value.int IntKind.i64 (Int.ofNat (31 : Nat))) (18446744073709551616 : Nat))
 (bsel (m == (8 : Int)) (K (Value.int IntKind.i64 (Int.ofNat (31 : Nat))) (18446744073709551616 : Nat))
 (bsel (m == (10 : Int)) (K (Value.int IntKind.i64 (Int.ofNat (31 : Nat))) (18446744073709551616 : Nat))
 (bsel (m == (12 : Int)) (K (Value.int IntKind.i64 (Int.ofNat (31 : Nat))) (18446744073709551616 : Nat))
 (bsel (m == (4 : Int)) (K (Value.int IntKind.i64 (Int.ofNat (30 : Nat))) (18446744073709551616 : Nat))
 (bsel (m == (6 : Int)) (K (Value.int IntKind.i64 (Int.ofNat (30 : Nat))) (18446744073709551616 : Nat))
 (bsel (m == (9 : Int)) (K (Value.int IntKind.i64 (Int.ofNat (30 : Nat))) (18446744073709551616 : Nat))
 (bsel (m == (11 : Int)) (K (Value.int IntKind.i64 (Int.ofNat (30 : Nat))) (18446744073709551616 : Nat))
 (bsel (m == (2 : Int))
 (bsel (Int.tmod y (4 : Int) == (0 : Int))
 (bsel (Int.tmod y (100 : Int) != (0 : Int)) (K (Value.int IntKind.i64 (Int.ofNat (29 : Nat))) (18446744073709551616 : Nat))
 (bsel (Int.tmod y (400 : Int) == (0 : Int)) (K (Value.int IntKind.i64 (Int.ofNat (29 : Nat))) (18446744073709551616 : Nat))
 (K (Value.int IntKind.i64 (Int.ofNat (28 : Nat))) (18446744073709551616 : Nat))))
 (K (Value.int IntKind.i64 (Int.ofNat (28 : Nat))) (18446744073709551616 : Nat)))
 (K (Value.int IntKind.i64 (Int.ofNat (0 : Nat))) (18446744073709551616 : Nat)))))))))))))) := by kernel_rfl
theorem yearday_tree (K : Value → Nat → Prop) (y m d : Int) :
    funcK (envN 13 rulesL) 30 164 [dateC y m d] tabs Tryz.prog.globals.size (fun u _ _ mw => K u mw) =
  (dateOk y m d ∧
 bsel (decide ((0 : Int) < IntKind.wrap IntKind.i64 (m - (1 : Int))))
 (∀ (k : Int),
 Int.ofNat (0 : Nat) ≤ k →
 k ≤ Int.ofNat (31 : Nat) →
 bsel (decide (IntKind.wrap IntKind.i64 ((0 : Int) + (1 : Int)) < IntKind.wrap IntKind.i64 (m - (1 : Int))))
 (∀ (k_1 : Int),
 Int.ofNat (0 : Nat) ≤ k_1 →
 k_1 ≤ Int.ofNat (31 : Nat) →
 bsel (decide (IntKind.wrap IntKind.i64 (IntKind.wrap IntKind.i64 ((0 : Int) + (1 : Int)) + (1 : Int)) < IntKind.wrap IntKind.i64 (m - (1 : Int))))
 (∀ (k_2 : Int),
 Int.ofNat (0 : Nat) ≤ k_2 →
 k_2 ≤ Int.ofNat (31 : Nat) →
 bsel
 (decide
 (IntKind.wrap IntKind.i64 (IntKind.wrap IntKind.i64 (IntKind.wrap IntKind.i64 ((0 : Int) + (1 : Int)) + (1 : Int)) + (1 : Int)) <
 IntKind.wrap IntKind.i64 (m - (1 : Int))))
 (∀ (k_3 : Int),
 Int.ofNat (0 : Nat) ≤ k_3 →
 k_3 ≤ Int.ofNat (31 : Nat) →
 bsel
 (decide
 (IntKind.wrap IntKind.i64
 (IntKind.wrap IntKind.i64 (IntKind.wrap IntKind.i64 (IntKind.wrap IntKind.i64 ((0 : Int) + (1 : Int)) + (1 : Int)) + (1 : Int)) +
 (1 : Int)) <
 IntKind.wrap IntKind.i64 (m - (1 : Int))))
 (∀ (k_4 : Int),
 Int.ofNat (0 : Nat) ≤ k_4 →
 k_4 ≤ Int.ofNat (31 : Nat) →
 bsel
 (decide
 (IntKind.wrap IntKind.i64
 (IntKind.wrap IntKind.i64
 (IntKind.wrap IntKind.i64
 (IntKind.wrap IntKind.i64 (IntKind.wrap IntKind.i64 ((0 : Int) + (1 : Int)) + (1 : Int)) + (1 : Int)) +
 (1 : Int)) +
 (1 : Int)) <
 IntKind.wrap IntKind.i64 (m - (1 : Int))))
 (∀ (k_5 : Int),
 Int.ofNat (0 : Nat) ≤ k_5 →
 k_5 ≤ Int.ofNat (31 : Nat) →
 bsel
 (decide
 (IntKind.wrap IntKind.i64
 (IntKind.wrap IntKind.i64
 (IntKind.wrap IntKind.i64
 (IntKind.wrap IntKind.i64
 (IntKind.wrap IntKind.i64 (IntKind.wrap IntKind.i64 ((0 : Int) + (1 : Int)) + (1 : Int)) + (1 : Int)) +
 (1 : Int)) +
 (1 : Int)) +
 (1 : Int)) <
 IntKind.wrap IntKind.i64 (m - (1 : Int))))
 (∀ (k_6 : Int),
 Int.ofNat (0 : Nat) ≤ k_6 →
 k_6 ≤ Int.ofNat (31 : Nat) →
 bsel
 (decide
 (IntKind.wrap IntKind.i64
 (IntKind.wrap IntKind.i64
 (IntKind.wrap IntKind.i64
 (IntKind.wrap IntKind.i64
 (IntKind.wrap IntKind.i64
 (IntKind.wrap IntKind.i64 (IntKind.wrap IntKind.i64 ((0 : Int) + (1 : Int)) + (1 : Int)) + (1 : Int)) +
 (1 : Int)) +
 (1 : Int)) +
 (1 : Int)) +
 (1 : Int)) <
 IntKind.wrap IntKind.i64 (m - (1 : Int))))
 (∀ (k_7 : Int),
 Int.ofNat (0 : Nat) ≤ k_7 →
 k_7 ≤ Int.ofNat (31 : Nat) →
 bsel
 (decide
 (IntKind.wrap IntKind.i64
 (IntKind.wrap IntKind.i64
 (IntKind.wrap IntKind.i64
 (IntKind.wrap IntKind.i64
 (IntKind.wrap IntKind.i64
 (IntKind.wrap IntKind.i64
 (IntKind.wrap IntKind.i64 (IntKind.wrap IntKind.i64 ((0 : Int) + (1 : Int)) + (1 : Int)) +
 (1 : Int)) +
 (1 : Int)) +
 (1 : Int)) +
 (1 : Int)) +
 (1 : Int)) +
 (1 : Int)) <
 IntKind.wrap IntKind.i64 (m - (1 : Int))))
 (∀ (k_8 : Int),
 Int.ofNat (0 : Nat) ≤ k_8 →
 k_8 ≤ Int.ofNat (31 : Nat) →
 bsel
 (decide
 (IntKind.wrap IntKind.i64
 (IntKind.wrap IntKind.i64
 (IntKind.wrap IntKind.i64
 (IntKind.wrap IntKind.i64
 (IntKind.wrap IntKind.i64
 (IntKind.wrap IntKind.i64
 (IntKind.wrap IntKind.i64
 (IntKind.wrap IntKind.i64
 (IntKind.wrap IntKind.i64 ((0 : Int) + (1 : Int)) + (1 : Int)) +
 (1 : Int)) +
 (1 : Int)) +
 (1 : Int)) +
 (1 : Int)) +
 (1 : Int)) +
 (1 : Int)) +
 (1 : Int)) <
 IntKind.wrap IntKind.i64 (m - (1 : Int))))
 (∀ (k_9 : Int),
 Int.ofNat (0 : Nat) ≤ k_9 →
 k_9 ≤ Int.ofNat (31 : Nat) →
 bsel
 (decide
 (IntKind.wrap IntKind.i64
 (IntKind.wrap IntKind.i64
 (IntKind.wrap IntKind.i64
 (IntKind.wrap IntKind.i64
 (IntKind.wrap IntKind.i64
 (IntKind.wrap IntKind.i64
 (IntKind.wrap IntKind.i64
 (IntKind.wrap IntKind.i64
 (IntKind.wrap IntKind.i64
 (IntKind.wrap IntKind.i64 ((0 : Int) + (1 : Int)) + (1 : Int)) +
 (1 : Int)) +
 (1 : Int)) +
 (1 : Int)) +
 (1 : Int)) +
 (1 : Int)) +
 (1 : Int)) +
 (1 : Int)) +
 (1 : Int)) <
 IntKind.wrap IntKind.i64 (m - (1 : Int))))
 (∀ (k_10 : Int),
 Int.ofNat (0 : Nat) ≤ k_10 →
 k_10 ≤ Int.ofNat (31 : Nat) →
 bsel
 (decide
 (IntKind.wrap IntKind.i64
 (IntKind.wrap IntKind.i64
 (IntKind.wrap IntKind.i64
 (IntKind.wrap IntKind.i64
 (IntKind.wrap IntKind.i64
 (IntKind.wrap IntKind.i64
 (IntKind.wrap IntKind.i64
 (IntKind.wrap IntKind.i64
 (IntKind.wrap IntKind.i64
 (IntKind.wrap IntKind.i64
 (IntKind.wrap IntKind.i64 ((0 : Int) + (1 : Int)) +
 (1 : Int)) +
 (1 : Int)) +
 (1 : Int)) +
 (1 : Int)) +
 (1 : Int)) +
 (1 : Int)) +
 (1 : Int)) +
 (1 : Int)) +
 (1 : Int)) +
 (1 : Int)) <
 IntKind.wrap IntKind.i64 (m - (1 : Int))))
 (∀ (k_11 : Int),
 Int.ofNat (0 : Nat) ≤ k_11 →
 k_11 ≤ Int.ofNat (31 : Nat) →
 bsel
 (decide
 (IntKind.wrap IntKind.i64
 (IntKind.wrap IntKind.i64
 (IntKind.wrap IntKind.i64
 (IntKind.wrap IntKind.i64
 (IntKind.wrap IntKind.i64
 (IntKind.wrap IntKind.i64
 (IntKind.wrap IntKind.i64
 (IntKind.wrap IntKind.i64
 (IntKind.wrap IntKind.i64
 (IntKind.wrap IntKind.i64
 (IntKind.wrap IntKind.i64
 (IntKind.wrap IntKind.i64
 ((0 : Int) + (1 : Int)) +
 (1 : Int)) +
 (1 : Int)) +
 (1 : Int)) +
 (1 : Int)) +
 (1 : Int)) +
 (1 : Int)) +
 (1 : Int)) +
 (1 : Int)) +
 (1 : Int)) +
 (1 : Int)) +
 (1 : Int)) <
 IntKind.wrap IntKind.i64 (m - (1 : Int))))
 (∀ (k : Int), Int.ofNat (0 : Nat) ≤ k → k ≤ Int.ofNat (31 : Nat) → False)
 (K
 (Value.int IntKind.i64
 (IntKind.wrap IntKind.i64
 (IntKind.wrap IntKind.i64
 (IntKind.wrap IntKind.i64
 (IntKind.wrap IntKind.i64
 (IntKind.wrap IntKind.i64
 (IntKind.wrap IntKind.i64
 (IntKind.wrap IntKind.i64
 (IntKind.wrap IntKind.i64
 (IntKind.wrap IntKind.i64
 (IntKind.wrap IntKind.i64
 (IntKind.wrap IntKind.i64
 (IntKind.wrap IntKind.i64 (d + k) + k_1) +
 k_2) +
 k_3) +
 k_4) +
 k_5) +
 k_6) +
 k_7) +
 k_8) +
 k_9) +
 k_10) +
 k_11)))
 (18446744073709551616 : Nat)))
 (K
 (Value.int IntKind.i64
 (IntKind.wrap IntKind.i64
 (IntKind.wrap IntKind.i64
 (IntKind.wrap IntKind.i64
 (IntKind.wrap IntKind.i64
 (IntKind.wrap IntKind.i64
 (IntKind.wrap IntKind.i64
 (IntKind.wrap IntKind.i64
 (IntKind.wrap IntKind.i64
 (IntKind.wrap IntKind.i64
 (IntKind.wrap IntKind.i64
 (IntKind.wrap IntKind.i64 (d + k) + k_1) +
 k_2) +
 k_3) +
 k_4) +
 k_5) +
 k_6) +
 k_7) +
 k_8) +
 k_9) +
 k_10)))
 (18446744073709551616 : Nat)))
 (K
 (Value.int IntKind.i64
 (IntKind.wrap IntKind.i64
 (IntKind.wrap IntKind.i64
 (IntKind.wrap IntKind.i64
 (IntKind.wrap IntKind.i64
 (IntKind.wrap IntKind.i64
 (IntKind.wrap IntKind.i64
 (IntKind.wrap IntKind.i64
 (IntKind.wrap IntKind.i64
 (IntKind.wrap IntKind.i64 (IntKind.wrap IntKind.i64 (d + k) + k_1) +
 k_2) +
 k_3) +
 k_4) +
 k_5) +
 k_6) +
 k_7) +
 k_8) +
 k_9)))
 (18446744073709551616 : Nat)))
 (K
 (Value.int IntKind.i64
 (IntKind.wrap IntKind.i64
 (IntKind.wrap IntKind.i64
 (IntKind.wrap IntKind.i64
 (IntKind.wrap IntKind.i64
 (IntKind.wrap IntKind.i64
 (IntKind.wrap IntKind.i64
 (IntKind.wrap IntKind.i64
 (IntKind.wrap IntKind.i64 (IntKind.wrap IntKind.i64 (d + k) + k_1) + k_2) +
 k_3) +
 k_4) +
 k_5) +
 k_6) +
 k_7) +
 k_8)))
 (18446744073709551616 : Nat)))
 (K
 (Value.int IntKind.i64
 (IntKind.wrap IntKind.i64
 (IntKind.wrap IntKind.i64
 (IntKind.wrap IntKind.i64
 (IntKind.wrap IntKind.i64
 (IntKind.wrap IntKind.i64
 (IntKind.wrap IntKind.i64
 (IntKind.wrap IntKind.i64 (IntKind.wrap IntKind.i64 (d + k) + k_1) + k_2) +
 k_3) +
 k_4) +
 k_5) +
 k_6) +
 k_7)))
 (18446744073709551616 : Nat)))
 (K
 (Value.int IntKind.i64
 (IntKind.wrap IntKind.i64
 (IntKind.wrap IntKind.i64
 (IntKind.wrap IntKind.i64
 (IntKind.wrap IntKind.i64
 (IntKind.wrap IntKind.i64 (IntKind.wrap IntKind.i64 (IntKind.wrap IntKind.i64 (d + k) + k_1) + k_2) +
 k_3) +
 k_4) +
 k_5) +
 k_6)))
 (18446744073709551616 : Nat)))
 (K
 (Value.int IntKind.i64
 (IntKind.wrap IntKind.i64
 (IntKind.wrap IntKind.i64
 (IntKind.wrap IntKind.i64
 (IntKind.wrap IntKind.i64 (IntKind.wrap IntKind.i64 (IntKind.wrap IntKind.i64 (d + k) + k_1) + k_2) + k_3) +
 k_4) +
 k_5)))
 (18446744073709551616 : Nat)))
 (K
 (Value.int IntKind.i64
 (IntKind.wrap IntKind.i64
 (IntKind.wrap IntKind.i64
 (IntKind.wrap IntKind.i64 (IntKind.wrap IntKind.i64 (IntKind.wrap IntKind.i64 (d + k) + k_1) + k_2) + k_3) +
 k_4)))
 (18446744073709551616 : Nat)))
 (K
 (Value.int IntKind.i64
 (IntKind.wrap IntKind.i64 (IntKind.wrap IntKind.i64 (IntKind.wrap IntKind.i64 (IntKind.wrap IntKind.i64 (d + k) + k_1) + k_2) + k_3)))
 (18446744073709551616 : Nat)))
 (K (Value.int IntKind.i64 (IntKind.wrap IntKind.i64 (IntKind.wrap IntKind.i64 (IntKind.wrap IntKind.i64 (d + k) + k_1) + k_2)))
 (18446744073709551616 : Nat)))
 (K (Value.int IntKind.i64 (IntKind.wrap IntKind.i64 (IntKind.wrap IntKind.i64 (d + k) + k_1))) (18446744073709551616 : Nat)))
 (K (Value.int IntKind.i64 (IntKind.wrap IntKind.i64 (d + k))) (18446744073709551616 : Nat)))
 (K (Value.int IntKind.i64 d) (18446744073709551616 : Nat))) := by kernel_rfl
theorem week_tree (K : Value → Nat → Prop) (y m d : Int) :
    funcK (env rulesW) 30 167 [dateC y m d] tabs Tryz.prog.globals.size (fun u _ _ mw => K u mw) =
  (dateOk y m d ∧
 dateOk y m d ∧
 ∀ (k : Int),
 rng k →
 dateOk y m d ∧
 ∀ (k_1 : Int),
 Int.ofNat (1 : Nat) ≤ k_1 →
 k_1 ≤ Int.ofNat (7 : Nat) →
 bsel (decide (IntKind.wrap IntKind.i64 (Int.tdiv (IntKind.wrap IntKind.i64 (IntKind.wrap IntKind.i64 (k - k_1) + (10 : Int))) (7 : Int)) < (1 : Int)))
 (bsel (y == (-999999999 : Int))
 (dateOk (IntKind.wrap IntKind.i64 (y + (399 : Int))) (Int.ofNat (1 : Nat)) (Int.ofNat (1 : Nat)) ∧
 ∀ (k : Int),
 Int.ofNat (1 : Nat) ≤ k →
 k ≤ Int.ofNat (7 : Nat) →
 bsel (k == (4 : Int)) (K (Value.int IntKind.i64 (Int.ofNat (53 : Nat))) (18446744073709551616 : Nat))
 (bsel (k == (3 : Int))
 (bsel (Int.tmod (IntKind.wrap IntKind.i64 (y + (399 : Int))) (4 : Int) == (0 : Int))
 (bsel (Int.tmod (IntKind.wrap IntKind.i64 (y + (399 : Int))) (100 : Int) != (0 : Int))
 (K (Value.int IntKind.i64 (Int.ofNat (53 : Nat))) (18446744073709551616 : Nat))
 (bsel (Int.tmod (IntKind.wrap IntKind.i64 (y + (399 : Int))) (400 : Int) == (0 : Int))
 (K (Value.int IntKind.i64 (Int.ofNat (53 : Nat))) (18446744073709551616 : Nat))
 (K (Value.int IntKind.i64 (Int.ofNat (52 : Nat))) (18446744073709551616 : Nat))))
 (K (Value.int IntKind.i64 (Int.ofNat (52 : Nat))) (18446744073709551616 : Nat)))
 (K (Value.int IntKind.i64 (Int.ofNat (52 : Nat))) (18446744073709551616 : Nat))))
 (bsel
 (decide (IntKind.wrap IntKind.i64 (Int.tdiv (IntKind.wrap IntKind.i64 (IntKind.wrap IntKind.i64 (k - k_1) + (10 : Int))) (7 : Int)) < (1 : Int)))
 (dateOk (IntKind.wrap IntKind.i64 (y - (1 : Int))) (Int.ofNat (1 : Nat)) (Int.ofNat (1 : Nat)) ∧
 ∀ (k : Int),
 Int.ofNat (1 : Nat) ≤ k →
 k ≤ Int.ofNat (7 : Nat) →
 bsel (k == (4 : Int)) (K (Value.int IntKind.i64 (Int.ofNat (53 : Nat))) (18446744073709551616 : Nat))
 (bsel (k == (3 : Int))
 (bsel (Int.tmod (IntKind.wrap IntKind.i64 (y - (1 : Int))) (4 : Int) == (0 : Int))
 (bsel (Int.tmod (IntKind.wrap IntKind.i64 (y - (1 : Int))) (100 : Int) != (0 : Int))
 (K (Value.int IntKind.i64 (Int.ofNat (53 : Nat))) (18446744073709551616 : Nat))
 (bsel (Int.tmod (IntKind.wrap IntKind.i64 (y - (1 : Int))) (400 : Int) == (0 : Int))
 (K (Value.int IntKind.i64 (Int.ofNat (53 : Nat))) (18446744073709551616 : Nat))
 (K (Value.int IntKind.i64 (Int.ofNat (52 : Nat))) (18446744073709551616 : Nat))))
 (K (Value.int IntKind.i64 (Int.ofNat (52 : Nat))) (18446744073709551616 : Nat)))
 (K (Value.int IntKind.i64 (Int.ofNat (52 : Nat))) (18446744073709551616 : Nat))))
 (dateOk y (Int.ofNat (1 : Nat)) (Int.ofNat (1 : Nat)) ∧
 ∀ (k_2 : Int),
 Int.ofNat (1 : Nat) ≤ k_2 →
 k_2 ≤ Int.ofNat (7 : Nat) →
 bsel (k_2 == (4 : Int))
 (bsel
 (decide
 (IntKind.wrap IntKind.i64 (Int.tdiv (IntKind.wrap IntKind.i64 (IntKind.wrap IntKind.i64 (k - k_1) + (10 : Int))) (7 : Int)) > (53 : Int)))
 (K (Value.int IntKind.i64 (Int.ofNat (1 : Nat))) (18446744073709551616 : Nat))
 (K
 (Value.int IntKind.i64
 (IntKind.wrap IntKind.i64 (Int.tdiv (IntKind.wrap IntKind.i64 (IntKind.wrap IntKind.i64 (k - k_1) + (10 : Int))) (7 : Int))))
 (18446744073709551616 : Nat)))
 (bsel (k_2 == (3 : Int))
 (bsel (Int.tmod y (4 : Int) == (0 : Int))
 (bsel (Int.tmod y (100 : Int) != (0 : Int))
 (bsel
 (decide
 (IntKind.wrap IntKind.i64 (Int.tdiv (IntKind.wrap IntKind.i64 (IntKind.wrap IntKind.i64 (k - k_1) + (10 : Int))) (7 : Int)) > (53 : Int)))
 (K (Value.int IntKind.i64 (Int.ofNat (1 : Nat))) (18446744073709551616 : Nat))
 (K
 (Value.int IntKind.i64
 (IntKind.wrap IntKind.i64 (Int.tdiv (IntKind.wrap IntKind.i64 (IntKind.wrap IntKind.i64 (k - k_1) + (10 : Int))) (7 : Int))))
 (18446744073709551616 : Nat)))
 (bsel (Int.tmod y (400 : Int) == (0 : Int))
 (bsel
 (decide
 (IntKind.wrap IntKind.i64 (Int.tdiv (IntKind.wrap IntKind.i64 (IntKind.wrap IntKind.i64 (k - k_1) + (10 : Int))) (7 : Int)) > (53 : Int)))
 (K (Value.int IntKind.i64 (Int.ofNat (1 : Nat))) (18446744073709551616 : Nat))
 (K
 (Value.int IntKind.i64
 (IntKind.wrap IntKind.i64 (Int.tdiv (IntKind.wrap IntKind.i64 (IntKind.wrap IntKind.i64 (k - k_1) + (10 : Int))) (7 : Int))))
 (18446744073709551616 : Nat)))
 (bsel
 (decide
 (IntKind.wrap IntKind.i64 (Int.tdiv (IntKind.wrap IntKind.i64 (IntKind.wrap IntKind.i64 (k - k_1) + (10 : Int))) (7 : Int)) > (52 : Int)))
 (K (Value.int IntKind.i64 (Int.ofNat (1 : Nat))) (18446744073709551616 : Nat))
 (K
 (Value.int IntKind.i64
 (IntKind.wrap IntKind.i64 (Int.tdiv (IntKind.wrap IntKind.i64 (IntKind.wrap IntKind.i64 (k - k_1) + (10 : Int))) (7 : Int))))
 (18446744073709551616 : Nat)))))
 (bsel
 (decide
 (IntKind.wrap IntKind.i64 (Int.tdiv (IntKind.wrap IntKind.i64 (IntKind.wrap IntKind.i64 (k - k_1) + (10 : Int))) (7 : Int)) > (52 : Int)))
 (K (Value.int IntKind.i64 (Int.ofNat (1 : Nat))) (18446744073709551616 : Nat))
 (K
 (Value.int IntKind.i64
 (IntKind.wrap IntKind.i64 (Int.tdiv (IntKind.wrap IntKind.i64 (IntKind.wrap IntKind.i64 (k - k_1) + (10 : Int))) (7 : Int))))
 (18446744073709551616 : Nat))))
 (bsel
 (decide
 (IntKind.wrap IntKind.i64 (Int.tdiv (IntKind.wrap IntKind.i64 (IntKind.wrap IntKind.i64 (k - k_1) + (10 : Int))) (7 : Int)) > (52 : Int)))
 (K (Value.int IntKind.i64 (Int.ofNat (1 : Nat))) (18446744073709551616 : Nat))
 (K
 (Value.int IntKind.i64
 (IntKind.wrap IntKind.i64 (Int.tdiv (IntKind.wrap IntKind.i64 (IntKind.wrap IntKind.i64 (k - k_1) + (10 : Int))) (7 : Int))))
 (18446744073709551616 : Nat)))))))
 (bsel
 (decide (IntKind.wrap IntKind.i64 (Int.tdiv (IntKind.wrap IntKind.i64 (IntKind.wrap IntKind.i64 (k - k_1) + (10 : Int))) (7 : Int)) < (1 : Int)))
 (dateOk (IntKind.wrap IntKind.i64 (y - (1 : Int))) (Int.ofNat (1 : Nat)) (Int.ofNat (1 : Nat)) ∧
 ∀ (k : Int),
 Int.ofNat (1 : Nat) ≤ k →
 k ≤ Int.ofNat (7 : Nat) →
 bsel (k == (4 : Int)) (K (Value.int IntKind.i64 (Int.ofNat (53 : Nat))) (18446744073709551616 : Nat))
 (bsel (k == (3 : Int))
 (bsel (Int.tmod (IntKind.wrap IntKind.i64 (y - (1 : Int))) (4 : Int) == (0 : Int))
 (bsel (Int.tmod (IntKind.wrap IntKind.i64 (y - (1 : Int))) (100 : Int) != (0 : Int))
 (K (Value.int IntKind.i64 (Int.ofNat (53 : Nat))) (18446744073709551616 : Nat))
 (bsel (Int.tmod (IntKind.wrap IntKind.i64 (y - (1 : Int))) (400 : Int) == (0 : Int))
 (K (Value.int IntKind.i64 (Int.ofNat (53 : Nat))) (18446744073709551616 : Nat))
 (K (Value.int IntKind.i64 (Int.ofNat (52 : Nat))) (18446744073709551616 : Nat))))
 (K (Value.int IntKind.i64 (Int.ofNat (52 : Nat))) (18446744073709551616 : Nat)))
 (K (Value.int IntKind.i64 (Int.ofNat (52 : Nat))) (18446744073709551616 : Nat))))
 (dateOk y (Int.ofNat (1 : Nat)) (Int.ofNat (1 : Nat)) ∧
 ∀ (k_2 : Int),
 Int.ofNat (1 : Nat) ≤ k_2 →
 k_2 ≤ Int.ofNat (7 : Nat) →
 bsel (k_2 == (4 : Int))
 (bsel
 (decide
 (IntKind.wrap IntKind.i64 (Int.tdiv (IntKind.wrap IntKind.i64 (IntKind.wrap IntKind.i64 (k - k_1) + (10 : Int))) (7 : Int)) > (53 : Int)))
 (K (Value.int IntKind.i64 (Int.ofNat (1 : Nat))) (18446744073709551616 : Nat))
 (K
 (Value.int IntKind.i64
 (IntKind.wrap IntKind.i64 (Int.tdiv (IntKind.wrap IntKind.i64 (IntKind.wrap IntKind.i64 (k - k_1) + (10 : Int))) (7 : Int))))
 (18446744073709551616 : Nat)))
 (bsel (k_2 == (3 : Int))
 (bsel (Int.tmod y (4 : Int) == (0 : Int))
 (bsel (Int.tmod y (100 : Int) != (0 : Int))
 (bsel
 (decide
 (IntKind.wrap IntKind.i64 (Int.tdiv (IntKind.wrap IntKind.i64 (IntKind.wrap IntKind.i64 (k - k_1) + (10 : Int))) (7 : Int)) > (53 : Int)))
 (K (Value.int IntKind.i64 (Int.ofNat (1 : Nat))) (18446744073709551616 : Nat))
 (K
 (Value.int IntKind.i64
 (IntKind.wrap IntKind.i64 (Int.tdiv (IntKind.wrap IntKind.i64 (IntKind.wrap IntKind.i64 (k - k_1) + (10 : Int))) (7 : Int))))
 (18446744073709551616 : Nat)))
 (bsel (Int.tmod y (400 : Int) == (0 : Int))
 (bsel
 (decide
 (IntKind.wrap IntKind.i64 (Int.tdiv (IntKind.wrap IntKind.i64 (IntKind.wrap IntKind.i64 (k - k_1) + (10 : Int))) (7 : Int)) > (53 : Int)))
 (K (Value.int IntKind.i64 (Int.ofNat (1 : Nat))) (18446744073709551616 : Nat))
 (K
 (Value.int IntKind.i64
 (IntKind.wrap IntKind.i64 (Int.tdiv (IntKind.wrap IntKind.i64 (IntKind.wrap IntKind.i64 (k - k_1) + (10 : Int))) (7 : Int))))
 (18446744073709551616 : Nat)))
 (bsel
 (decide
 (IntKind.wrap IntKind.i64 (Int.tdiv (IntKind.wrap IntKind.i64 (IntKind.wrap IntKind.i64 (k - k_1) + (10 : Int))) (7 : Int)) > (52 : Int)))
 (K (Value.int IntKind.i64 (Int.ofNat (1 : Nat))) (18446744073709551616 : Nat))
 (K
 (Value.int IntKind.i64
 (IntKind.wrap IntKind.i64 (Int.tdiv (IntKind.wrap IntKind.i64 (IntKind.wrap IntKind.i64 (k - k_1) + (10 : Int))) (7 : Int))))
 (18446744073709551616 : Nat)))))
 (bsel
 (decide
 (IntKind.wrap IntKind.i64 (Int.tdiv (IntKind.wrap IntKind.i64 (IntKind.wrap IntKind.i64 (k - k_1) + (10 : Int))) (7 : Int)) > (52 : Int)))
 (K (Value.int IntKind.i64 (Int.ofNat (1 : Nat))) (18446744073709551616 : Nat))
 (K
 (Value.int IntKind.i64
 (IntKind.wrap IntKind.i64 (Int.tdiv (IntKind.wrap IntKind.i64 (IntKind.wrap IntKind.i64 (k - k_1) + (10 : Int))) (7 : Int))))
 (18446744073709551616 : Nat))))
 (bsel
 (decide
 (IntKind.wrap IntKind.i64 (Int.tdiv (IntKind.wrap IntKind.i64 (IntKind.wrap IntKind.i64 (k - k_1) + (10 : Int))) (7 : Int)) > (52 : Int)))
 (K (Value.int IntKind.i64 (Int.ofNat (1 : Nat))) (18446744073709551616 : Nat))
 (K
 (Value.int IntKind.i64
 (IntKind.wrap IntKind.i64 (Int.tdiv (IntKind.wrap IntKind.i64 (IntKind.wrap IntKind.i64 (k - k_1) + (10 : Int))) (7 : Int))))
 (18446744073709551616 : Nat))))))) := by kernel_rfl

theorem wl1 : IntKind.wrap .i64 (0 + 1) = 1 := by decide
theorem wl2 : IntKind.wrap .i64 (1 + 1) = 2 := by decide
theorem wl3 : IntKind.wrap .i64 (2 + 1) = 3 := by decide
theorem wl4 : IntKind.wrap .i64 (3 + 1) = 4 := by decide
theorem wl5 : IntKind.wrap .i64 (4 + 1) = 5 := by decide
theorem wl6 : IntKind.wrap .i64 (5 + 1) = 6 := by decide
theorem wl7 : IntKind.wrap .i64 (6 + 1) = 7 := by decide
theorem wl8 : IntKind.wrap .i64 (7 + 1) = 8 := by decide
theorem wl9 : IntKind.wrap .i64 (8 + 1) = 9 := by decide
theorem wl10 : IntKind.wrap .i64 (9 + 1) = 10 := by decide
theorem wl11 : IntKind.wrap .i64 (10 + 1) = 11 := by decide
theorem wl12 : IntKind.wrap .i64 (11 + 1) = 12 := by decide
theorem wl13 : IntKind.wrap .i64 (12 + 1) = 13 := by decide

theorem lenF_le (y m : Int) : lenF y m ≤ 31 := by
  unfold lenF
  split
  · split <;> omega
  · split <;> omega

theorem dateOk_len {y m d : Int} (h : dateOk y m d) : d ≤ 31 := by
  have := lenF_le y m
  have := h.2.2.2.2.2
  omega

theorem date_first {y : Int} (h1 : -999999999 ≤ y) (h2 : y ≤ 999999999) : dateOk y 1 1 := ⟨h1, h2, by decide, by decide, by decide, by simp [lenF]⟩

theorem length_hk (y m : Int) : ReckE (env rules4) 30 192 [.int .i64 y, .int .i64 m] (isInt 0 31) := by
  constructor
  rw [length_tree fun u mw => isInt 0 31 u ∧ Tryz.prog.globals.size ≤ mw]
  repeat' (refine bsel_of (fun _ => ?_) (fun _ => ?_))
  all_goals exact ⟨⟨_, rfl, by decide, by decide⟩, globals_big⟩

theorem length_ok (base : World) : RuleOk Tryz.prog base 192 ruleLength := ruleOk_of fun args T K hT hK => by
  split at hT
  · cases hT
    rename_i y m
    obtain ⟨v, ⟨k, rfl, h1, h2⟩, ht⟩ := tot_ofE (env_ok (rules4_ok base)) env_loops rfl (length_hk y m) isInt_pure (List.forall_mem_cons.2 ⟨by kernel_rfl, pure1 (by kernel_rfl)⟩)
    exact ⟨_, hK k h1 h2, ht⟩
  · cases hT

theorem rulesL_ok (base : World) : ∀ x ∈ rulesL, RuleOk Tryz.prog base x.1 x.2 := List.forall_mem_cons.2 ⟨length_ok base, rules4_ok base⟩

theorem norm7 (x : Int) : ∃ c, 1 ≤ c ∧ c ≤ 7 ∧ IntKind.wrap .i64 (Int.tmod (IntKind.wrap .i64 (Int.tmod x 7 + 10)) 7 + 1) = c := by
  obtain ⟨h1, h2, _⟩ := tmodB x 7 (by decide)
  rw [wrap_i64 (Int.tmod x 7 + 10) (by unfold rng; omega)]
  obtain ⟨h3, h4, h5⟩ := tmodB (Int.tmod x 7 + 10) 7 (by decide)
  have h6 := h5 (by omega)
  exact ⟨_, by omega, by omega, wrap_i64 _ (by unfold rng; omega)⟩

theorem weekday_hk {y m d : Int} (h : dateOk y m d) : ReckE (env rules4) 30 92 [dateC y m d] (isInt 1 7) := by
  have leaf : ∀ x, isInt 1 7 (.int .i64 (IntKind.wrap .i64 (Int.tmod (IntKind.wrap .i64 (Int.tmod x 7 + 10)) 7 + 1))) := fun x => by
    obtain ⟨c, h1, h2, h3⟩ := norm7 x
    exact ⟨c, by rw [h3], h1, h2⟩
  constructor
  rw [weekday_tree fun u mw => isInt 1 7 u ∧ Tryz.prog.globals.size ≤ mw]
  refine ⟨h, ?_⟩
  repeat' (refine bsel_of (fun _ => ?_) (fun _ => ?_))
  all_goals exact ⟨leaf _, Nat.le_of_ble_eq_true (by kernel_rfl)⟩

theorem weekday_ok (base : World) : RuleOk Tryz.prog base 92 ruleWeekday := ruleOk_of fun args T K hT hK => by
  split at hT
  · cases hT
    rename_i y m d
    obtain ⟨hd, hK⟩ := hK
    obtain ⟨v, ⟨k, rfl, h1, h2⟩, ht⟩ := tot_ofE (env_ok (rules4_ok base)) env_loops rfl (weekday_hk hd) isInt_pure (pure1 (by kernel_rfl))
    exact ⟨_, hK k h1 h2, ht⟩
  · cases hT

theorem yearday_hk {y m d : Int} (h : dateOk y m d) : ReckE (envN 13 rulesL) 30 164 [dateC y m d] isRng := by
  have hd := dateOk_len h
  have hm : IntKind.wrap .i64 (m - 1) = m - 1 := wrap_i64 _ (by have := h.2.2; unfold rng; omega)
  have m2 : m ≤ 12 := h.2.2.2.1
  have d1 : 1 ≤ d := h.2.2.2.2.1
  constructor
  rw [yearday_tree fun u mw => isRng u ∧ Tryz.prog.globals.size ≤ mw]
  refine ⟨h, ?_⟩
  simp only [hm, wl1, wl2, wl3, wl4, wl5, wl6, wl7, wl8, wl9, wl10, wl11, wl12]
  repeat' (first | refine bsel_of (fun _ => ?_) (fun _ => ?_) | intro _ _ _)
  all_goals first
    | exact ⟨⟨_, rfl, rng_wrap _⟩, Nat.le_of_ble_eq_true (by kernel_rfl)⟩
    | exact ⟨⟨_, rfl, by unfold rng; omega⟩, Nat.le_of_ble_eq_true (by kernel_rfl)⟩
    | (exfalso
       simp only [decide_eq_true_eq] at *
       omega)

theorem yearday_ok (base : World) : RuleOk Tryz.prog base 164 ruleYearday := ruleOk_of fun args T K hT hK => by
  split at hT
  · cases hT
    rename_i y m d
    obtain ⟨hd, hK⟩ := hK
    obtain ⟨v, ⟨k, rfl, h1⟩, ht⟩ := tot_ofE (envN_ok (rulesL_ok base)) envN_loops rfl (yearday_hk hd) isRng_pure (pure1 (by kernel_rfl))
    exact ⟨_, hK k h1, ht⟩
  · cases hT

theorem rulesW_ok (base : World) : ∀ x ∈ rulesW, RuleOk Tryz.prog base x.1 x.2 := List.forall_mem_cons.2 ⟨weekday_ok base, List.forall_mem_cons.2 ⟨yearday_ok base, rules4_ok base⟩⟩

theorem week_hk {y m d : Int} (h : dateOk y m d) : ReckE (env rulesW) 30 167 [dateC y m d] isRng := by
  have y1 : -999999999 ≤ y := h.1
  have y2 : y ≤ 999999999 := h.2.1
  have hy1 : IntKind.wrap .i64 (y + 399) = y + 399 := wrap_i64 _ (by unfold rng; omega)
  have hy2 : IntKind.wrap .i64 (y - 1) = y - 1 := wrap_i64 _ (by unfold rng; omega)
  constructor
  rw [week_tree fun u mw => isRng u ∧ Tryz.prog.globals.size ≤ mw]
  simp only [hy1, hy2]
  repeat' (first | refine bsel_of (fun _ => ?_) (fun _ => ?_) | refine And.intro h ?_ | refine And.intro (date_first (by first | omega | (simp only [beq_eq_false_iff_ne, ne_eq] at *; omega) | (exfalso; simp_all; done)) (by first | omega | (simp only [beq_iff_eq] at *; omega) | (exfalso; simp_all; done))) ?_ | intro _ _ _ | intro _ _)
  all_goals exact ⟨⟨_, rfl, by first | exact rng_wrap _ | (unfold rng; decide)⟩, Nat.le_of_ble_eq_true (by kernel_rfl)⟩

end Go.Proofs.YtdbjbmdaekgbhaaGreatDoor
