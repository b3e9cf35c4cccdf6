/-
  Moments that are reckoned: what each function of the layers below comes to.
-/
import Derived.Test.YteaebpmgbpnbeaaGreatDoorFa
namespace Go.Proofs.YteaebpmgbpnbeaaGreatDoor
open Go Go.Pe Go.RowKit

/-- The number of a day. -/
def NumOk (base : World) (N : Int → Int → Int → Int) : Prop := ∀ y m d, dateOk y m d → (-2000000000000 ≤ N y m d ∧ N y m d ≤ 2000000000000) ∧ Tot base 155 [dateC y m d] (.tuple #[.int .i64 (N y m d), .bool true])

theorem num_ex (base : World) : ∃ N, NumOk base N := by
  have h : ∀ y m d, ∃ k : Int, dateOk y m d → (-2000000000000 ≤ k ∧ k ≤ 2000000000000) ∧ Tot base 155 [dateC y m d] (.tuple #[.int .i64 k, .bool true]) := fun y m d => by
    by_cases hd : dateOk y m d
    · obtain ⟨v, hv, ht⟩ := tot_ofE (base := base) (env_ok (rulesU1_ok base)) env_loops rfl (number_hk y m d) isNumber_pure (pure1 (by kernel_rfl))
      rcases hv with ⟨k, rfl, hk, _⟩ | ⟨_, hn⟩
      · exact ⟨k, fun _ => ⟨hk, ht⟩⟩
      · exact absurd hd hn
    · exact ⟨0, fun h => absurd h hd⟩
  exact ⟨fun y m d => Classical.choose (h y m d), fun y m d => Classical.choose_spec (h y m d)⟩

def ruleNumF (N : Int → Int → Int → Int) : Rule := rule1 fun args => match args with
  | [.agg ⟨[.int .i64 y, .int .i64 m, .int .i64 d]⟩] => some fun K => dateOk y m d ∧ K (.tuple #[.int .i64 (N y m d), .bool true])
  | _ => none

theorem numF_ok {base : World} {N : Int → Int → Int → Int} (hN : NumOk base N) : RuleOk Tryz.prog base 155 (ruleNumF N) := ruleOk_of fun args T K hT hK => by
  split at hT
  · cases hT
    exact ⟨_, hK.2, (hN _ _ _ hK.1).2⟩
  · cases hT

def rulesN (N : Int → Int → Int → Int) : List (Nat × Rule) := (155, ruleNumF N) :: (164, ruleOf) :: (109, ruleLength) :: (87, ruleMayD) :: (88, ruleTMay) :: rules1
theorem rulesN_ok {base : World} {N : Int → Int → Int → Int} (hN : NumOk base N) : ∀ x ∈ rulesN N, RuleOk Tryz.prog base x.1 x.2 :=
  List.forall_mem_cons.2 ⟨numF_ok hN, List.forall_mem_cons.2 ⟨of_ok base, List.forall_mem_cons.2 ⟨length_ok base, List.forall_mem_cons.2 ⟨mayD_ok base, List.forall_mem_cons.2 ⟨tmay_ok base, rules1_ok base⟩⟩⟩⟩⟩

/-- A moment, a day, a time, a number, and something beside it. -/
def isMomB (u : Value) : Prop := ∃ y m d s z o b, u = .tuple #[momentC y m d s z o, .bool b] ∧ (b = true → dateOk y m d ∧ timeOk s z o)
def isDayB (u : Value) : Prop := ∃ y m d b, u = .tuple #[dateC y m d, .bool b] ∧ (b = true → dateOk y m d)
def isTimeI (u : Value) : Prop := ∃ s z o k, u = .tuple #[timeC s z o, .int .i64 k] ∧ timeOk s z o
def isIntB (u : Value) : Prop := ∃ k b, u = .tuple #[.int .i64 k, .bool b]
theorem isMomB_pure : ∀ v, isMomB v → pureV 6 v = true := by
  rintro v ⟨_, _, _, _, _, _, _, rfl, _⟩; kernel_rfl
theorem isDayB_pure : ∀ v, isDayB v → pureV 6 v = true := by
  rintro v ⟨_, _, _, _, rfl, _⟩; kernel_rfl
theorem isTimeI_pure : ∀ v, isTimeI v → pureV 6 v = true := by
  rintro v ⟨_, _, _, _, rfl, _⟩; kernel_rfl
theorem isIntB_pure : ∀ v, isIntB v → pureV 6 v = true := by
  rintro v ⟨_, _, rfl⟩; kernel_rfl

theorem zero_time : timeOk 0 false 0 := ⟨by decide, by decide, by decide, by decide, fun _ => rfl⟩
theorem zero_time' : timeOk 0 true 0 := ⟨by decide, by decide, by decide, by decide, fun h => by cases h⟩

theorem later_tree (K : Value → Nat → Prop) (N : Int → Int → Int → Int) (y m d s o n : Int) (z : Bool) :
    funcK (env (rulesN N)) 30 29 [momentC y m d s z o, .int .i64 n] tabs Tryz.prog.globals.size (fun u _ _ mw => K u mw) =
  (Go.Proofs.YteaebpmgbpnbeaaGreatDoor.dateOk y m d ∧
 Go.Proofs.YteaebpmgbpnbeaaGreatDoor.timeOk s z o ∧
 Go.Pe.bsel (Decidable.decide (n < (-9007199254740992 : Int)))
 (K
 (Go.Value.tuple
 (Array.mk
 [Go.Value.agg
 (Array.mk
 [Go.Value.int Go.IntKind.i64 (Int.ofNat (0 : Nat)), Go.Value.int Go.IntKind.i64 (Int.ofNat (0 : Nat)), Go.Value.int Go.IntKind.i64 (Int.ofNat (0 : Nat)),
 Go.Value.int Go.IntKind.i64 (Int.ofNat (0 : Nat)), Go.Value.bool Bool.false, Go.Value.int Go.IntKind.i64 (Int.ofNat (0 : Nat))]),
 Go.Value.bool Bool.false]))
 (11 : Nat))
 (Go.Pe.bsel (Decidable.decide (n > (9007199254740992 : Int)))
 (K
 (Go.Value.tuple
 (Array.mk
 [Go.Value.agg
 (Array.mk
 [Go.Value.int Go.IntKind.i64 (Int.ofNat (0 : Nat)), Go.Value.int Go.IntKind.i64 (Int.ofNat (0 : Nat)), Go.Value.int Go.IntKind.i64 (Int.ofNat (0 : Nat)),
 Go.Value.int Go.IntKind.i64 (Int.ofNat (0 : Nat)), Go.Value.bool Bool.false, Go.Value.int Go.IntKind.i64 (Int.ofNat (0 : Nat))]),
 Go.Value.bool Bool.false]))
 (11 : Nat))
 (Go.Pe.bsel
 (Decidable.decide
 (Go.IntKind.wrap Go.IntKind.i64 (Go.IntKind.wrap Go.IntKind.i64 (Go.IntKind.wrap Go.IntKind.i64 (Go.IntKind.wrap Go.IntKind.i64 ((86400 : Int) * N y m d) + s) - o) + n) <
 (-72057594037927936 : Int)))
 (K
 (Go.Value.tuple
 (Array.mk
 [Go.Value.agg
 (Array.mk
 [Go.Value.int Go.IntKind.i64 (Int.ofNat (0 : Nat)), Go.Value.int Go.IntKind.i64 (Int.ofNat (0 : Nat)), Go.Value.int Go.IntKind.i64 (Int.ofNat (0 : Nat)),
 Go.Value.int Go.IntKind.i64 (Int.ofNat (0 : Nat)), Go.Value.bool Bool.false, Go.Value.int Go.IntKind.i64 (Int.ofNat (0 : Nat))]),
 Go.Value.bool Bool.false]))
 (11 : Nat))
 (Go.Pe.bsel
 (Decidable.decide
 (Go.IntKind.wrap Go.IntKind.i64 (Go.IntKind.wrap Go.IntKind.i64 (Go.IntKind.wrap Go.IntKind.i64 (Go.IntKind.wrap Go.IntKind.i64 ((86400 : Int) * N y m d) + s) - o) + n) >
 (72057594037927936 : Int)))
 (K
 (Go.Value.tuple
 (Array.mk
 [Go.Value.agg
 (Array.mk
 [Go.Value.int Go.IntKind.i64 (Int.ofNat (0 : Nat)), Go.Value.int Go.IntKind.i64 (Int.ofNat (0 : Nat)), Go.Value.int Go.IntKind.i64 (Int.ofNat (0 : Nat)),
 Go.Value.int Go.IntKind.i64 (Int.ofNat (0 : Nat)), Go.Value.bool Bool.false, Go.Value.int Go.IntKind.i64 (Int.ofNat (0 : Nat))]),
 Go.Value.bool Bool.false]))
 (11 : Nat))
 (Go.Proofs.YteaebpmgbpnbeaaGreatDoor.timeOk s z o ∧
 Go.Pe.bsel
 (Decidable.decide
 (Int.tmod
 (Go.IntKind.wrap Go.IntKind.i64
 (Go.IntKind.wrap Go.IntKind.i64 (Go.IntKind.wrap Go.IntKind.i64 (Go.IntKind.wrap Go.IntKind.i64 (Go.IntKind.wrap Go.IntKind.i64 ((86400 : Int) * N y m d) + s) - o) + n) + o))
 (86400 : Int) <
 (0 : Int)))
 ((∀ (y_1 m_1 d_1 : Int),
 Go.Proofs.YteaebpmgbpnbeaaGreatDoor.dateOk y_1 m_1 d_1 →
 K
 (Go.Value.tuple
 (Array.mk
 [Go.Value.agg
 (Array.mk
 [Go.Value.int Go.IntKind.i64 y_1, Go.Value.int Go.IntKind.i64 m_1, Go.Value.int Go.IntKind.i64 d_1,
 Go.Value.int Go.IntKind.i64
 (Go.IntKind.wrap Go.IntKind.i64
 (Int.tmod
 (Go.IntKind.wrap Go.IntKind.i64
 (Go.IntKind.wrap Go.IntKind.i64
 (Go.IntKind.wrap Go.IntKind.i64 (Go.IntKind.wrap Go.IntKind.i64 (Go.IntKind.wrap Go.IntKind.i64 ((86400 : Int) * N y m d) + s) - o) + n) +
 o))
 (86400 : Int) +
 (86400 : Int))),
 Go.Value.bool z, Go.Value.int Go.IntKind.i64 o]),
 Go.Value.bool Bool.true]))
 (11 : Nat)) ∧
 K
 (Go.Value.tuple
 (Array.mk
 [Go.Value.agg
 (Array.mk
 [Go.Value.int Go.IntKind.i64 (Int.ofNat (0 : Nat)), Go.Value.int Go.IntKind.i64 (Int.ofNat (0 : Nat)), Go.Value.int Go.IntKind.i64 (Int.ofNat (0 : Nat)),
 Go.Value.int Go.IntKind.i64 (Int.ofNat (0 : Nat)), Go.Value.bool Bool.false, Go.Value.int Go.IntKind.i64 (Int.ofNat (0 : Nat))]),
 Go.Value.bool Bool.false]))
 (11 : Nat))
 ((∀ (y_1 m_1 d_1 : Int),
 Go.Proofs.YteaebpmgbpnbeaaGreatDoor.dateOk y_1 m_1 d_1 →
 K
 (Go.Value.tuple
 (Array.mk
 [Go.Value.agg
 (Array.mk
 [Go.Value.int Go.IntKind.i64 y_1, Go.Value.int Go.IntKind.i64 m_1, Go.Value.int Go.IntKind.i64 d_1,
 Go.Value.int Go.IntKind.i64
 (Int.tmod
 (Go.IntKind.wrap Go.IntKind.i64
 (Go.IntKind.wrap Go.IntKind.i64
 (Go.IntKind.wrap Go.IntKind.i64 (Go.IntKind.wrap Go.IntKind.i64 (Go.IntKind.wrap Go.IntKind.i64 ((86400 : Int) * N y m d) + s) - o) + n) +
 o))
 (86400 : Int)),
 Go.Value.bool z, Go.Value.int Go.IntKind.i64 o]),
 Go.Value.bool Bool.true]))
 (11 : Nat)) ∧
 K
 (Go.Value.tuple
 (Array.mk
 [Go.Value.agg
 (Array.mk
 [Go.Value.int Go.IntKind.i64 (Int.ofNat (0 : Nat)), Go.Value.int Go.IntKind.i64 (Int.ofNat (0 : Nat)), Go.Value.int Go.IntKind.i64 (Int.ofNat (0 : Nat)),
 Go.Value.int Go.IntKind.i64 (Int.ofNat (0 : Nat)), Go.Value.bool Bool.false, Go.Value.int Go.IntKind.i64 (Int.ofNat (0 : Nat))]),
 Go.Value.bool Bool.false]))
 (11 : Nat))))))) := by kernel_rfl
theorem mmonths_tree (K : Value → Nat → Prop) (N : Int → Int → Int → Int) (y m d s o n : Int) (z : Bool) :
    funcK (env (rulesN N)) 30 30 [momentC y m d s z o, .int .i64 n] tabs Tryz.prog.globals.size (fun u _ _ mw => K u mw) =
  ((Go.Proofs.YteaebpmgbpnbeaaGreatDoor.dateOk y m d →
 Go.Pe.bsel (Decidable.decide (n < (-9007199254740992 : Int)))
 (K
 (Go.Value.tuple
 (Array.mk
 [Go.Value.agg
 (Array.mk
 [Go.Value.int Go.IntKind.i64 (Int.ofNat (0 : Nat)), Go.Value.int Go.IntKind.i64 (Int.ofNat (0 : Nat)), Go.Value.int Go.IntKind.i64 (Int.ofNat (0 : Nat)),
 Go.Value.int Go.IntKind.i64 (Int.ofNat (0 : Nat)), Go.Value.bool Bool.false, Go.Value.int Go.IntKind.i64 (Int.ofNat (0 : Nat))]),
 Go.Value.bool Bool.false]))
 (11 : Nat))
 (Go.Pe.bsel (Decidable.decide (n > (9007199254740992 : Int)))
 (K
 (Go.Value.tuple
 (Array.mk
 [Go.Value.agg
 (Array.mk
 [Go.Value.int Go.IntKind.i64 (Int.ofNat (0 : Nat)), Go.Value.int Go.IntKind.i64 (Int.ofNat (0 : Nat)), Go.Value.int Go.IntKind.i64 (Int.ofNat (0 : Nat)),
 Go.Value.int Go.IntKind.i64 (Int.ofNat (0 : Nat)), Go.Value.bool Bool.false, Go.Value.int Go.IntKind.i64 (Int.ofNat (0 : Nat))]),
 Go.Value.bool Bool.false]))
 (11 : Nat))
 (Go.Pe.bsel
 (Decidable.decide
 (Int.tmod (Go.IntKind.wrap Go.IntKind.i64 (Go.IntKind.wrap Go.IntKind.i64 (Go.IntKind.wrap Go.IntKind.i64 (Go.IntKind.wrap Go.IntKind.i64 ((12 : Int) * y) + m) - (1 : Int)) + n))
 (12 : Int) <
 (0 : Int)))
 (∀ (k : Int),
 Int.ofNat (0 : Nat) ≤ k →
 k ≤ Int.ofNat (31 : Nat) →
 (Go.Proofs.YteaebpmgbpnbeaaGreatDoor.dateOk
 (Go.IntKind.wrap Go.IntKind.i64
 (Go.IntKind.wrap Go.IntKind.i64
 (Int.tdiv
 (Go.IntKind.wrap Go.IntKind.i64 (Go.IntKind.wrap Go.IntKind.i64 (Go.IntKind.wrap Go.IntKind.i64 (Go.IntKind.wrap Go.IntKind.i64 ((12 : Int) * y) + m) - (1 : Int)) + n))
 (12 : Int)) -
 (1 : Int)))
 (Go.IntKind.wrap Go.IntKind.i64
 (Go.IntKind.wrap Go.IntKind.i64
 (Go.IntKind.wrap Go.IntKind.i64 (Go.IntKind.wrap Go.IntKind.i64 (Go.IntKind.wrap Go.IntKind.i64 (Go.IntKind.wrap Go.IntKind.i64 ((12 : Int) * y) + m) - (1 : Int)) + n) -
 Go.IntKind.wrap Go.IntKind.i64
 ((12 : Int) *
 Go.IntKind.wrap Go.IntKind.i64
 (Go.IntKind.wrap Go.IntKind.i64
 (Int.tdiv
 (Go.IntKind.wrap Go.IntKind.i64
 (Go.IntKind.wrap Go.IntKind.i64 (Go.IntKind.wrap Go.IntKind.i64 (Go.IntKind.wrap Go.IntKind.i64 ((12 : Int) * y) + m) - (1 : Int)) + n))
 (12 : Int)) -
 (1 : Int)))) +
 (1 : Int)))
 (match Decidable.decide (k < d) with
 | Bool.true => k
 | Bool.false => d) →
 Go.Proofs.YteaebpmgbpnbeaaGreatDoor.timeOk s z o ∧
 K
 (Go.Value.tuple
 (Array.mk
 [Go.Value.agg
 (Array.mk
 [Go.Value.int Go.IntKind.i64
 (Go.IntKind.wrap Go.IntKind.i64
 (Go.IntKind.wrap Go.IntKind.i64
 (Int.tdiv
 (Go.IntKind.wrap Go.IntKind.i64
 (Go.IntKind.wrap Go.IntKind.i64 (Go.IntKind.wrap Go.IntKind.i64 (Go.IntKind.wrap Go.IntKind.i64 ((12 : Int) * y) + m) - (1 : Int)) + n))
 (12 : Int)) -
 (1 : Int))),
 Go.Value.int Go.IntKind.i64
 (Go.IntKind.wrap Go.IntKind.i64
 (Go.IntKind.wrap Go.IntKind.i64
 (Go.IntKind.wrap Go.IntKind.i64
 (Go.IntKind.wrap Go.IntKind.i64 (Go.IntKind.wrap Go.IntKind.i64 (Go.IntKind.wrap Go.IntKind.i64 ((12 : Int) * y) + m) - (1 : Int)) + n) -
 Go.IntKind.wrap Go.IntKind.i64
 ((12 : Int) *
 Go.IntKind.wrap Go.IntKind.i64
 (Go.IntKind.wrap Go.IntKind.i64
 (Int.tdiv
 (Go.IntKind.wrap Go.IntKind.i64
 (Go.IntKind.wrap Go.IntKind.i64 (Go.IntKind.wrap Go.IntKind.i64 (Go.IntKind.wrap Go.IntKind.i64 ((12 : Int) * y) + m) - (1 : Int)) + n))
 (12 : Int)) -
 (1 : Int)))) +
 (1 : Int))),
 Go.Value.int Go.IntKind.i64
 (match Decidable.decide (k < d) with
 | Bool.true => k
 | Bool.false => d),
 Go.Value.int Go.IntKind.i64 s, Go.Value.bool z, Go.Value.int Go.IntKind.i64 o]),
 Go.Value.bool Bool.true]))
 (11 : Nat)) ∧
 (¬Go.Proofs.YteaebpmgbpnbeaaGreatDoor.dateOk
 (Go.IntKind.wrap Go.IntKind.i64
 (Go.IntKind.wrap Go.IntKind.i64
 (Int.tdiv
 (Go.IntKind.wrap Go.IntKind.i64 (Go.IntKind.wrap Go.IntKind.i64 (Go.IntKind.wrap Go.IntKind.i64 (Go.IntKind.wrap Go.IntKind.i64 ((12 : Int) * y) + m) - (1 : Int)) + n))
 (12 : Int)) -
 (1 : Int)))
 (Go.IntKind.wrap Go.IntKind.i64
 (Go.IntKind.wrap Go.IntKind.i64
 (Go.IntKind.wrap Go.IntKind.i64 (Go.IntKind.wrap Go.IntKind.i64 (Go.IntKind.wrap Go.IntKind.i64 (Go.IntKind.wrap Go.IntKind.i64 ((12 : Int) * y) + m) - (1 : Int)) + n) -
 Go.IntKind.wrap Go.IntKind.i64
 ((12 : Int) *
 Go.IntKind.wrap Go.IntKind.i64
 (Go.IntKind.wrap Go.IntKind.i64
 (Int.tdiv
 (Go.IntKind.wrap Go.IntKind.i64
 (Go.IntKind.wrap Go.IntKind.i64 (Go.IntKind.wrap Go.IntKind.i64 (Go.IntKind.wrap Go.IntKind.i64 ((12 : Int) * y) + m) - (1 : Int)) + n))
 (12 : Int)) -
 (1 : Int)))) +
 (1 : Int)))
 (match Decidable.decide (k < d) with
 | Bool.true => k
 | Bool.false => d) →
 K
 (Go.Value.tuple
 (Array.mk
 [Go.Value.agg
 (Array.mk
 [Go.Value.int Go.IntKind.i64 (Int.ofNat (0 : Nat)), Go.Value.int Go.IntKind.i64 (Int.ofNat (0 : Nat)), Go.Value.int Go.IntKind.i64 (Int.ofNat (0 : Nat)),
 Go.Value.int Go.IntKind.i64 (Int.ofNat (0 : Nat)), Go.Value.bool Bool.false, Go.Value.int Go.IntKind.i64 (Int.ofNat (0 : Nat))]),
 Go.Value.bool Bool.false]))
 (11 : Nat)))
 (∀ (k : Int),
 Int.ofNat (0 : Nat) ≤ k →
 k ≤ Int.ofNat (31 : Nat) →
 (Go.Proofs.YteaebpmgbpnbeaaGreatDoor.dateOk
 (Go.IntKind.wrap Go.IntKind.i64
 (Int.tdiv
 (Go.IntKind.wrap Go.IntKind.i64 (Go.IntKind.wrap Go.IntKind.i64 (Go.IntKind.wrap Go.IntKind.i64 (Go.IntKind.wrap Go.IntKind.i64 ((12 : Int) * y) + m) - (1 : Int)) + n))
 (12 : Int)))
 (Go.IntKind.wrap Go.IntKind.i64
 (Go.IntKind.wrap Go.IntKind.i64
 (Go.IntKind.wrap Go.IntKind.i64 (Go.IntKind.wrap Go.IntKind.i64 (Go.IntKind.wrap Go.IntKind.i64 (Go.IntKind.wrap Go.IntKind.i64 ((12 : Int) * y) + m) - (1 : Int)) + n) -
 Go.IntKind.wrap Go.IntKind.i64
 ((12 : Int) *
 Go.IntKind.wrap Go.IntKind.i64
 (Int.tdiv
 (Go.IntKind.wrap Go.IntKind.i64
 (Go.IntKind.wrap Go.IntKind.i64 (Go.IntKind.wrap Go.IntKind.i64 (Go.IntKind.wrap Go.IntKind.i64 ((12 : Int) * y) + m) - (1 : Int)) + n))
 (12 : Int)))) +
 (1 : Int)))
 (match Decidable.decide (k < d) with
 | Bool.true => k
 | Bool.false => d) →
 Go.Proofs.YteaebpmgbpnbeaaGreatDoor.timeOk s z o ∧
 K
 (Go.Value.tuple
 (Array.mk
 [Go.Value.agg
 (Array.mk
 [Go.Value.int Go.IntKind.i64
 (Go.IntKind.wrap Go.IntKind.i64
 (Int.tdiv
 (Go.IntKind.wrap Go.IntKind.i64
 (Go.IntKind.wrap Go.IntKind.i64 (Go.IntKind.wrap Go.IntKind.i64 (Go.IntKind.wrap Go.IntKind.i64 ((12 : Int) * y) + m) - (1 : Int)) + n))
 (12 : Int))),
 Go.Value.int Go.IntKind.i64
 (Go.IntKind.wrap Go.IntKind.i64
 (Go.IntKind.wrap Go.IntKind.i64
 (Go.IntKind.wrap Go.IntKind.i64
 (Go.IntKind.wrap Go.IntKind.i64 (Go.IntKind.wrap Go.IntKind.i64 (Go.IntKind.wrap Go.IntKind.i64 ((12 : Int) * y) + m) - (1 : Int)) + n) -
 Go.IntKind.wrap Go.IntKind.i64
 ((12 : Int) *
 Go.IntKind.wrap Go.IntKind.i64
 (Int.tdiv
 (Go.IntKind.wrap Go.IntKind.i64
 (Go.IntKind.wrap Go.IntKind.i64 (Go.IntKind.wrap Go.IntKind.i64 (Go.IntKind.wrap Go.IntKind.i64 ((12 : Int) * y) + m) - (1 : Int)) + n))
 (12 : Int)))) +
 (1 : Int))),
 Go.Value.int Go.IntKind.i64
 (match Decidable.decide (k < d) with
 | Bool.true => k
 | Bool.false => d),
 Go.Value.int Go.IntKind.i64 s, Go.Value.bool z, Go.Value.int Go.IntKind.i64 o]),
 Go.Value.bool Bool.true]))
 (11 : Nat)) ∧
 (¬Go.Proofs.YteaebpmgbpnbeaaGreatDoor.dateOk
 (Go.IntKind.wrap Go.IntKind.i64
 (Int.tdiv
 (Go.IntKind.wrap Go.IntKind.i64 (Go.IntKind.wrap Go.IntKind.i64 (Go.IntKind.wrap Go.IntKind.i64 (Go.IntKind.wrap Go.IntKind.i64 ((12 : Int) * y) + m) - (1 : Int)) + n))
 (12 : Int)))
 (Go.IntKind.wrap Go.IntKind.i64
 (Go.IntKind.wrap Go.IntKind.i64
 (Go.IntKind.wrap Go.IntKind.i64 (Go.IntKind.wrap Go.IntKind.i64 (Go.IntKind.wrap Go.IntKind.i64 (Go.IntKind.wrap Go.IntKind.i64 ((12 : Int) * y) + m) - (1 : Int)) + n) -
 Go.IntKind.wrap Go.IntKind.i64
 ((12 : Int) *
 Go.IntKind.wrap Go.IntKind.i64
 (Int.tdiv
 (Go.IntKind.wrap Go.IntKind.i64
 (Go.IntKind.wrap Go.IntKind.i64 (Go.IntKind.wrap Go.IntKind.i64 (Go.IntKind.wrap Go.IntKind.i64 ((12 : Int) * y) + m) - (1 : Int)) + n))
 (12 : Int)))) +
 (1 : Int)))
 (match Decidable.decide (k < d) with
 | Bool.true => k
 | Bool.false => d) →
 K
 (Go.Value.tuple
 (Array.mk
 [Go.Value.agg
 (Array.mk
 [Go.Value.int Go.IntKind.i64 (Int.ofNat (0 : Nat)), Go.Value.int Go.IntKind.i64 (Int.ofNat (0 : Nat)), Go.Value.int Go.IntKind.i64 (Int.ofNat (0 : Nat)),
 Go.Value.int Go.IntKind.i64 (Int.ofNat (0 : Nat)), Go.Value.bool Bool.false, Go.Value.int Go.IntKind.i64 (Int.ofNat (0 : Nat))]),
 Go.Value.bool Bool.false]))
 (11 : Nat)))))) ∧
 (¬Go.Proofs.YteaebpmgbpnbeaaGreatDoor.dateOk y m d →
 K
 (Go.Value.tuple
 (Array.mk
 [Go.Value.agg
 (Array.mk
 [Go.Value.int Go.IntKind.i64 (Int.ofNat (0 : Nat)), Go.Value.int Go.IntKind.i64 (Int.ofNat (0 : Nat)), Go.Value.int Go.IntKind.i64 (Int.ofNat (0 : Nat)),
 Go.Value.int Go.IntKind.i64 (Int.ofNat (0 : Nat)), Go.Value.bool Bool.false, Go.Value.int Go.IntKind.i64 (Int.ofNat (0 : Nat))]),
 Go.Value.bool Bool.false]))
 (11 : Nat))) := by kernel_rfl
theorem cmonths_tree (K : Value → Nat → Prop) (N : Int → Int → Int → Int) (y m d n : Int) :
    funcK (env (rulesN N)) 30 32 [dateC y m d, .int .i64 n] tabs Tryz.prog.globals.size (fun u _ _ mw => K u mw) =
  ((Go.Proofs.YteaebpmgbpnbeaaGreatDoor.dateOk y m d →
 Go.Pe.bsel (Decidable.decide (n < (-9007199254740992 : Int)))
 (K
 (Go.Value.tuple
 (Array.mk
 [Go.Value.agg (Array.mk [Go.Value.int Go.IntKind.i64 (Int.ofNat (0 : Nat)), Go.Value.int Go.IntKind.i64 (Int.ofNat (0 : Nat)), Go.Value.int Go.IntKind.i64 (Int.ofNat (0 : Nat))]),
 Go.Value.bool Bool.false]))
 (11 : Nat))
 (Go.Pe.bsel (Decidable.decide (n > (9007199254740992 : Int)))
 (K
 (Go.Value.tuple
 (Array.mk
 [Go.Value.agg (Array.mk [Go.Value.int Go.IntKind.i64 (Int.ofNat (0 : Nat)), Go.Value.int Go.IntKind.i64 (Int.ofNat (0 : Nat)), Go.Value.int Go.IntKind.i64 (Int.ofNat (0 : Nat))]),
 Go.Value.bool Bool.false]))
 (11 : Nat))
 (Go.Pe.bsel
 (Decidable.decide
 (Int.tmod (Go.IntKind.wrap Go.IntKind.i64 (Go.IntKind.wrap Go.IntKind.i64 (Go.IntKind.wrap Go.IntKind.i64 (Go.IntKind.wrap Go.IntKind.i64 ((12 : Int) * y) + m) - (1 : Int)) + n))
 (12 : Int) <
 (0 : Int)))
 (∀ (k : Int),
 Int.ofNat (0 : Nat) ≤ k →
 k ≤ Int.ofNat (31 : Nat) →
 (Go.Proofs.YteaebpmgbpnbeaaGreatDoor.dateOk
 (Go.IntKind.wrap Go.IntKind.i64
 (Go.IntKind.wrap Go.IntKind.i64
 (Int.tdiv
 (Go.IntKind.wrap Go.IntKind.i64 (Go.IntKind.wrap Go.IntKind.i64 (Go.IntKind.wrap Go.IntKind.i64 (Go.IntKind.wrap Go.IntKind.i64 ((12 : Int) * y) + m) - (1 : Int)) + n))
 (12 : Int)) -
 (1 : Int)))
 (Go.IntKind.wrap Go.IntKind.i64
 (Go.IntKind.wrap Go.IntKind.i64
 (Go.IntKind.wrap Go.IntKind.i64 (Go.IntKind.wrap Go.IntKind.i64 (Go.IntKind.wrap Go.IntKind.i64 (Go.IntKind.wrap Go.IntKind.i64 ((12 : Int) * y) + m) - (1 : Int)) + n) -
 Go.IntKind.wrap Go.IntKind.i64
 ((12 : Int) *
 Go.IntKind.wrap Go.IntKind.i64
 (Go.IntKind.wrap Go.IntKind.i64
 (Int.tdiv
 (Go.IntKind.wrap Go.IntKind.i64
 (Go.IntKind.wrap Go.IntKind.i64 (Go.IntKind.wrap Go.IntKind.i64 (Go.IntKind.wrap Go.IntKind.i64 ((12 : Int) * y) + m) - (1 : Int)) + n))
 (12 : Int)) -
 (1 : Int)))) +
 (1 : Int)))
 (match Decidable.decide (k < d) with
 | Bool.true => k
 | Bool.false => d) →
 K
 (Go.Value.tuple
 (Array.mk
 [Go.Value.agg
 (Array.mk
 [Go.Value.int Go.IntKind.i64
 (Go.IntKind.wrap Go.IntKind.i64
 (Go.IntKind.wrap Go.IntKind.i64
 (Int.tdiv
 (Go.IntKind.wrap Go.IntKind.i64
 (Go.IntKind.wrap Go.IntKind.i64 (Go.IntKind.wrap Go.IntKind.i64 (Go.IntKind.wrap Go.IntKind.i64 ((12 : Int) * y) + m) - (1 : Int)) + n))
 (12 : Int)) -
 (1 : Int))),
 Go.Value.int Go.IntKind.i64
 (Go.IntKind.wrap Go.IntKind.i64
 (Go.IntKind.wrap Go.IntKind.i64
 (Go.IntKind.wrap Go.IntKind.i64
 (Go.IntKind.wrap Go.IntKind.i64 (Go.IntKind.wrap Go.IntKind.i64 (Go.IntKind.wrap Go.IntKind.i64 ((12 : Int) * y) + m) - (1 : Int)) + n) -
 Go.IntKind.wrap Go.IntKind.i64
 ((12 : Int) *
 Go.IntKind.wrap Go.IntKind.i64
 (Go.IntKind.wrap Go.IntKind.i64
 (Int.tdiv
 (Go.IntKind.wrap Go.IntKind.i64
 (Go.IntKind.wrap Go.IntKind.i64 (Go.IntKind.wrap Go.IntKind.i64 (Go.IntKind.wrap Go.IntKind.i64 ((12 : Int) * y) + m) - (1 : Int)) + n))
 (12 : Int)) -
 (1 : Int)))) +
 (1 : Int))),
 Go.Value.int Go.IntKind.i64
 (match Decidable.decide (k < d) with
 | Bool.true => k
 | Bool.false => d)]),
 Go.Value.bool Bool.true]))
 (11 : Nat)) ∧
 (¬Go.Proofs.YteaebpmgbpnbeaaGreatDoor.dateOk
 (Go.IntKind.wrap Go.IntKind.i64
 (Go.IntKind.wrap Go.IntKind.i64
 (Int.tdiv
 (Go.IntKind.wrap Go.IntKind.i64 (Go.IntKind.wrap Go.IntKind.i64 (Go.IntKind.wrap Go.IntKind.i64 (Go.IntKind.wrap Go.IntKind.i64 ((12 : Int) * y) + m) - (1 : Int)) + n))
 (12 : Int)) -
 (1 : Int)))
 (Go.IntKind.wrap Go.IntKind.i64
 (Go.IntKind.wrap Go.IntKind.i64
 (Go.IntKind.wrap Go.IntKind.i64 (Go.IntKind.wrap Go.IntKind.i64 (Go.IntKind.wrap Go.IntKind.i64 (Go.IntKind.wrap Go.IntKind.i64 ((12 : Int) * y) + m) - (1 : Int)) + n) -
 Go.IntKind.wrap Go.IntKind.i64
 ((12 : Int) *
 Go.IntKind.wrap Go.IntKind.i64
 (Go.IntKind.wrap Go.IntKind.i64
 (Int.tdiv
 (Go.IntKind.wrap Go.IntKind.i64
 (Go.IntKind.wrap Go.IntKind.i64 (Go.IntKind.wrap Go.IntKind.i64 (Go.IntKind.wrap Go.IntKind.i64 ((12 : Int) * y) + m) - (1 : Int)) + n))
 (12 : Int)) -
 (1 : Int)))) +
 (1 : Int)))
 (match Decidable.decide (k < d) with
 | Bool.true => k
 | Bool.false => d) →
 K
 (Go.Value.tuple
 (Array.mk
 [Go.Value.agg
 (Array.mk [Go.Value.int Go.IntKind.i64 (Int.ofNat (0 : Nat)), Go.Value.int Go.IntKind.i64 (Int.ofNat (0 : Nat)), Go.Value.int Go.IntKind.i64 (Int.ofNat (0 : Nat))]),
 Go.Value.bool Bool.false]))
 (11 : Nat)))
 (∀ (k : Int),
 Int.ofNat (0 : Nat) ≤ k →
 k ≤ Int.ofNat (31 : Nat) →
 (Go.Proofs.YteaebpmgbpnbeaaGreatDoor.dateOk
 (Go.IntKind.wrap Go.IntKind.i64
 (Int.tdiv
 (Go.IntKind.wrap Go.IntKind.i64 (Go.IntKind.wrap Go.IntKind.i64 (Go.IntKind.wrap Go.IntKind.i64 (Go.IntKind.wrap Go.IntKind.i64 ((12 : Int) * y) + m) - (1 : Int)) + n))
 (12 : Int)))
 (Go.IntKind.wrap Go.IntKind.i64
 (Go.IntKind.wrap Go.IntKind.i64
 (Go.IntKind.wrap Go.IntKind.i64 (Go.IntKind.wrap Go.IntKind.i64 (Go.IntKind.wrap Go.IntKind.i64 (Go.IntKind.wrap Go.IntKind.i64 ((12 : Int) * y) + m) - (1 : Int)) + n) -
 Go.IntKind.wrap Go.IntKind.i64
 ((12 : Int) *
 Go.IntKind.wrap Go.IntKind.i64
 (Int.tdiv
 (Go.IntKind.wrap Go.IntKind.i64
 (Go.IntKind.wrap Go.IntKind.i64 (Go.IntKind.wrap Go.IntKind.i64 (Go.IntKind.wrap Go.IntKind.i64 ((12 : Int) * y) + m) - (1 : Int)) + n))
 (12 : Int)))) +
 (1 : Int)))
 (match Decidable.decide (k < d) with
 | Bool.true => k
 | Bool.false => d) →
 K
 (Go.Value.tuple
 (Array.mk
 [Go.Value.agg
 (Array.mk
 [Go.Value.int Go.IntKind.i64
 (Go.IntKind.wrap Go.IntKind.i64
 (Int.tdiv
 (Go.IntKind.wrap Go.IntKind.i64
 (Go.IntKind.wrap Go.IntKind.i64 (Go.IntKind.wrap Go.IntKind.i64 (Go.IntKind.wrap Go.IntKind.i64 ((12 : Int) * y) + m) - (1 : Int)) + n))
 (12 : Int))),
 Go.Value.int Go.IntKind.i64
 (Go.IntKind.wrap Go.IntKind.i64
 (Go.IntKind.wrap Go.IntKind.i64
 (Go.IntKind.wrap Go.IntKind.i64
 (Go.IntKind.wrap Go.IntKind.i64 (Go.IntKind.wrap Go.IntKind.i64 (Go.IntKind.wrap Go.IntKind.i64 ((12 : Int) * y) + m) - (1 : Int)) + n) -
 Go.IntKind.wrap Go.IntKind.i64
 ((12 : Int) *
 Go.IntKind.wrap Go.IntKind.i64
 (Int.tdiv
 (Go.IntKind.wrap Go.IntKind.i64
 (Go.IntKind.wrap Go.IntKind.i64 (Go.IntKind.wrap Go.IntKind.i64 (Go.IntKind.wrap Go.IntKind.i64 ((12 : Int) * y) + m) - (1 : Int)) + n))
 (12 : Int)))) +
 (1 : Int))),
 Go.Value.int Go.IntKind.i64
 (match Decidable.decide (k < d) with
 | Bool.true => k
 | Bool.false => d)]),
 Go.Value.bool Bool.true]))
 (11 : Nat)) ∧
 (¬Go.Proofs.YteaebpmgbpnbeaaGreatDoor.dateOk
 (Go.IntKind.wrap Go.IntKind.i64
 (Int.tdiv
 (Go.IntKind.wrap Go.IntKind.i64 (Go.IntKind.wrap Go.IntKind.i64 (Go.IntKind.wrap Go.IntKind.i64 (Go.IntKind.wrap Go.IntKind.i64 ((12 : Int) * y) + m) - (1 : Int)) + n))
 (12 : Int)))
 (Go.IntKind.wrap Go.IntKind.i64
 (Go.IntKind.wrap Go.IntKind.i64
 (Go.IntKind.wrap Go.IntKind.i64 (Go.IntKind.wrap Go.IntKind.i64 (Go.IntKind.wrap Go.IntKind.i64 (Go.IntKind.wrap Go.IntKind.i64 ((12 : Int) * y) + m) - (1 : Int)) + n) -
 Go.IntKind.wrap Go.IntKind.i64
 ((12 : Int) *
 Go.IntKind.wrap Go.IntKind.i64
 (Int.tdiv
 (Go.IntKind.wrap Go.IntKind.i64
 (Go.IntKind.wrap Go.IntKind.i64 (Go.IntKind.wrap Go.IntKind.i64 (Go.IntKind.wrap Go.IntKind.i64 ((12 : Int) * y) + m) - (1 : Int)) + n))
 (12 : Int)))) +
 (1 : Int)))
 (match Decidable.decide (k < d) with
 | Bool.true => k
 | Bool.false => d) →
 K
 (Go.Value.tuple
 (Array.mk
 [Go.Value.agg
 (Array.mk [Go.Value.int Go.IntKind.i64 (Int.ofNat (0 : Nat)), Go.Value.int Go.IntKind.i64 (Int.ofNat (0 : Nat)), Go.Value.int Go.IntKind.i64 (Int.ofNat (0 : Nat))]),
 Go.Value.bool Bool.false]))
 (11 : Nat)))))) ∧
 (¬Go.Proofs.YteaebpmgbpnbeaaGreatDoor.dateOk y m d →
 K
 (Go.Value.tuple
 (Array.mk
 [Go.Value.agg (Array.mk [Go.Value.int Go.IntKind.i64 (Int.ofNat (0 : Nat)), Go.Value.int Go.IntKind.i64 (Int.ofNat (0 : Nat)), Go.Value.int Go.IntKind.i64 (Int.ofNat (0 : Nat))]),
 Go.Value.bool Bool.false]))
 (11 : Nat))) := by kernel_rfl
theorem dlater_tree (K : Value → Nat → Prop) (N : Int → Int → Int → Int) (y m d n : Int) :
    funcK (env (rulesN N)) 30 31 [dateC y m d, .int .i64 n] tabs Tryz.prog.globals.size (fun u _ _ mw => K u mw) =
  (Go.Proofs.YteaebpmgbpnbeaaGreatDoor.dateOk y m d ∧
 Go.Proofs.YteaebpmgbpnbeaaGreatDoor.timeOk (Int.ofNat (0 : Nat)) Bool.false (Int.ofNat (0 : Nat)) ∧
 Go.Pe.bsel (Decidable.decide (n < (-9007199254740992 : Int)))
 (K
 (Go.Value.tuple
 (Array.mk
 [Go.Value.agg (Array.mk [Go.Value.int Go.IntKind.i64 (Int.ofNat (0 : Nat)), Go.Value.int Go.IntKind.i64 (Int.ofNat (0 : Nat)), Go.Value.int Go.IntKind.i64 (Int.ofNat (0 : Nat))]),
 Go.Value.bool Bool.false]))
 (11 : Nat))
 (Go.Pe.bsel (Decidable.decide (n > (9007199254740992 : Int)))
 (K
 (Go.Value.tuple
 (Array.mk
 [Go.Value.agg (Array.mk [Go.Value.int Go.IntKind.i64 (Int.ofNat (0 : Nat)), Go.Value.int Go.IntKind.i64 (Int.ofNat (0 : Nat)), Go.Value.int Go.IntKind.i64 (Int.ofNat (0 : Nat))]),
 Go.Value.bool Bool.false]))
 (11 : Nat))
 (Go.Pe.bsel
 (Decidable.decide
 (Go.IntKind.wrap Go.IntKind.i64 (Go.IntKind.wrap Go.IntKind.i64 (Go.IntKind.wrap Go.IntKind.i64 (Go.IntKind.wrap Go.IntKind.i64 ((86400 : Int) * N y m d) + (0 : Int)) - (0 : Int)) + n) <
 (-72057594037927936 : Int)))
 (K
 (Go.Value.tuple
 (Array.mk
 [Go.Value.agg (Array.mk [Go.Value.int Go.IntKind.i64 (Int.ofNat (0 : Nat)), Go.Value.int Go.IntKind.i64 (Int.ofNat (0 : Nat)), Go.Value.int Go.IntKind.i64 (Int.ofNat (0 : Nat))]),
 Go.Value.bool Bool.false]))
 (11 : Nat))
 (Go.Pe.bsel
 (Decidable.decide
 (Go.IntKind.wrap Go.IntKind.i64 (Go.IntKind.wrap Go.IntKind.i64 (Go.IntKind.wrap Go.IntKind.i64 (Go.IntKind.wrap Go.IntKind.i64 ((86400 : Int) * N y m d) + (0 : Int)) - (0 : Int)) + n) >
 (72057594037927936 : Int)))
 (K
 (Go.Value.tuple
 (Array.mk
 [Go.Value.agg (Array.mk [Go.Value.int Go.IntKind.i64 (Int.ofNat (0 : Nat)), Go.Value.int Go.IntKind.i64 (Int.ofNat (0 : Nat)), Go.Value.int Go.IntKind.i64 (Int.ofNat (0 : Nat))]),
 Go.Value.bool Bool.false]))
 (11 : Nat))
 (Go.Proofs.YteaebpmgbpnbeaaGreatDoor.timeOk (Int.ofNat (0 : Nat)) Bool.false (Int.ofNat (0 : Nat)) ∧
 Go.Pe.bsel
 (Decidable.decide
 (Int.tmod
 (Go.IntKind.wrap Go.IntKind.i64
 (Go.IntKind.wrap Go.IntKind.i64
 (Go.IntKind.wrap Go.IntKind.i64 (Go.IntKind.wrap Go.IntKind.i64 (Go.IntKind.wrap Go.IntKind.i64 ((86400 : Int) * N y m d) + (0 : Int)) - (0 : Int)) + n) +
 (0 : Int)))
 (86400 : Int) <
 (0 : Int)))
 ((∀ (y m d : Int),
 Go.Proofs.YteaebpmgbpnbeaaGreatDoor.dateOk y m d →
 K (Go.Value.tuple (Array.mk [Go.Value.agg (Array.mk [Go.Value.int Go.IntKind.i64 y, Go.Value.int Go.IntKind.i64 m, Go.Value.int Go.IntKind.i64 d]), Go.Value.bool Bool.true]))
 (11 : Nat)) ∧
 K
 (Go.Value.tuple
 (Array.mk
 [Go.Value.agg
 (Array.mk [Go.Value.int Go.IntKind.i64 (Int.ofNat (0 : Nat)), Go.Value.int Go.IntKind.i64 (Int.ofNat (0 : Nat)), Go.Value.int Go.IntKind.i64 (Int.ofNat (0 : Nat))]),
 Go.Value.bool Bool.false]))
 (11 : Nat))
 ((∀ (y m d : Int),
 Go.Proofs.YteaebpmgbpnbeaaGreatDoor.dateOk y m d →
 K (Go.Value.tuple (Array.mk [Go.Value.agg (Array.mk [Go.Value.int Go.IntKind.i64 y, Go.Value.int Go.IntKind.i64 m, Go.Value.int Go.IntKind.i64 d]), Go.Value.bool Bool.true]))
 (11 : Nat)) ∧
 K
 (Go.Value.tuple
 (Array.mk
 [Go.Value.agg
 (Array.mk [Go.Value.int Go.IntKind.i64 (Int.ofNat (0 : Nat)), Go.Value.int Go.IntKind.i64 (Int.ofNat (0 : Nat)), Go.Value.int Go.IntKind.i64 (Int.ofNat (0 : Nat))]),
 Go.Value.bool Bool.false]))
 (11 : Nat))))))) := by kernel_rfl
theorem clater_tree (K : Value → Nat → Prop) (N : Int → Int → Int → Int) (s o n : Int) (z : Bool) :
    funcK (env (rulesN N)) 30 33 [timeC s z o, .int .i64 n] tabs Tryz.prog.globals.size (fun u _ _ mw => K u mw) =
  (Go.Proofs.YteaebpmgbpnbeaaGreatDoor.timeOk s z o ∧
 Go.Pe.bsel (Decidable.decide (Go.IntKind.wrap Go.IntKind.i64 (s + Int.tmod n (86400 : Int)) < (0 : Int)))
 (K
 (Go.Value.tuple
 (Array.mk
 [Go.Value.agg
 (Array.mk
 [Go.Value.int Go.IntKind.i64 (Go.IntKind.wrap Go.IntKind.i64 (Go.IntKind.wrap Go.IntKind.i64 (s + Int.tmod n (86400 : Int)) + (86400 : Int))), Go.Value.bool z,
 Go.Value.int Go.IntKind.i64 o]),
 Go.Value.int Go.IntKind.i64 (Go.IntKind.wrap Go.IntKind.i64 (Go.IntKind.wrap Go.IntKind.i64 (Int.tdiv n (86400 : Int)) - (1 : Int)))]))
 (10 : Nat))
 (Go.Pe.bsel (Decidable.decide (Go.IntKind.wrap Go.IntKind.i64 (s + Int.tmod n (86400 : Int)) ≥ (86400 : Int)))
 (K
 (Go.Value.tuple
 (Array.mk
 [Go.Value.agg
 (Array.mk
 [Go.Value.int Go.IntKind.i64 (Go.IntKind.wrap Go.IntKind.i64 (Go.IntKind.wrap Go.IntKind.i64 (s + Int.tmod n (86400 : Int)) - (86400 : Int))), Go.Value.bool z,
 Go.Value.int Go.IntKind.i64 o]),
 Go.Value.int Go.IntKind.i64 (Go.IntKind.wrap Go.IntKind.i64 (Go.IntKind.wrap Go.IntKind.i64 (Int.tdiv n (86400 : Int)) + (1 : Int)))]))
 (10 : Nat))
 (K
 (Go.Value.tuple
 (Array.mk
 [Go.Value.agg (Array.mk [Go.Value.int Go.IntKind.i64 (Go.IntKind.wrap Go.IntKind.i64 (s + Int.tmod n (86400 : Int))), Go.Value.bool z, Go.Value.int Go.IntKind.i64 o]),
 Go.Value.int Go.IntKind.i64 (Go.IntKind.wrap Go.IntKind.i64 (Int.tdiv n (86400 : Int)))]))
 (10 : Nat)))) := by kernel_rfl
theorem cbetween_tree (K : Value → Nat → Prop) (s o s2 o2 : Int) (z z2 : Bool) :
    funcK (env rules1) 30 36 [timeC s z o, timeC s2 z2 o2] tabs Tryz.prog.globals.size (fun u _ _ mw => K u mw) =
  (Go.Pe.bsel z
 (Go.Pe.bsel z2
 (K
 (Go.Value.tuple
 (Array.mk [Go.Value.int Go.IntKind.i64 (Go.IntKind.wrap Go.IntKind.i64 (Go.IntKind.wrap Go.IntKind.i64 (s2 - o2) - Go.IntKind.wrap Go.IntKind.i64 (s - o))), Go.Value.bool Bool.true]))
 (18446744073709551616 : Nat))
 (K (Go.Value.tuple (Array.mk [Go.Value.int Go.IntKind.i64 (Int.ofNat (0 : Nat)), Go.Value.bool Bool.false])) (18446744073709551616 : Nat)))
 (Go.Pe.bsel z2 (K (Go.Value.tuple (Array.mk [Go.Value.int Go.IntKind.i64 (Int.ofNat (0 : Nat)), Go.Value.bool Bool.false])) (18446744073709551616 : Nat))
 (K
 (Go.Value.tuple
 (Array.mk [Go.Value.int Go.IntKind.i64 (Go.IntKind.wrap Go.IntKind.i64 (Go.IntKind.wrap Go.IntKind.i64 (s2 - o2) - Go.IntKind.wrap Go.IntKind.i64 (s - o))), Go.Value.bool Bool.true]))
 (18446744073709551616 : Nat)))) := by kernel_rfl
theorem between_tree (K : Value → Nat → Prop) (N : Int → Int → Int → Int) (y m d s o y2 m2 d2 s2 o2 : Int) (z z2 : Bool) :
    funcK (env (rulesN N)) 30 34 [momentC y m d s z o, momentC y2 m2 d2 s2 z2 o2] tabs Tryz.prog.globals.size (fun u _ _ mw => K u mw) =
  (Go.Proofs.YteaebpmgbpnbeaaGreatDoor.dateOk y m d ∧
 Go.Proofs.YteaebpmgbpnbeaaGreatDoor.timeOk s z o ∧
 Go.Proofs.YteaebpmgbpnbeaaGreatDoor.dateOk y2 m2 d2 ∧
 Go.Proofs.YteaebpmgbpnbeaaGreatDoor.timeOk s2 z2 o2 ∧
 Go.Pe.bsel z
 (Go.Pe.bsel z2
 (K
 (Go.Value.tuple
 (Array.mk
 [Go.Value.int Go.IntKind.i64
 (Go.IntKind.wrap Go.IntKind.i64
 (Go.IntKind.wrap Go.IntKind.i64 (Go.IntKind.wrap Go.IntKind.i64 (Go.IntKind.wrap Go.IntKind.i64 ((86400 : Int) * N y2 m2 d2) + s2) - o2) -
 Go.IntKind.wrap Go.IntKind.i64 (Go.IntKind.wrap Go.IntKind.i64 (Go.IntKind.wrap Go.IntKind.i64 ((86400 : Int) * N y m d) + s) - o))),
 Go.Value.bool Bool.true]))
 (18446744073709551616 : Nat))
 (K (Go.Value.tuple (Array.mk [Go.Value.int Go.IntKind.i64 (Int.ofNat (0 : Nat)), Go.Value.bool Bool.false])) (18446744073709551616 : Nat)))
 (Go.Pe.bsel z2 (K (Go.Value.tuple (Array.mk [Go.Value.int Go.IntKind.i64 (Int.ofNat (0 : Nat)), Go.Value.bool Bool.false])) (18446744073709551616 : Nat))
 (K
 (Go.Value.tuple
 (Array.mk
 [Go.Value.int Go.IntKind.i64
 (Go.IntKind.wrap Go.IntKind.i64
 (Go.IntKind.wrap Go.IntKind.i64 (Go.IntKind.wrap Go.IntKind.i64 (Go.IntKind.wrap Go.IntKind.i64 ((86400 : Int) * N y2 m2 d2) + s2) - o2) -
 Go.IntKind.wrap Go.IntKind.i64 (Go.IntKind.wrap Go.IntKind.i64 (Go.IntKind.wrap Go.IntKind.i64 ((86400 : Int) * N y m d) + s) - o))),
 Go.Value.bool Bool.true]))
 (18446744073709551616 : Nat)))) := by kernel_rfl
theorem dbetween_tree (K : Value → Nat → Prop) (N : Int → Int → Int → Int) (y m d y2 m2 d2 : Int) :
    funcK (env (rulesN N)) 30 35 [dateC y m d, dateC y2 m2 d2] tabs Tryz.prog.globals.size (fun u _ _ mw => K u mw) =
  (Go.Proofs.YteaebpmgbpnbeaaGreatDoor.dateOk y m d ∧
 Go.Proofs.YteaebpmgbpnbeaaGreatDoor.timeOk (Int.ofNat (0 : Nat)) Bool.false (Int.ofNat (0 : Nat)) ∧
 Go.Proofs.YteaebpmgbpnbeaaGreatDoor.dateOk y2 m2 d2 ∧
 Go.Proofs.YteaebpmgbpnbeaaGreatDoor.timeOk (Int.ofNat (0 : Nat)) Bool.false (Int.ofNat (0 : Nat)) ∧
 K
 (Go.Value.tuple
 (Array.mk
 [Go.Value.int Go.IntKind.i64
 (Go.IntKind.wrap Go.IntKind.i64
 (Go.IntKind.wrap Go.IntKind.i64 (Go.IntKind.wrap Go.IntKind.i64 (Go.IntKind.wrap Go.IntKind.i64 ((86400 : Int) * N y2 m2 d2) + (0 : Int)) - (0 : Int)) -
 Go.IntKind.wrap Go.IntKind.i64 (Go.IntKind.wrap Go.IntKind.i64 (Go.IntKind.wrap Go.IntKind.i64 ((86400 : Int) * N y m d) + (0 : Int)) - (0 : Int)))),
 Go.Value.bool Bool.true]))
 (18446744073709551616 : Nat)) := by kernel_rfl


theorem later_hk {N : Int → Int → Int → Int} {y m d s o : Int} (n : Int) {z : Bool} (hd : dateOk y m d) (ht : timeOk s z o) : ReckE (env (rulesN N)) 30 29 [momentC y m d s z o, .int .i64 n] isMomB := by
  have sec1 : ∀ x, Int.tmod x 86400 < 0 → timeOk (IntKind.wrap .i64 (Int.tmod x 86400 + 86400)) z o := fun x hx => by
    have := tmodB x 86400 (by decide)
    rw [wrap_i64 _ (by unfold rng; omega)]
    exact ⟨by omega, by omega, ht.2.2⟩
  have sec2 : ∀ x, ¬ Int.tmod x 86400 < 0 → timeOk (Int.tmod x 86400) z o := fun x hx => by
    have := tmodB x 86400 (by decide)
    exact ⟨by omega, by omega, ht.2.2⟩
  constructor
  rw [later_tree fun u mw => isMomB u ∧ Tryz.prog.globals.size ≤ mw]
  refine And.intro hd ?_
  repeat' (first
    | exact ⟨⟨_, _, _, _, _, _, _, rfl, fun h => nomatch h⟩, Nat.le_of_ble_eq_true (by kernel_rfl)⟩
    | refine bsel_of (fun hb => ?_) (fun hb => ?_)
    | (intro y2 m2 d2 h2
       first
        | exact ⟨⟨_, _, _, _, _, _, _, rfl, fun _ => ⟨h2, sec1 _ (of_decide_eq_true hb)⟩⟩, Nat.le_of_ble_eq_true (by kernel_rfl)⟩
        | exact ⟨⟨_, _, _, _, _, _, _, rfl, fun _ => ⟨h2, sec2 _ (of_decide_eq_false hb)⟩⟩, Nat.le_of_ble_eq_true (by kernel_rfl)⟩)
    | refine And.intro ht ?_
    | refine And.intro ?_ ?_)

theorem mmonths_hk {N : Int → Int → Int → Int} {y m d s o : Int} (n : Int) {z : Bool} (ht : timeOk s z o) : ReckE (env (rulesN N)) 30 30 [momentC y m d s z o, .int .i64 n] isMomB := by
  constructor
  rw [mmonths_tree fun u mw => isMomB u ∧ Tryz.prog.globals.size ≤ mw]
  refine And.intro (fun _ => ?_) (fun _ => ⟨⟨_, _, _, _, _, _, _, rfl, fun h => nomatch h⟩, Nat.le_of_ble_eq_true (by kernel_rfl)⟩)
  repeat' (first
    | exact ⟨⟨_, _, _, _, _, _, _, rfl, fun h => nomatch h⟩, Nat.le_of_ble_eq_true (by kernel_rfl)⟩
    | refine bsel_of (fun hb => ?_) (fun hb => ?_)
    | (intro k hk1 hk2
       exact ⟨fun h => ⟨ht, ⟨_, _, _, _, _, _, _, rfl, fun _ => ⟨h, ht⟩⟩, Nat.le_of_ble_eq_true (by kernel_rfl)⟩, fun _ => ⟨⟨_, _, _, _, _, _, _, rfl, fun h => nomatch h⟩, Nat.le_of_ble_eq_true (by kernel_rfl)⟩⟩))

theorem cmonths_hk {N : Int → Int → Int → Int} (y m d n : Int) : ReckE (env (rulesN N)) 30 32 [dateC y m d, .int .i64 n] isDayB := by
  constructor
  rw [cmonths_tree fun u mw => isDayB u ∧ Tryz.prog.globals.size ≤ mw]
  refine And.intro (fun _ => ?_) (fun _ => ⟨⟨_, _, _, _, rfl, fun h => nomatch h⟩, Nat.le_of_ble_eq_true (by kernel_rfl)⟩)
  repeat' (first
    | exact ⟨⟨_, _, _, _, rfl, fun h => nomatch h⟩, Nat.le_of_ble_eq_true (by kernel_rfl)⟩
    | refine bsel_of (fun hb => ?_) (fun hb => ?_)
    | (intro k hk1 hk2
       exact ⟨fun h => ⟨⟨_, _, _, _, rfl, fun _ => h⟩, Nat.le_of_ble_eq_true (by kernel_rfl)⟩, fun _ => ⟨⟨_, _, _, _, rfl, fun h => nomatch h⟩, Nat.le_of_ble_eq_true (by kernel_rfl)⟩⟩))

theorem dlater_hk {N : Int → Int → Int → Int} {y m d : Int} (n : Int) (hd : dateOk y m d) : ReckE (env (rulesN N)) 30 31 [dateC y m d, .int .i64 n] isDayB := by
  constructor
  rw [dlater_tree fun u mw => isDayB u ∧ Tryz.prog.globals.size ≤ mw]
  refine And.intro hd ?_
  repeat' (first
    | exact ⟨⟨_, _, _, _, rfl, fun h => nomatch h⟩, Nat.le_of_ble_eq_true (by kernel_rfl)⟩
    | refine bsel_of (fun hb => ?_) (fun hb => ?_)
    | (intro y2 m2 d2 h2
       exact ⟨⟨_, _, _, _, rfl, fun _ => h2⟩, Nat.le_of_ble_eq_true (by kernel_rfl)⟩)
    | refine And.intro zero_time ?_
    | refine And.intro ?_ ?_)

theorem clater_hk {N : Int → Int → Int → Int} {s o : Int} (n : Int) {z : Bool} (ht : timeOk s z o) : ReckE (env (rulesN N)) 30 33 [timeC s z o, .int .i64 n] isTimeI := by
  have hb := tmodB n 86400 (by decide)
  have h1 := ht.1
  have h2 := ht.2.1
  have w0 : IntKind.wrap .i64 (s + Int.tmod n 86400) = s + Int.tmod n 86400 := wrap_i64 _ (by unfold rng; omega)
  constructor
  rw [clater_tree fun u mw => isTimeI u ∧ Tryz.prog.globals.size ≤ mw, w0]
  refine And.intro ht ?_
  refine bsel_of (fun h => ?_) (fun h => bsel_of (fun h' => ?_) (fun h' => ?_))
  · simp only [decide_eq_true_eq] at h
    refine ⟨⟨_, _, _, _, rfl, ?_⟩, Nat.le_of_ble_eq_true (by kernel_rfl)⟩
    rw [wrap_i64 _ (by unfold rng; omega)]
    exact ⟨by omega, by omega, ht.2.2⟩
  · simp only [decide_eq_true_eq, decide_eq_false_iff_not] at h h'
    refine ⟨⟨_, _, _, _, rfl, ?_⟩, Nat.le_of_ble_eq_true (by kernel_rfl)⟩
    rw [wrap_i64 _ (by unfold rng; omega)]
    exact ⟨by omega, by omega, ht.2.2⟩
  · simp only [decide_eq_false_iff_not] at h h'
    exact ⟨⟨_, _, _, _, rfl, ⟨by omega, by omega, ht.2.2⟩⟩, Nat.le_of_ble_eq_true (by kernel_rfl)⟩

theorem cbetween_hk (s o s2 o2 : Int) (z z2 : Bool) : ReckE (env rules1) 30 36 [timeC s z o, timeC s2 z2 o2] isIntB := by
  constructor
  rw [cbetween_tree fun u mw => isIntB u ∧ Tryz.prog.globals.size ≤ mw]
  repeat' (refine bsel_of (fun _ => ?_) (fun _ => ?_))
  all_goals exact ⟨⟨_, _, rfl⟩, Nat.le_of_ble_eq_true (by kernel_rfl)⟩

/-- A moment as a number of seconds. -/
def inst (N : Int → Int → Int → Int) (y m d s o : Int) : Int := 86400 * N y m d + s - o

theorem inst_b {base : World} {N : Int → Int → Int → Int} (hN : NumOk base N) {y m d s o : Int} {z : Bool} (hd : dateOk y m d) (ht : timeOk s z o) : -172800000200000 * 1000 ≤ inst N y m d s o ∧ inst N y m d s o ≤ 172800000200000 * 1000 := by
  have h1 := (hN y m d hd).1
  obtain ⟨a1, a2, a3, a4, _⟩ := ht
  unfold inst
  omega

def isBtw (N : Int → Int → Int → Int) (y m d s : Int) (z : Bool) (o y2 m2 d2 s2 : Int) (z2 : Bool) (o2 : Int) (u : Value) : Prop :=
  (z = z2 ∧ u = .tuple #[.int .i64 (inst N y2 m2 d2 s2 o2 - inst N y m d s o), .bool true]) ∨ (z ≠ z2 ∧ u = .tuple #[.int .i64 0, .bool false])

theorem between_hk {base : World} {N : Int → Int → Int → Int} (hN : NumOk base N) {y m d s o y2 m2 d2 s2 o2 : Int} {z z2 : Bool} (hd : dateOk y m d) (ht : timeOk s z o) (hd2 : dateOk y2 m2 d2) (ht2 : timeOk s2 z2 o2) :
    ReckE (env (rulesN N)) 30 34 [momentC y m d s z o, momentC y2 m2 d2 s2 z2 o2] (isBtw N y m d s z o y2 m2 d2 s2 z2 o2) := by
  have e : IntKind.wrap .i64 (IntKind.wrap .i64 (IntKind.wrap .i64 (IntKind.wrap .i64 (86400 * N y2 m2 d2) + s2) - o2) - IntKind.wrap .i64 (IntKind.wrap .i64 (IntKind.wrap .i64 (86400 * N y m d) + s) - o)) = inst N y2 m2 d2 s2 o2 - inst N y m d s o := by
    have h1 := (hN y m d hd).1
    have h2 := (hN y2 m2 d2 hd2).1
    obtain ⟨a1, a2, a3, a4, _⟩ := ht
    obtain ⟨b1, b2, b3, b4, _⟩ := ht2
    unfold inst
    generalize N y m d = n1 at *
    generalize N y2 m2 d2 = n2 at *
    simp (disch := (unfold rng; omega)) only [wrap_i64]
  constructor
  rw [between_tree fun u mw => isBtw N y m d s z o y2 m2 d2 s2 z2 o2 u ∧ Tryz.prog.globals.size ≤ mw, e]
  refine ⟨hd, ht, hd2, ht2, ?_⟩
  refine bsel_of (fun h1 => bsel_of (fun h2 => ?_) (fun h2 => ?_)) (fun h1 => bsel_of (fun h2 => ?_) (fun h2 => ?_)) <;> subst h1 <;> subst h2
  · exact ⟨.inl ⟨rfl, rfl⟩, Nat.le_of_ble_eq_true (by kernel_rfl)⟩
  · exact ⟨.inr ⟨by decide, rfl⟩, Nat.le_of_ble_eq_true (by kernel_rfl)⟩
  · exact ⟨.inr ⟨by decide, rfl⟩, Nat.le_of_ble_eq_true (by kernel_rfl)⟩
  · exact ⟨.inl ⟨rfl, rfl⟩, Nat.le_of_ble_eq_true (by kernel_rfl)⟩

theorem isBtw_pure {N : Int → Int → Int → Int} {y m d s o y2 m2 d2 s2 o2 : Int} {z z2 : Bool} : ∀ v, isBtw N y m d s z o y2 m2 d2 s2 z2 o2 v → pureV 6 v = true := by
  rintro v (⟨_, rfl⟩ | ⟨_, rfl⟩) <;> kernel_rfl

theorem between_tot {base : World} {N : Int → Int → Int → Int} (hN : NumOk base N) {y m d s o y2 m2 d2 s2 o2 : Int} {z z2 : Bool} (hd : dateOk y m d) (ht : timeOk s z o) (hd2 : dateOk y2 m2 d2) (ht2 : timeOk s2 z2 o2) :
    ∃ u, isBtw N y m d s z o y2 m2 d2 s2 z2 o2 u ∧ Tot base 34 [momentC y m d s z o, momentC y2 m2 d2 s2 z2 o2] u :=
  tot_ofE (env_ok (rulesN_ok hN)) env_loops rfl (between_hk hN hd ht hd2 ht2) isBtw_pure (List.forall_mem_cons.2 ⟨by kernel_rfl, pure1 (by kernel_rfl)⟩)

theorem dbetween_tot {base : World} {N : Int → Int → Int → Int} (hN : NumOk base N) {y m d y2 m2 d2 : Int} (hd : dateOk y m d) (hd2 : dateOk y2 m2 d2) :
    Tot base 35 [dateC y m d, dateC y2 m2 d2] (.tuple #[.int .i64 (inst N y2 m2 d2 0 0 - inst N y m d 0 0), .bool true]) := by
  refine tot_lit (d := 30) (rulesN_ok hN) ?_ (by kernel_rfl) (List.forall_mem_cons.2 ⟨by kernel_rfl, pure1 (by kernel_rfl)⟩)
  constructor
  rw [dbetween_tree fun u mw => u = .tuple #[.int .i64 (inst N y2 m2 d2 0 0 - inst N y m d 0 0), .bool true] ∧ Tryz.prog.globals.size ≤ mw]
  refine ⟨hd, zero_time, hd2, zero_time, ?_, Nat.le_of_ble_eq_true (by kernel_rfl)⟩
  have h1 := (hN y m d hd).1
  have h2 := (hN y2 m2 d2 hd2).1
  unfold inst
  generalize N y m d = n1 at *
  generalize N y2 m2 d2 = n2 at *
  simp (disch := (unfold rng; omega)) only [wrap_i64]

end Go.Proofs.YteaebpmgbpnbeaaGreatDoor
