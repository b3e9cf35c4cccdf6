/-
  Months between moments; what the layers below come to, handed on.
-/
import Derived.Test.YteaebpmgbpnbeaaGreatDoorFd
namespace Go.Proofs.YteaebpmgbpnbeaaGreatDoor
open Go Go.Pe Go.RowKit

def ruleBtwF (N : Int → Int → Int → Int) : Rule := rule1 fun args => match args with
  | [.agg ⟨[.int .i64 y, .int .i64 m, .int .i64 d, .int .i64 s, .bool z, .int .i64 o]⟩, .agg ⟨[.int .i64 y2, .int .i64 m2, .int .i64 d2, .int .i64 s2, .bool z2, .int .i64 o2]⟩] => some fun K =>
      (dateOk y m d ∧ timeOk s z o ∧ dateOk y2 m2 d2 ∧ timeOk s2 z2 o2) ∧ (z = z2 → K (.tuple #[.int .i64 (inst N y2 m2 d2 s2 o2 - inst N y m d s o), .bool true])) ∧ (z ≠ z2 → K (.tuple #[.int .i64 0, .bool false]))
  | _ => none

theorem btwF_ok {base : World} {N : Int → Int → Int → Int} (hN : NumOk base N) : RuleOk Tryz.prog base 34 (ruleBtwF N) := ruleOk_of fun args T K hT hK => by
  split at hT
  · cases hT
    obtain ⟨⟨h1, h2, h3, h4⟩, k1, k2⟩ := hK
    obtain ⟨u, hu, ht⟩ := between_tot hN h1 h2 h3 h4
    rcases hu with ⟨hz, rfl⟩ | ⟨hz, rfl⟩
    · exact ⟨_, k1 hz, ht⟩
    · exact ⟨_, k2 hz, ht⟩
  · cases hT

def rulesB (N : Int → Int → Int → Int) (r : Rule) : List (Nat × Rule) := (34, ruleBtwF N) :: (37, r) :: rulesN N
theorem rulesB_ok {base : World} {N : Int → Int → Int → Int} (hN : NumOk base N) {r : Rule} (h : RuleOk Tryz.prog base 37 r) : ∀ x ∈ rulesB N r, RuleOk Tryz.prog base x.1 x.2 :=
  List.forall_mem_cons.2 ⟨btwF_ok hN, List.forall_mem_cons.2 ⟨h, rulesN_ok hN⟩⟩

def isMB (u : Value) : Prop := (∃ k, u = .tuple #[.int .i64 k, .bool true] ∧ monthsB k) ∨ u = .tuple #[.int .i64 0, .bool false]
theorem isMB_pure : ∀ v, isMB v → pureV 6 v = true := by
  rintro v (⟨_, rfl, _⟩ | rfl) <;> kernel_rfl

def ruleMB0 (N : Int → Int → Int → Int) : Rule := rule1 fun args => match args with
  | [.agg ⟨[.int .i64 y, .int .i64 m, .int .i64 d, .int .i64 s, .bool z, .int .i64 o]⟩, .agg ⟨[.int .i64 y2, .int .i64 m2, .int .i64 d2, .int .i64 s2, .bool z2, .int .i64 o2]⟩] => some fun K =>
      (dateOk y m d ∧ timeOk s z o ∧ dateOk y2 m2 d2 ∧ timeOk s2 z2 o2 ∧ z = z2 ∧ 0 ≤ inst N y2 m2 d2 s2 o2 - inst N y m d s o) ∧ (∀ k, monthsB k → K (.tuple #[.int .i64 k, .bool true])) ∧ K (.tuple #[.int .i64 0, .bool false])
  | _ => none

theorem mb0_tree (K : Value → Nat → Prop) (N : Int → Int → Int → Int) (y m d s o y2 m2 d2 s2 o2 : Int) (z : Bool) :
    funcK (env (rulesB N ruleWall)) 30 37 [momentC y m d s z o, momentC y2 m2 d2 s2 z o2] tabs Tryz.prog.globals.size (fun u _ _ mw => K u mw) =
  ((Go.Proofs.YteaebpmgbpnbeaaGreatDoor.dateOk y m d ∧
 Go.Proofs.YteaebpmgbpnbeaaGreatDoor.timeOk s z o ∧ Go.Proofs.YteaebpmgbpnbeaaGreatDoor.dateOk y2 m2 d2 ∧ Go.Proofs.YteaebpmgbpnbeaaGreatDoor.timeOk s2 z o2) ∧
 (z = z →
 Go.Pe.bsel (Decidable.decide (Go.Proofs.YteaebpmgbpnbeaaGreatDoor.inst N y2 m2 d2 s2 o2 - Go.Proofs.YteaebpmgbpnbeaaGreatDoor.inst N y m d s o < (0 : Int))) False
 (Go.Proofs.YteaebpmgbpnbeaaGreatDoor.dateOk y2 m2 d2 ∧
 Go.Proofs.YteaebpmgbpnbeaaGreatDoor.timeOk s2 z o2 ∧
 Go.Pe.bsel
 (Decidable.decide (Go.IntKind.wrap Go.IntKind.i64 (Go.IntKind.wrap Go.IntKind.i64 (Go.IntKind.wrap Go.IntKind.i64 ((86400 : Int) * N y2 m2 d2) + s2) - o2) < (-72057594037927936 : Int)))
 (K (Go.Value.tuple (Array.mk [Go.Value.int Go.IntKind.i64 (Int.ofNat (0 : Nat)), Go.Value.bool Bool.false])) (16 : Nat))
 (Go.Pe.bsel
 (Decidable.decide (Go.IntKind.wrap Go.IntKind.i64 (Go.IntKind.wrap Go.IntKind.i64 (Go.IntKind.wrap Go.IntKind.i64 ((86400 : Int) * N y2 m2 d2) + s2) - o2) > (72057594037927936 : Int)))
 (K (Go.Value.tuple (Array.mk [Go.Value.int Go.IntKind.i64 (Int.ofNat (0 : Nat)), Go.Value.bool Bool.false])) (16 : Nat))
 (Go.Proofs.YteaebpmgbpnbeaaGreatDoor.timeOk s z o ∧
 Go.Pe.bsel
 (Decidable.decide
 (Int.tmod
 (Go.IntKind.wrap Go.IntKind.i64 (Go.IntKind.wrap Go.IntKind.i64 (Go.IntKind.wrap Go.IntKind.i64 (Go.IntKind.wrap Go.IntKind.i64 ((86400 : Int) * N y2 m2 d2) + s2) - o2) + o))
 (86400 : Int) <
 (0 : Int)))
 ((∀ (y_1 m_1 d_1 : Int),
 Go.Proofs.YteaebpmgbpnbeaaGreatDoor.dateOk y_1 m_1 d_1 →
 Go.Pe.bsel (Decidable.decide (d_1 < d))
 (K
 (Go.Value.tuple
 (Array.mk
 [Go.Value.int Go.IntKind.i64
 (Go.IntKind.wrap Go.IntKind.i64
 (Go.IntKind.wrap Go.IntKind.i64
 (Go.IntKind.wrap Go.IntKind.i64 (Go.IntKind.wrap Go.IntKind.i64 ((12 : Int) * Go.IntKind.wrap Go.IntKind.i64 (y_1 - y)) + m_1) - m) -
 (1 : Int))),
 Go.Value.bool Bool.true]))
 (17 : Nat))
 (Go.Pe.bsel (d_1 == d)
 (Go.Pe.bsel
 (Decidable.decide
 (Go.IntKind.wrap Go.IntKind.i64
 (Int.tmod
 (Go.IntKind.wrap Go.IntKind.i64
 (Go.IntKind.wrap Go.IntKind.i64 (Go.IntKind.wrap Go.IntKind.i64 (Go.IntKind.wrap Go.IntKind.i64 ((86400 : Int) * N y2 m2 d2) + s2) - o2) + o))
 (86400 : Int) +
 (86400 : Int)) <
 s))
 (K
 (Go.Value.tuple
 (Array.mk
 [Go.Value.int Go.IntKind.i64
 (Go.IntKind.wrap Go.IntKind.i64
 (Go.IntKind.wrap Go.IntKind.i64
 (Go.IntKind.wrap Go.IntKind.i64 (Go.IntKind.wrap Go.IntKind.i64 ((12 : Int) * Go.IntKind.wrap Go.IntKind.i64 (y_1 - y)) + m_1) - m) -
 (1 : Int))),
 Go.Value.bool Bool.true]))
 (17 : Nat))
 (K
 (Go.Value.tuple
 (Array.mk
 [Go.Value.int Go.IntKind.i64
 (Go.IntKind.wrap Go.IntKind.i64
 (Go.IntKind.wrap Go.IntKind.i64 (Go.IntKind.wrap Go.IntKind.i64 ((12 : Int) * Go.IntKind.wrap Go.IntKind.i64 (y_1 - y)) + m_1) - m)),
 Go.Value.bool Bool.true]))
 (17 : Nat)))
 (K
 (Go.Value.tuple
 (Array.mk
 [Go.Value.int Go.IntKind.i64
 (Go.IntKind.wrap Go.IntKind.i64
 (Go.IntKind.wrap Go.IntKind.i64 (Go.IntKind.wrap Go.IntKind.i64 ((12 : Int) * Go.IntKind.wrap Go.IntKind.i64 (y_1 - y)) + m_1) - m)),
 Go.Value.bool Bool.true]))
 (17 : Nat)))) ∧
 K (Go.Value.tuple (Array.mk [Go.Value.int Go.IntKind.i64 (Int.ofNat (0 : Nat)), Go.Value.bool Bool.false])) (17 : Nat))
 ((∀ (y_1 m_1 d_1 : Int),
 Go.Proofs.YteaebpmgbpnbeaaGreatDoor.dateOk y_1 m_1 d_1 →
 Go.Pe.bsel (Decidable.decide (d_1 < d))
 (K
 (Go.Value.tuple
 (Array.mk
 [Go.Value.int Go.IntKind.i64
 (Go.IntKind.wrap Go.IntKind.i64
 (Go.IntKind.wrap Go.IntKind.i64
 (Go.IntKind.wrap Go.IntKind.i64 (Go.IntKind.wrap Go.IntKind.i64 ((12 : Int) * Go.IntKind.wrap Go.IntKind.i64 (y_1 - y)) + m_1) - m) -
 (1 : Int))),
 Go.Value.bool Bool.true]))
 (17 : Nat))
 (Go.Pe.bsel (d_1 == d)
 (Go.Pe.bsel
 (Decidable.decide
 (Int.tmod
 (Go.IntKind.wrap Go.IntKind.i64
 (Go.IntKind.wrap Go.IntKind.i64 (Go.IntKind.wrap Go.IntKind.i64 (Go.IntKind.wrap Go.IntKind.i64 ((86400 : Int) * N y2 m2 d2) + s2) - o2) + o))
 (86400 : Int) <
 s))
 (K
 (Go.Value.tuple
 (Array.mk
 [Go.Value.int Go.IntKind.i64
 (Go.IntKind.wrap Go.IntKind.i64
 (Go.IntKind.wrap Go.IntKind.i64
 (Go.IntKind.wrap Go.IntKind.i64 (Go.IntKind.wrap Go.IntKind.i64 ((12 : Int) * Go.IntKind.wrap Go.IntKind.i64 (y_1 - y)) + m_1) - m) -
 (1 : Int))),
 Go.Value.bool Bool.true]))
 (17 : Nat))
 (K
 (Go.Value.tuple
 (Array.mk
 [Go.Value.int Go.IntKind.i64
 (Go.IntKind.wrap Go.IntKind.i64
 (Go.IntKind.wrap Go.IntKind.i64 (Go.IntKind.wrap Go.IntKind.i64 ((12 : Int) * Go.IntKind.wrap Go.IntKind.i64 (y_1 - y)) + m_1) - m)),
 Go.Value.bool Bool.true]))
 (17 : Nat)))
 (K
 (Go.Value.tuple
 (Array.mk
 [Go.Value.int Go.IntKind.i64
 (Go.IntKind.wrap Go.IntKind.i64
 (Go.IntKind.wrap Go.IntKind.i64 (Go.IntKind.wrap Go.IntKind.i64 ((12 : Int) * Go.IntKind.wrap Go.IntKind.i64 (y_1 - y)) + m_1) - m)),
 Go.Value.bool Bool.true]))
 (17 : Nat)))) ∧
 K (Go.Value.tuple (Array.mk [Go.Value.int Go.IntKind.i64 (Int.ofNat (0 : Nat)), Go.Value.bool Bool.false])) (17 : Nat)))))) ∧
 (z ≠ z → K (Go.Value.tuple (Array.mk [Go.Value.int Go.IntKind.i64 (Int.ofNat (0 : Nat)), Go.Value.bool Bool.false])) (18446744073709551616 : Nat))) := by kernel_rfl
theorem mb1_tree (K : Value → Nat → Prop) (N : Int → Int → Int → Int) (y m d s o y2 m2 d2 s2 o2 : Int) (z z2 : Bool) :
    funcK (env (rulesB N (ruleMB0 N))) 30 37 [momentC y m d s z o, momentC y2 m2 d2 s2 z2 o2] tabs Tryz.prog.globals.size (fun u _ _ mw => K u mw) =
  ((Go.Proofs.YteaebpmgbpnbeaaGreatDoor.dateOk y m d ∧
 Go.Proofs.YteaebpmgbpnbeaaGreatDoor.timeOk s z o ∧ Go.Proofs.YteaebpmgbpnbeaaGreatDoor.dateOk y2 m2 d2 ∧ Go.Proofs.YteaebpmgbpnbeaaGreatDoor.timeOk s2 z2 o2) ∧
 (z = z2 →
 Go.Pe.bsel (Decidable.decide (Go.Proofs.YteaebpmgbpnbeaaGreatDoor.inst N y2 m2 d2 s2 o2 - Go.Proofs.YteaebpmgbpnbeaaGreatDoor.inst N y m d s o < (0 : Int)))
 ((Go.Proofs.YteaebpmgbpnbeaaGreatDoor.dateOk y2 m2 d2 ∧
 Go.Proofs.YteaebpmgbpnbeaaGreatDoor.timeOk s2 z2 o2 ∧
 Go.Proofs.YteaebpmgbpnbeaaGreatDoor.dateOk y m d ∧
 Go.Proofs.YteaebpmgbpnbeaaGreatDoor.timeOk s z o ∧
 z2 = z ∧ Int.ofNat (0 : Nat) ≤ Go.Proofs.YteaebpmgbpnbeaaGreatDoor.inst N y m d s o - Go.Proofs.YteaebpmgbpnbeaaGreatDoor.inst N y2 m2 d2 s2 o2) ∧
 (∀ (k : Int),
 Go.Proofs.YteaebpmgbpnbeaaGreatDoor.monthsB k →
 K (Go.Value.tuple (Array.mk [Go.Value.int Go.IntKind.i64 (Go.IntKind.wrap Go.IntKind.i64 ((0 : Int) - k)), Go.Value.bool Bool.true])) (18446744073709551616 : Nat)) ∧
 K (Go.Value.tuple (Array.mk [Go.Value.int Go.IntKind.i64 (Int.ofNat (0 : Nat)), Go.Value.bool Bool.false])) (18446744073709551616 : Nat))
 (Go.Proofs.YteaebpmgbpnbeaaGreatDoor.dateOk y2 m2 d2 ∧
 Go.Proofs.YteaebpmgbpnbeaaGreatDoor.timeOk s2 z2 o2 ∧
 Go.Pe.bsel
 (Decidable.decide (Go.IntKind.wrap Go.IntKind.i64 (Go.IntKind.wrap Go.IntKind.i64 (Go.IntKind.wrap Go.IntKind.i64 ((86400 : Int) * N y2 m2 d2) + s2) - o2) < (-72057594037927936 : Int)))
 (K (Go.Value.tuple (Array.mk [Go.Value.int Go.IntKind.i64 (Int.ofNat (0 : Nat)), Go.Value.bool Bool.false])) (16 : Nat))
 (Go.Pe.bsel
 (Decidable.decide (Go.IntKind.wrap Go.IntKind.i64 (Go.IntKind.wrap Go.IntKind.i64 (Go.IntKind.wrap Go.IntKind.i64 ((86400 : Int) * N y2 m2 d2) + s2) - o2) > (72057594037927936 : Int)))
 (K (Go.Value.tuple (Array.mk [Go.Value.int Go.IntKind.i64 (Int.ofNat (0 : Nat)), Go.Value.bool Bool.false])) (16 : Nat))
 (Go.Proofs.YteaebpmgbpnbeaaGreatDoor.timeOk s z o ∧
 Go.Pe.bsel
 (Decidable.decide
 (Int.tmod
 (Go.IntKind.wrap Go.IntKind.i64 (Go.IntKind.wrap Go.IntKind.i64 (Go.IntKind.wrap Go.IntKind.i64 (Go.IntKind.wrap Go.IntKind.i64 ((86400 : Int) * N y2 m2 d2) + s2) - o2) + o))
 (86400 : Int) <
 (0 : Int)))
 ((∀ (y_1 m_1 d_1 : Int),
 Go.Proofs.YteaebpmgbpnbeaaGreatDoor.dateOk y_1 m_1 d_1 →
 Go.Pe.bsel (Decidable.decide (d_1 < d))
 (K
 (Go.Value.tuple
 (Array.mk
 [Go.Value.int Go.IntKind.i64
 (Go.IntKind.wrap Go.IntKind.i64
 (Go.IntKind.wrap Go.IntKind.i64
 (Go.IntKind.wrap Go.IntKind.i64 (Go.IntKind.wrap Go.IntKind.i64 ((12 : Int) * Go.IntKind.wrap Go.IntKind.i64 (y_1 - y)) + m_1) - m) -
 (1 : Int))),
 Go.Value.bool Bool.true]))
 (17 : Nat))
 (Go.Pe.bsel (d_1 == d)
 (Go.Pe.bsel
 (Decidable.decide
 (Go.IntKind.wrap Go.IntKind.i64
 (Int.tmod
 (Go.IntKind.wrap Go.IntKind.i64
 (Go.IntKind.wrap Go.IntKind.i64 (Go.IntKind.wrap Go.IntKind.i64 (Go.IntKind.wrap Go.IntKind.i64 ((86400 : Int) * N y2 m2 d2) + s2) - o2) + o))
 (86400 : Int) +
 (86400 : Int)) <
 s))
 (K
 (Go.Value.tuple
 (Array.mk
 [Go.Value.int Go.IntKind.i64
 (Go.IntKind.wrap Go.IntKind.i64
 (Go.IntKind.wrap Go.IntKind.i64
 (Go.IntKind.wrap Go.IntKind.i64 (Go.IntKind.wrap Go.IntKind.i64 ((12 : Int) * Go.IntKind.wrap Go.IntKind.i64 (y_1 - y)) + m_1) - m) -
 (1 : Int))),
 Go.Value.bool Bool.true]))
 (17 : Nat))
 (K
 (Go.Value.tuple
 (Array.mk
 [Go.Value.int Go.IntKind.i64
 (Go.IntKind.wrap Go.IntKind.i64
 (Go.IntKind.wrap Go.IntKind.i64 (Go.IntKind.wrap Go.IntKind.i64 ((12 : Int) * Go.IntKind.wrap Go.IntKind.i64 (y_1 - y)) + m_1) - m)),
 Go.Value.bool Bool.true]))
 (17 : Nat)))
 (K
 (Go.Value.tuple
 (Array.mk
 [Go.Value.int Go.IntKind.i64
 (Go.IntKind.wrap Go.IntKind.i64
 (Go.IntKind.wrap Go.IntKind.i64 (Go.IntKind.wrap Go.IntKind.i64 ((12 : Int) * Go.IntKind.wrap Go.IntKind.i64 (y_1 - y)) + m_1) - m)),
 Go.Value.bool Bool.true]))
 (17 : Nat)))) ∧
 K (Go.Value.tuple (Array.mk [Go.Value.int Go.IntKind.i64 (Int.ofNat (0 : Nat)), Go.Value.bool Bool.false])) (17 : Nat))
 ((∀ (y_1 m_1 d_1 : Int),
 Go.Proofs.YteaebpmgbpnbeaaGreatDoor.dateOk y_1 m_1 d_1 →
 Go.Pe.bsel (Decidable.decide (d_1 < d))
 (K
 (Go.Value.tuple
 (Array.mk
 [Go.Value.int Go.IntKind.i64
 (Go.IntKind.wrap Go.IntKind.i64
 (Go.IntKind.wrap Go.IntKind.i64
 (Go.IntKind.wrap Go.IntKind.i64 (Go.IntKind.wrap Go.IntKind.i64 ((12 : Int) * Go.IntKind.wrap Go.IntKind.i64 (y_1 - y)) + m_1) - m) -
 (1 : Int))),
 Go.Value.bool Bool.true]))
 (17 : Nat))
 (Go.Pe.bsel (d_1 == d)
 (Go.Pe.bsel
 (Decidable.decide
 (Int.tmod
 (Go.IntKind.wrap Go.IntKind.i64
 (Go.IntKind.wrap Go.IntKind.i64 (Go.IntKind.wrap Go.IntKind.i64 (Go.IntKind.wrap Go.IntKind.i64 ((86400 : Int) * N y2 m2 d2) + s2) - o2) + o))
 (86400 : Int) <
 s))
 (K
 (Go.Value.tuple
 (Array.mk
 [Go.Value.int Go.IntKind.i64
 (Go.IntKind.wrap Go.IntKind.i64
 (Go.IntKind.wrap Go.IntKind.i64
 (Go.IntKind.wrap Go.IntKind.i64 (Go.IntKind.wrap Go.IntKind.i64 ((12 : Int) * Go.IntKind.wrap Go.IntKind.i64 (y_1 - y)) + m_1) - m) -
 (1 : Int))),
 Go.Value.bool Bool.true]))
 (17 : Nat))
 (K
 (Go.Value.tuple
 (Array.mk
 [Go.Value.int Go.IntKind.i64
 (Go.IntKind.wrap Go.IntKind.i64
 (Go.IntKind.wrap Go.IntKind.i64 (Go.IntKind.wrap Go.IntKind.i64 ((12 : Int) * Go.IntKind.wrap Go.IntKind.i64 (y_1 - y)) + m_1) - m)),
 Go.Value.bool Bool.true]))
 (17 : Nat)))
 (K
 (Go.Value.tuple
 (Array.mk
 [Go.Value.int Go.IntKind.i64
 (Go.IntKind.wrap Go.IntKind.i64
 (Go.IntKind.wrap Go.IntKind.i64 (Go.IntKind.wrap Go.IntKind.i64 ((12 : Int) * Go.IntKind.wrap Go.IntKind.i64 (y_1 - y)) + m_1) - m)),
 Go.Value.bool Bool.true]))
 (17 : Nat)))) ∧
 K (Go.Value.tuple (Array.mk [Go.Value.int Go.IntKind.i64 (Int.ofNat (0 : Nat)), Go.Value.bool Bool.false])) (17 : Nat)))))) ∧
 (z ≠ z2 → K (Go.Value.tuple (Array.mk [Go.Value.int Go.IntKind.i64 (Int.ofNat (0 : Nat)), Go.Value.bool Bool.false])) (18446744073709551616 : Nat))) := by kernel_rfl

theorem later_e {base : World} {N : Int → Int → Int → Int} (hN : NumOk base N) {y m d s o : Int} {z : Bool} (n : Int) (hd : dateOk y m d) (ht : timeOk s z o) : MomE base 29 [momentC y m d s z o, .int .i64 n] := by
  obtain ⟨_, ⟨y, m, d, s, z, o, b, rfl, h⟩, t⟩ := tot_ofE (env_ok (rulesN_ok hN)) env_loops rfl (later_hk n hd ht) isMomB_pure (List.forall_mem_cons.2 ⟨by kernel_rfl, pure1 (by kernel_rfl)⟩)
  exact ⟨y, m, d, s, z, o, b, h, t⟩
theorem mmonths_e {base : World} {N : Int → Int → Int → Int} (hN : NumOk base N) {y m d s o : Int} {z : Bool} (n : Int) (ht : timeOk s z o) : MomE base 30 [momentC y m d s z o, .int .i64 n] := by
  obtain ⟨_, ⟨y, m, d, s, z, o, b, rfl, h⟩, t⟩ := tot_ofE (env_ok (rulesN_ok hN)) env_loops rfl (mmonths_hk n ht) isMomB_pure (List.forall_mem_cons.2 ⟨by kernel_rfl, pure1 (by kernel_rfl)⟩)
  exact ⟨y, m, d, s, z, o, b, h, t⟩
theorem dlater_e {base : World} {N : Int → Int → Int → Int} (hN : NumOk base N) {y m d : Int} (n : Int) (hd : dateOk y m d) : DayE base 31 [dateC y m d, .int .i64 n] := by
  obtain ⟨_, ⟨y, m, d, b, rfl, h⟩, t⟩ := tot_ofE (env_ok (rulesN_ok hN)) env_loops rfl (dlater_hk n hd) isDayB_pure (List.forall_mem_cons.2 ⟨by kernel_rfl, pure1 (by kernel_rfl)⟩)
  exact ⟨y, m, d, b, h, t⟩
theorem cmonths_e {base : World} {N : Int → Int → Int → Int} (hN : NumOk base N) {y m d : Int} (n : Int) : DayE base 32 [dateC y m d, .int .i64 n] := by
  obtain ⟨_, ⟨y, m, d, b, rfl, h⟩, t⟩ := tot_ofE (env_ok (rulesN_ok hN)) env_loops rfl (cmonths_hk y m d n) isDayB_pure (List.forall_mem_cons.2 ⟨by kernel_rfl, pure1 (by kernel_rfl)⟩)
  exact ⟨y, m, d, b, h, t⟩
theorem clater_e {base : World} {N : Int → Int → Int → Int} (hN : NumOk base N) {s o : Int} {z : Bool} (n : Int) (ht : timeOk s z o) : TimeE base 33 [timeC s z o, .int .i64 n] := by
  obtain ⟨_, ⟨s, z, o, k, rfl, h⟩, t⟩ := tot_ofE (env_ok (rulesN_ok hN)) env_loops rfl (clater_hk n ht) isTimeI_pure (List.forall_mem_cons.2 ⟨by kernel_rfl, pure1 (by kernel_rfl)⟩)
  exact ⟨s, z, o, k, h, t⟩
theorem cbetween_e {base : World} {s o s2 o2 : Int} {z z2 : Bool} : IntE base 36 [timeC s z o, timeC s2 z2 o2] := by
  obtain ⟨_, ⟨k, b, rfl⟩, t⟩ := tot_ofE (base := base) (env_ok (rules1_ok base)) env_loops rfl (cbetween_hk s o s2 o2 z z2) isIntB_pure (List.forall_mem_cons.2 ⟨by kernel_rfl, pure1 (by kernel_rfl)⟩)
  exact ⟨k, b, t⟩
theorem between_e {base : World} {N : Int → Int → Int → Int} (hN : NumOk base N) {y m d s o y2 m2 d2 s2 o2 : Int} {z z2 : Bool} (hd : dateOk y m d) (ht : timeOk s z o) (hd2 : dateOk y2 m2 d2) (ht2 : timeOk s2 z2 o2) : IntE base 34 [momentC y m d s z o, momentC y2 m2 d2 s2 z2 o2] := by
  obtain ⟨u, hu, t⟩ := between_tot hN hd ht hd2 ht2
  rcases hu with ⟨_, rfl⟩ | ⟨_, rfl⟩
  · exact ⟨_, _, t⟩
  · exact ⟨_, _, t⟩

theorem datesB_ok {base : World} {N : Int → Int → Int → Int} (hN : NumOk base N) : RuleOk Tryz.prog base 35 (ruleDatesB base) := ruleOk_of fun args T K hT hK => by
  split at hT
  · cases hT
    obtain ⟨⟨h1, h2⟩, hK⟩ := hK
    refine ⟨_, hK _ ?_, dbetween_tot hN h1 h2⟩
    obtain ⟨u, hu, t⟩ := between_tot hN h1 zero_time' h2 zero_time'
    rcases hu with ⟨_, rfl⟩ | ⟨h, _⟩
    · have e : ∀ y m d, inst N y m d 0 0 = inst N y m d 0 0 := fun _ _ _ => rfl
      exact t
    · exact absurd rfl h
  · cases hT



theorem mbB {y m d : Int} (hd : dateOk y m d) (y2 m2 d2 : Int) (h : dateOk y2 m2 d2) :
    monthsB (IntKind.wrap .i64 (IntKind.wrap .i64 (IntKind.wrap .i64 (12 * IntKind.wrap .i64 (y2 - y)) + m2) - m)) ∧
    monthsB (IntKind.wrap .i64 (IntKind.wrap .i64 (IntKind.wrap .i64 (IntKind.wrap .i64 (12 * IntKind.wrap .i64 (y2 - y)) + m2) - m) - 1)) := by
  obtain ⟨a1, a2, a3, a4, _, _⟩ := hd
  obtain ⟨b1, b2, b3, b4, _, _⟩ := h
  simp (disch := (unfold rng; omega)) only [wrap_i64]
  unfold monthsB
  omega

theorem mb0_hk {N : Int → Int → Int → Int} {y m d s o y2 m2 d2 s2 o2 : Int} {z : Bool} (hd : dateOk y m d) (ht : timeOk s z o) (hd2 : dateOk y2 m2 d2) (ht2 : timeOk s2 z o2) (hi : 0 ≤ inst N y2 m2 d2 s2 o2 - inst N y m d s o) :
    ReckE (env (rulesB N ruleWall)) 30 37 [momentC y m d s z o, momentC y2 m2 d2 s2 z o2] isMB := by
  have mb := mbB hd
  constructor
  rw [mb0_tree fun u mw => isMB u ∧ Tryz.prog.globals.size ≤ mw]
  refine ⟨⟨hd, ht, hd2, ht2⟩, fun _ => ?_, fun h => absurd rfl h⟩
  refine bsel_of (fun hb => absurd (of_decide_eq_true hb) (Int.not_lt.2 hi)) (fun hb => ⟨hd2, ht2, ?_⟩)
  repeat' (first
    | exact ⟨.inr rfl, Nat.le_of_ble_eq_true (by kernel_rfl)⟩
    | exact ⟨.inl ⟨_, rfl, (mb _ _ _ h3).1⟩, Nat.le_of_ble_eq_true (by kernel_rfl)⟩
    | exact ⟨.inl ⟨_, rfl, (mb _ _ _ h3).2⟩, Nat.le_of_ble_eq_true (by kernel_rfl)⟩
    | refine bsel_of (fun _ => ?_) (fun _ => ?_)
    | refine And.intro ht ?_
    | refine And.intro ?_ ?_
    | intro y3 m3 d3 h3)

theorem mb0_ok {base : World} {N : Int → Int → Int → Int} (hN : NumOk base N) : RuleOk Tryz.prog base 37 (ruleMB0 N) := ruleOk_of fun args T K hT hK => by
  split at hT
  · cases hT
    obtain ⟨⟨h1, h2, h3, h4, rfl, h5⟩, k1, k2⟩ := hK
    obtain ⟨u, hu, t⟩ := tot_ofE (env_ok (rulesB_ok hN wall_ok)) env_loops rfl (mb0_hk h1 h2 h3 h4 h5) isMB_pure (List.forall_mem_cons.2 ⟨by kernel_rfl, pure1 (by kernel_rfl)⟩)
    rcases hu with ⟨k, rfl, hk⟩ | rfl
    · exact ⟨_, k1 k hk, t⟩
    · exact ⟨_, k2, t⟩
  · cases hT

theorem mb1_hk {N : Int → Int → Int → Int} {y m d s o y2 m2 d2 s2 o2 : Int} {z z2 : Bool} (hd : dateOk y m d) (ht : timeOk s z o) (hd2 : dateOk y2 m2 d2) (ht2 : timeOk s2 z2 o2) :
    ReckE (env (rulesB N (ruleMB0 N))) 30 37 [momentC y m d s z o, momentC y2 m2 d2 s2 z2 o2] isMB := by
  have mb := mbB hd
  constructor
  rw [mb1_tree fun u mw => isMB u ∧ Tryz.prog.globals.size ≤ mw]
  refine ⟨⟨hd, ht, hd2, ht2⟩, fun hz => ?_, fun _ => ⟨.inr rfl, Nat.le_of_ble_eq_true (by kernel_rfl)⟩⟩
  refine bsel_of (fun hb => ?_) (fun hb => ⟨hd2, ht2, ?_⟩)
  · have hb : inst N y2 m2 d2 s2 o2 - inst N y m d s o < 0 := of_decide_eq_true hb
    have hi : 0 ≤ inst N y m d s o - inst N y2 m2 d2 s2 o2 := by omega
    refine ⟨⟨hd2, ht2, hd, ht, hz.symm, hi⟩, fun k hk => ?_, ⟨.inr rfl, Nat.le_of_ble_eq_true (by kernel_rfl)⟩⟩
    unfold monthsB at hk
    refine ⟨.inl ⟨_, rfl, ?_⟩, Nat.le_of_ble_eq_true (by kernel_rfl)⟩
    rw [wrap_i64 _ (by unfold rng; omega)]
    unfold monthsB
    omega
  repeat' (first
    | exact ⟨.inr rfl, Nat.le_of_ble_eq_true (by kernel_rfl)⟩
    | exact ⟨.inl ⟨_, rfl, (mb _ _ _ h3).1⟩, Nat.le_of_ble_eq_true (by kernel_rfl)⟩
    | exact ⟨.inl ⟨_, rfl, (mb _ _ _ h3).2⟩, Nat.le_of_ble_eq_true (by kernel_rfl)⟩
    | refine bsel_of (fun _ => ?_) (fun _ => ?_)
    | refine And.intro ht ?_
    | refine And.intro ?_ ?_
    | intro y3 m3 d3 h3)

theorem mb_e {base : World} {N : Int → Int → Int → Int} (hN : NumOk base N) {y m d s o y2 m2 d2 s2 o2 : Int} {z z2 : Bool} (hd : dateOk y m d) (ht : timeOk s z o) (hd2 : dateOk y2 m2 d2) (ht2 : timeOk s2 z2 o2) : MbE base [momentC y m d s z o, momentC y2 m2 d2 s2 z2 o2] := by
  obtain ⟨u, hu, t⟩ := tot_ofE (env_ok (rulesB_ok hN (mb0_ok hN))) env_loops rfl (mb1_hk hd ht hd2 ht2) isMB_pure (List.forall_mem_cons.2 ⟨by kernel_rfl, pure1 (by kernel_rfl)⟩)
  rcases hu with ⟨k, rfl, hk⟩ | rfl
  · exact .inl ⟨k, hk, t⟩
  · exact .inr t


theorem tMbT_tree (K : Value → Nat → Prop) (base : World) (y m d s o : Int) (z : Bool) (y2 m2 d2 s2 o2 : Int) (z2 : Bool) (k : Int) :
    funcK (env (rulesX 37 [momentC y m d s z o, momentC y2 m2 d2 s2 z2 o2] (.tuple #[.int .i64 k, .bool true]))) 30 38 [momentV y m d s z o, momentV y2 m2 d2 s2 z2 o2] tabs Tryz.prog.globals.size (fun u _ _ mw => K u mw) =
  (Go.Proofs.YteaebpmgbpnbeaaGreatDoor.Same
 [Go.Value.agg
 (Array.mk [Go.Value.int Go.IntKind.i64 y, Go.Value.int Go.IntKind.i64 m, Go.Value.int Go.IntKind.i64 d, Go.Value.int Go.IntKind.i64 s, Go.Value.bool z, Go.Value.int Go.IntKind.i64 o]),
 Go.Value.agg
 (Array.mk [Go.Value.int Go.IntKind.i64 y2, Go.Value.int Go.IntKind.i64 m2, Go.Value.int Go.IntKind.i64 d2, Go.Value.int Go.IntKind.i64 s2, Go.Value.bool z2, Go.Value.int Go.IntKind.i64 o2])]
 [Go.Value.agg
 (Array.mk [Go.Value.int Go.IntKind.i64 y, Go.Value.int Go.IntKind.i64 m, Go.Value.int Go.IntKind.i64 d, Go.Value.int Go.IntKind.i64 s, Go.Value.bool z, Go.Value.int Go.IntKind.i64 o]),
 Go.Value.agg
 (Array.mk [Go.Value.int Go.IntKind.i64 y2, Go.Value.int Go.IntKind.i64 m2, Go.Value.int Go.IntKind.i64 d2, Go.Value.int Go.IntKind.i64 s2, Go.Value.bool z2, Go.Value.int Go.IntKind.i64 o2])] ∧
 (Go.Proofs.YteaebpmgbpnbeaaGreatDoor.spanOk k → K (Go.Value.agg (Array.mk [Go.Value.iface (132 : Nat) (Go.Value.int Go.IntKind.i64 k)])) (12 : Nat)) ∧
 (¬Go.Proofs.YteaebpmgbpnbeaaGreatDoor.spanOk k → K (Go.Value.agg (Array.mk [Go.Value.nilIface])) (12 : Nat))) := by kernel_rfl
theorem tMbT_hk (base : World) (y m d s o : Int) (z : Bool) (y2 m2 d2 s2 o2 : Int) (z2 : Bool) (k : Int) (hL : Tot base 37 [momentC y m d s z o, momentC y2 m2 d2 s2 z2 o2] (.tuple #[.int .i64 k, .bool true])) (hk : spanOk k) : ReckE (env (rulesX 37 [momentC y m d s z o, momentC y2 m2 d2 s2 z2 o2] (.tuple #[.int .i64 k, .bool true]))) 30 38 [momentV y m d s z o, momentV y2 m2 d2 s2 z2 o2] ((· = monthsV k)) := by
  constructor
  rw [tMbT_tree fun u mw => u = monthsV k ∧ Tryz.prog.globals.size ≤ mw]
  repeat' (first
    | exact ⟨rfl, Nat.le_of_ble_eq_true (by kernel_rfl)⟩
    | exact rfl
    | assumption
    | refine And.intro ?_ ?_
    | refine bsel_of (fun _ => ?_) (fun _ => ?_)
    | intro _)
  all_goals (exfalso; first | contradiction | (simp_all; done) | (simp_all; omega))
theorem tMbT  (base : World) (y m d s o : Int) (z : Bool) (y2 m2 d2 s2 o2 : Int) (z2 : Bool) (k : Int) (hL : Tot base 37 [momentC y m d s z o, momentC y2 m2 d2 s2 z2 o2] (.tuple #[.int .i64 k, .bool true])) (hk : spanOk k) : Tot base 38 [momentV y m d s z o, momentV y2 m2 d2 s2 z2 o2] (monthsV k) := tot_lit (rulesX_ok hL) (tMbT_hk base y m d s o z y2 m2 d2 s2 o2 z2 k hL hk) (by kernel_rfl) (by repeat' (first | refine List.forall_mem_cons.2 ⟨?_, ?_⟩ | exact (fun _ h => nomatch h) | assumption | kernel_rfl))
theorem tMbF_tree (K : Value → Nat → Prop) (base : World) (y m d s o : Int) (z : Bool) (y2 m2 d2 s2 o2 : Int) (z2 : Bool) :
    funcK (env (rulesX 37 [momentC y m d s z o, momentC y2 m2 d2 s2 z2 o2] (.tuple #[.int .i64 0, .bool false]))) 30 38 [momentV y m d s z o, momentV y2 m2 d2 s2 z2 o2] tabs Tryz.prog.globals.size (fun u _ _ mw => K u mw) =
  (Go.Proofs.YteaebpmgbpnbeaaGreatDoor.Same
 [Go.Value.agg
 (Array.mk [Go.Value.int Go.IntKind.i64 y, Go.Value.int Go.IntKind.i64 m, Go.Value.int Go.IntKind.i64 d, Go.Value.int Go.IntKind.i64 s, Go.Value.bool z, Go.Value.int Go.IntKind.i64 o]),
 Go.Value.agg
 (Array.mk [Go.Value.int Go.IntKind.i64 y2, Go.Value.int Go.IntKind.i64 m2, Go.Value.int Go.IntKind.i64 d2, Go.Value.int Go.IntKind.i64 s2, Go.Value.bool z2, Go.Value.int Go.IntKind.i64 o2])]
 [Go.Value.agg
 (Array.mk [Go.Value.int Go.IntKind.i64 y, Go.Value.int Go.IntKind.i64 m, Go.Value.int Go.IntKind.i64 d, Go.Value.int Go.IntKind.i64 s, Go.Value.bool z, Go.Value.int Go.IntKind.i64 o]),
 Go.Value.agg
 (Array.mk [Go.Value.int Go.IntKind.i64 y2, Go.Value.int Go.IntKind.i64 m2, Go.Value.int Go.IntKind.i64 d2, Go.Value.int Go.IntKind.i64 s2, Go.Value.bool z2, Go.Value.int Go.IntKind.i64 o2])] ∧
 K (Go.Value.agg (Array.mk [Go.Value.nilIface])) (12 : Nat)) := by kernel_rfl
theorem tMbF_hk (base : World) (y m d s o : Int) (z : Bool) (y2 m2 d2 s2 o2 : Int) (z2 : Bool) (hL : Tot base 37 [momentC y m d s z o, momentC y2 m2 d2 s2 z2 o2] (.tuple #[.int .i64 0, .bool false])) : ReckE (env (rulesX 37 [momentC y m d s z o, momentC y2 m2 d2 s2 z2 o2] (.tuple #[.int .i64 0, .bool false]))) 30 38 [momentV y m d s z o, momentV y2 m2 d2 s2 z2 o2] ((· = nullV)) := by
  constructor
  rw [tMbF_tree fun u mw => u = nullV ∧ Tryz.prog.globals.size ≤ mw]
  repeat' (first
    | exact ⟨rfl, Nat.le_of_ble_eq_true (by kernel_rfl)⟩
    | exact rfl
    | assumption
    | refine And.intro ?_ ?_
    | refine bsel_of (fun _ => ?_) (fun _ => ?_)
    | intro _)
  all_goals (exfalso; first | contradiction | (simp_all; done) | (simp_all; omega))
theorem tMbF  (base : World) (y m d s o : Int) (z : Bool) (y2 m2 d2 s2 o2 : Int) (z2 : Bool) (hL : Tot base 37 [momentC y m d s z o, momentC y2 m2 d2 s2 z2 o2] (.tuple #[.int .i64 0, .bool false])) : Tot base 38 [momentV y m d s z o, momentV y2 m2 d2 s2 z2 o2] (nullV) := tot_lit (rulesX_ok hL) (tMbF_hk base y m d s o z y2 m2 d2 s2 o2 z2 hL) (by kernel_rfl) (by repeat' (first | refine List.forall_mem_cons.2 ⟨?_, ?_⟩ | exact (fun _ h => nomatch h) | assumption | kernel_rfl))

end Go.Proofs.YteaebpmgbpnbeaaGreatDoor
