/-
  Days and times that there are.
-/
import Derived.Test.YtdbjbmdaekgbhaaGreatDoorEa
namespace Go.Proofs.YtdbjbmdaekgbhaaGreatDoor
open Go Go.Pe Go.RowKit

theorem may_tree (K : Value → Heap → Nat → Nat → Prop) (y m d : Int) :
    funcK (env rules0) 30 120 [.agg ⟨[.int .i64 y, .int .i64 m, .int .i64 d]⟩] [] Tryz.prog.globals.size K =
  (bsel (decide (y ≥ (-999999999 : Int)))
 (bsel (decide (y ≤ (999999999 : Int)))
 (bsel (decide (d ≥ (1 : Int)))
 (bsel (m == (1 : Int))
 (bsel (decide (d ≤ (31 : Int))) (K (Value.bool Bool.true) [] (11 : Nat) (18446744073709551616 : Nat))
 (K (Value.bool Bool.false) [] (11 : Nat) (18446744073709551616 : Nat)))
 (bsel (m == (3 : Int))
 (bsel (decide (d ≤ (31 : Int))) (K (Value.bool Bool.true) [] (11 : Nat) (18446744073709551616 : Nat))
 (K (Value.bool Bool.false) [] (11 : Nat) (18446744073709551616 : Nat)))
 (bsel (m == (5 : Int))
 (bsel (decide (d ≤ (31 : Int))) (K (Value.bool Bool.true) [] (11 : Nat) (18446744073709551616 : Nat))
 (K (Value.bool Bool.false) [] (11 : Nat) (18446744073709551616 : Nat)))
 (bsel (m == (7 : Int))
 (bsel (decide (d ≤ (31 : Int))) (K (Value.bool Bool.true) [] (11 : Nat) (18446744073709551616 : Nat))
 (K (Value.bool Bool.false) [] (11 : Nat) (18446744073709551616 : Nat)))
 (bsel (m == (8 : Int))
 (bsel (decide (d ≤ (31 : Int))) (K (Value.bool Bool.true) [] (11 : Nat) (18446744073709551616 : Nat))
 (K (Value.bool Bool.false) [] (11 : Nat) (18446744073709551616 : Nat)))
 (bsel (m == (10 : Int))
 (bsel (decide (d ≤ (31 : Int))) (K (Value.bool Bool.true) [] (11 : Nat) (18446744073709551616 : Nat))
 (K (Value.bool Bool.false) [] (11 : Nat) (18446744073709551616 : Nat)))
 (bsel (m == (12 : Int))
 (bsel (decide (d ≤ (31 : Int))) (K (Value.bool Bool.true) [] (11 : Nat) (18446744073709551616 : Nat))
 (K (Value.bool Bool.false) [] (11 : Nat) (18446744073709551616 : Nat)))
 (bsel (m == (4 : Int))
 (bsel (decide (d ≤ (30 : Int))) (K (Value.bool Bool.true) [] (11 : Nat) (18446744073709551616 : Nat))
 (K (Value.bool Bool.false) [] (11 : Nat) (18446744073709551616 : Nat)))
 (bsel (m == (6 : Int))
 (bsel (decide (d ≤ (30 : Int))) (K (Value.bool Bool.true) [] (11 : Nat) (18446744073709551616 : Nat))
 (K (Value.bool Bool.false) [] (11 : Nat) (18446744073709551616 : Nat)))
 (bsel (m == (9 : Int))
 (bsel (decide (d ≤ (30 : Int))) (K (Value.bool Bool.true) [] (11 : Nat) (18446744073709551616 : Nat))
 (K (Value.bool Bool.false) [] (11 : Nat) (18446744073709551616 : Nat)))
 (bsel (m == (11 : Int))
 (bsel (decide (d ≤ (30 : Int))) (K (Value.bool Bool.true) [] (11 : Nat) (18446744073709551616 : Nat))
 (K (Value.bool Bool.false) [] (11 : Nat) (18446744073709551616 : Nat)))
 (bsel (m == (2 : Int))
 (bsel (Int.tmod y (4 : Int) == (0 : Int))
 (bsel (Int.tmod y (100 : Int) != (0 : Int))
 (bsel (decide (d ≤ (29 : Int))) (K (Value.bool Bool.true) [] (11 : Nat) (18446744073709551616 : Nat))
 (K (Value.bool Bool.false) [] (11 : Nat) (18446744073709551616 : Nat)))
 (bsel (Int.tmod y (400 : Int) == (0 : Int))
 (bsel (decide (d ≤ (29 : Int))) (K (Value.bool Bool.true) [] (11 : Nat) (18446744073709551616 : Nat))
 (K (Value.bool Bool.false) [] (11 : Nat) (18446744073709551616 : Nat)))
 (bsel (decide (d ≤ (28 : Int))) (K (Value.bool Bool.true) [] (11 : Nat) (18446744073709551616 : Nat))
 (K (Value.bool Bool.false) [] (11 : Nat) (18446744073709551616 : Nat)))))
 (bsel (decide (d ≤ (28 : Int))) (K (Value.bool Bool.true) [] (11 : Nat) (18446744073709551616 : Nat))
 (K (Value.bool Bool.false) [] (11 : Nat) (18446744073709551616 : Nat))))
 (bsel (decide (d ≤ (0 : Int))) (K (Value.bool Bool.true) [] (11 : Nat) (18446744073709551616 : Nat))
 (K (Value.bool Bool.false) [] (11 : Nat) (18446744073709551616 : Nat)))))))))))))))
 (K (Value.bool Bool.false) [] (11 : Nat) (18446744073709551616 : Nat)))
 (K (Value.bool Bool.false) [] (11 : Nat) (18446744073709551616 : Nat)))
 (K (Value.bool Bool.false) [] (11 : Nat) (18446744073709551616 : Nat))) := by kernel_rfl
theorem tmay_tree (K : Value → Heap → Nat → Nat → Prop) (s o : Int) (z : Bool) :
    funcK (env rules0) 30 122 [.agg ⟨[.int .i64 s, .bool z, .int .i64 o]⟩] [] Tryz.prog.globals.size K =
  (bsel (decide (s ≥ (0 : Int)))
 (bsel (decide (s < (86400 : Int)))
 (bsel (decide (o ≥ (-64800 : Int)))
 (bsel (decide (o ≤ (64800 : Int)))
 (bsel z (K (Value.bool Bool.true) [] (11 : Nat) (18446744073709551616 : Nat))
 (bsel (o == (0 : Int)) (K (Value.bool Bool.true) [] (11 : Nat) (18446744073709551616 : Nat)) (K (Value.bool Bool.false) [] (11 : Nat) (18446744073709551616 : Nat))))
 (K (Value.bool Bool.false) [] (11 : Nat) (18446744073709551616 : Nat)))
 (K (Value.bool Bool.false) [] (11 : Nat) (18446744073709551616 : Nat)))
 (K (Value.bool Bool.false) [] (11 : Nat) (18446744073709551616 : Nat)))
 (K (Value.bool Bool.false) [] (11 : Nat) (18446744073709551616 : Nat))) := by kernel_rfl

/-- A year that is a leap year; how long a month is; a day that there is; a time that there is. -/
def leapF (y : Int) : Bool := Int.tmod y 4 == 0 && (Int.tmod y 100 != 0 || Int.tmod y 400 == 0)
def lenF (y m : Int) : Int := if m = 2 then (if leapF y = true then 29 else 28) else if m = 4 ∨ m = 6 ∨ m = 9 ∨ m = 11 then 30 else 31
def dateOk (y m d : Int) : Prop := -999999999 ≤ y ∧ y ≤ 999999999 ∧ 1 ≤ m ∧ m ≤ 12 ∧ 1 ≤ d ∧ d ≤ lenF y m
def timeOk (s : Int) (z : Bool) (o : Int) : Prop := 0 ≤ s ∧ s < 86400 ∧ -64800 ≤ o ∧ o ≤ 64800 ∧ (z = false → o = 0)

/-- What the evaluator comes to. -/
structure Reck (rules : List (Nat × Rule)) (d : Nat) (f : FuncId) (args : List Value) (h0 : Heap) (v : Value) : Prop where
  out : funcK (env rules) d f args h0 Tryz.prog.globals.size (fun u _ _ mw => u = v ∧ Tryz.prog.globals.size ≤ mw)

theorem globals_big : Tryz.prog.globals.size ≤ 18446744073709551616 := Nat.le_of_ble_eq_true (by kernel_rfl)

theorem may_hk {y m d : Int} (h : dateOk y m d) : Reck rules0 30 120 [.agg ⟨[.int .i64 y, .int .i64 m, .int .i64 d]⟩] [] (.bool true) := by
  constructor
  rw [may_tree]
  obtain ⟨h1, h2, h3, h4, h5, h6⟩ := h
  unfold lenF leapF at h6
  generalize Int.tmod y 4 = a at *
  generalize Int.tmod y 100 = b at *
  generalize Int.tmod y 400 = c at *
  repeat' (refine bsel_of (fun _ => ?_) (fun _ => ?_))
  all_goals first
    | exact ⟨rfl, globals_big⟩
    | (exfalso
       simp only [decide_eq_true_eq, decide_eq_false_iff_not, beq_iff_eq, beq_eq_false_iff_ne, bne_iff_ne, bne_eq_false_iff_eq, Bool.and_eq_true, Bool.or_eq_true, ne_eq, ge_iff_le] at *
       split at h6 <;> (try split at h6) <;> omega)

theorem tmay_hk {s o : Int} {z : Bool} (h : timeOk s z o) : Reck rules0 30 122 [.agg ⟨[.int .i64 s, .bool z, .int .i64 o]⟩] [] (.bool true) := by
  constructor
  rw [tmay_tree]
  obtain ⟨h1, h2, h3, h4, h5⟩ := h
  repeat' (refine bsel_of (fun _ => ?_) (fun _ => ?_))
  all_goals first
    | exact ⟨rfl, globals_big⟩
    | (exfalso
       simp only [decide_eq_true_eq, decide_eq_false_iff_not, beq_eq_false_iff_ne, ge_iff_le] at *
       first | omega | (have := h5 (by assumption); omega))

/-- What is reckoned once, told everywhere. -/
theorem rule_sem {rules : List (Nat × Rule)} {base : World} (hr : ∀ x ∈ rules, RuleOk Tryz.prog base x.1 x.2) {E : Env} (hE : E.P = Tryz.prog) {d : Nat} {f : FuncId} {args : List Value} {v : Value} {h0 : Heap}
    (hk : Reck rules d f args h0 v) (hv : pureV 6 v = true) (ha : ∀ x ∈ args, pureV 6 x = true) (hh0 : HWF (· < Tryz.prog.globals.size) h0)
    {h : Heap} (hs : Sub h0 h) (n : Nat) : FuncSem E base f args h n v h n big :=
  (sem_of_funcK (env_ok hr) env_loops hk.out hv ha hh0 (Nat.le_refl _) hs n).env hE

theorem pure1 {v : Value} (h : pureV 6 v = true) : ∀ x ∈ [v], pureV 6 x = true := fun x hx => by rw [List.mem_singleton.1 hx]; exact h

theorem hwf_nil (n : Nat) : HWF (· < n) [] := fun k b hb => by simp [getBlk] at hb

def ruleMay : Rule := fun args h n => match args with
  | [.agg ⟨[.int .i64 y, .int .i64 m, .int .i64 d]⟩] => some fun K => dateOk y m d ∧ K (.bool true) h n big
  | _ => none

def ruleTMay : Rule := fun args h n => match args with
  | [.agg ⟨[.int .i64 s, .bool z, .int .i64 o]⟩] => some fun K => timeOk s z o ∧ K (.bool true) h n big
  | _ => none

theorem may_ok (base : World) : RuleOk Tryz.prog base 120 ruleMay := by
  intro E hE args h n T K hT hK
  unfold ruleMay at hT
  split at hT
  · cases hT
    obtain ⟨hd, hK⟩ := hK
    have h1 := may_hk hd
    have hr := rules0_ok base
    exact ⟨.bool true, h, n, big, hK, rule_sem hr hE h1 (by kernel_rfl) (pure1 (by kernel_rfl)) (hwf_nil _) (Sub.nil h) n⟩
  · cases hT

theorem tmay_ok (base : World) : RuleOk Tryz.prog base 122 ruleTMay := by
  intro E hE args h n T K hT hK
  unfold ruleTMay at hT
  split at hT
  · cases hT
    obtain ⟨hd, hK⟩ := hK
    have h1 := tmay_hk hd
    have hr := rules0_ok base
    exact ⟨.bool true, h, n, big, hK, rule_sem hr hE h1 (by kernel_rfl) (pure1 (by kernel_rfl)) (hwf_nil _) (Sub.nil h) n⟩
  · cases hT

end Go.Proofs.YtdbjbmdaekgbhaaGreatDoor
