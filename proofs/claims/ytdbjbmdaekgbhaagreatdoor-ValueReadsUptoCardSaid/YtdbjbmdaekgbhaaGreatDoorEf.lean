/-
  Whole numbers as values; what a law asks of simple values: a whole number, a text, the same.
-/
import Derived.Test.YtdbjbmdaekgbhaaGreatDoorEcA
namespace Go.Proofs.YtdbjbmdaekgbhaaGreatDoor
open Go Go.Pe Go.RowKit

theorem wrap_u64 (x : Int) : IntKind.wrap .u64 x = x % 18446744073709551616 := by simp [IntKind.wrap, IntKind.bits, IntKind.signed]

theorem listEq_refl : ∀ l : List UInt8, listEq l l = true := by
  intro l
  induction l with
  | nil => rfl
  | cons a l ih => simp [listEq, ih]

theorem strEq_refl (s : ByteArray) : strEq s s = true := listEq_refl _

def ruleDecInt : Rule := rule1 fun args => match args with
  | [.int .i64 x] => some fun K => rng x ∧ K (decC (decide (x < 0)) 0 (x.natAbs : Int) 0)
  | _ => none

def ruleInt : Rule := rule1 fun args => match args with
  | [.int .i64 x] => some fun K => rng x ∧ K (intV x)
  | _ => none

def rules3 : List (Nat × Rule) := (99, ruleDecInt) :: rules2
def rules4 : List (Nat × Rule) := (80, ruleInt) :: rules3

theorem decInt_tree (K : Value → Nat → Prop) (x : Int) :
 funcK (env rules2) 30 99 [.int .i64 x] tabs Tryz.prog.globals.size (fun u _ _ mw => K u mw) =
 (bsel (decide (x < (0 : Int)))
 (bsel (decide (x < (0 : Int)))
 (K
 (Value.agg
 (Array.mk
 [Value.bool true, Value.int .u64 (Int.ofNat (0 : Nat)), Value.int .u64 (IntKind.wrap .u64 ((0 : Int) - IntKind.wrap .u64 x)),
 Value.int .i64 (Int.ofNat (0 : Nat))]))
 (10 : Nat))
 (K
 (Value.agg
 (Array.mk
 [Value.bool false, Value.int .u64 (Int.ofNat (0 : Nat)), Value.int .u64 (IntKind.wrap .u64 ((0 : Int) - IntKind.wrap .u64 x)),
 Value.int .i64 (Int.ofNat (0 : Nat))]))
 (10 : Nat)))
 (bsel (decide (x < (0 : Int)))
 (K
 (Value.agg
 (Array.mk
 [Value.bool true, Value.int .u64 (Int.ofNat (0 : Nat)), Value.int .u64 (IntKind.wrap .u64 x),
 Value.int .i64 (Int.ofNat (0 : Nat))]))
 (10 : Nat))
 (K
 (Value.agg
 (Array.mk
 [Value.bool false, Value.int .u64 (Int.ofNat (0 : Nat)), Value.int .u64 (IntKind.wrap .u64 x),
 Value.int .i64 (Int.ofNat (0 : Nat))]))
 (10 : Nat)))) := by kernel_rfl
theorem int_tree (K : Value → Nat → Prop) (x : Int) :
 funcK (env rules3) 30 80 [.int .i64 x] tabs Tryz.prog.globals.size (fun u _ _ mw => K u mw) =
 (rng x ∧
 bsel (decide (x < (0 : Int)))
 (bsel ((↑(Int.natAbs x) : Int) == (0 : Int)) (K (Value.agg (Array.mk [Value.nilIface])) (10 : Nat))
 (K
 (Value.agg
 (Array.mk
 [Value.iface (123 : Nat)
 (Value.agg
 (Array.mk
 [Value.bool (decide (x < (0 : Int))), Value.int .u64 (Int.ofNat (0 : Nat)), Value.int .u64 (Int.ofNat (Int.natAbs x)),
 Value.int .i64 (Int.ofNat (0 : Nat))]))]))
 (10 : Nat)))
 (K
 (Value.agg
 (Array.mk
 [Value.iface (123 : Nat)
 (Value.agg
 (Array.mk
 [Value.bool (decide (x < (0 : Int))), Value.int .u64 (Int.ofNat (0 : Nat)), Value.int .u64 (Int.ofNat (Int.natAbs x)),
 Value.int .i64 (Int.ofNat (0 : Nat))]))]))
 (10 : Nat))) := by kernel_rfl
theorem decInt_hk {x : Int} (h : rng x) : Reck rules2 30 99 [.int .i64 x] tabs (decC (decide (x < 0)) 0 (x.natAbs : Int) 0) := by
  constructor
  rw [decInt_tree fun u mw => u = decC (decide (x < 0)) 0 (x.natAbs : Int) 0 ∧ Tryz.prog.globals.size ≤ mw]
  unfold rng at h
  refine bsel_of (fun h1 => bsel_of (fun h2 => ?_) (fun h2 => ?_)) (fun h1 => bsel_of (fun h2 => ?_) (fun h2 => ?_))
  · refine ⟨?_, Nat.le_of_ble_eq_true (by kernel_rfl)⟩
    rw [h1]
    simp only [decide_eq_true_eq] at h1
    have e : IntKind.wrap .u64 (0 - IntKind.wrap .u64 x) = (x.natAbs : Int) := by simp only [wrap_u64]; omega
    rw [e]
    rfl
  · rw [h1] at h2; cases h2
  · rw [h1] at h2; cases h2
  · refine ⟨?_, Nat.le_of_ble_eq_true (by kernel_rfl)⟩
    rw [h1]
    simp only [decide_eq_false_iff_not] at h1
    have e : IntKind.wrap .u64 x = (x.natAbs : Int) := by simp only [wrap_u64]; omega
    rw [e]
    rfl

theorem int_hk {x : Int} (h : rng x) : Reck rules3 30 80 [.int .i64 x] tabs (intV x) := by
  constructor
  rw [int_tree fun u mw => u = intV x ∧ Tryz.prog.globals.size ≤ mw]
  refine ⟨h, bsel_of (fun h1 => bsel_of (fun h2 => ?_) (fun h2 => ?_)) (fun h1 => ?_)⟩
  · simp at h1 h2
    omega
  · exact ⟨rfl, Nat.le_of_ble_eq_true (by kernel_rfl)⟩
  · exact ⟨rfl, Nat.le_of_ble_eq_true (by kernel_rfl)⟩

theorem decInt_ok (base : World) : RuleOk Tryz.prog base 99 ruleDecInt := ruleOk_of fun args T K hT hK => by
  split at hT
  · cases hT
    exact ⟨_, hK.2, tot_reck (rules2_ok base) (decInt_hk hK.1) (by kernel_rfl) (pure1 (by kernel_rfl))⟩
  · cases hT

theorem rules3_ok (base : World) : ∀ x ∈ rules3, RuleOk Tryz.prog base x.1 x.2 := List.forall_mem_cons.2 ⟨decInt_ok base, rules2_ok base⟩

theorem int_ok (base : World) : RuleOk Tryz.prog base 80 ruleInt := ruleOk_of fun args T K hT hK => by
  split at hT
  · cases hT
    exact ⟨_, hK.2, tot_reck (rules3_ok base) (int_hk hK.1) (by kernel_rfl) (pure1 (by kernel_rfl))⟩
  · cases hT

theorem rules4_ok (base : World) : ∀ x ∈ rules4, RuleOk Tryz.prog base x.1 x.2 := List.forall_mem_cons.2 ⟨int_ok base, rules3_ok base⟩

end Go.Proofs.YtdbjbmdaekgbhaaGreatDoor
