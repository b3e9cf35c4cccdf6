/-
  Days, times, moments and lengths of time, each told plainly as a text.
-/
import Derived.Test.YtdbjbmdaekgbhaaGreatDoorEiA
import Derived.Test.YtdbjbmdaekgbhaaGreatDoorPeP1
import Derived.Test.YtdbjbmdaekgbhaaGreatDoorSh
import Derived.Lib.ItoaLen
import Derived.Lib.AppendIntMem
namespace Go.Proofs.YtdbjbmdaekgbhaaGreatDoor
open Go Go.Pe Go.RowKit

def ruleItoa : Rule := rule1 fun args => match args with
  | [.int .i64 n] => some fun K => rng n ∧ (∀ a, K (.string ⟨⟨[a]⟩⟩)) ∧ (∀ a b, K (.string ⟨⟨[a, b]⟩⟩)) ∧ (∀ a b c, K (.string ⟨⟨[a, b, c]⟩⟩)) ∧ ∀ (a b c d : UInt8) (l : List UInt8), l.length ≤ 18 → K (.string ⟨⟨a :: b :: c :: d :: l⟩⟩)
  | _ => none

def rulePadded : Rule := rule1 fun args => match args with
  | [.int .i64 n, .int .i64 w] => some fun K => rng n ∧ (w = 2 ∨ w = 4) ∧ ∀ s, strLen s ≤ 24 → K (.string s)
  | _ => none

def rulePiece : Rule := rule1 fun args => match args with
  | [.int .i64 n, .string l] => some fun K => rng n ∧ strLen l ≤ 1 ∧ ∀ s, strLen s ≤ 24 → K (.string s)
  | _ => none

def rulesT1 : List (Nat × Rule) := (133, ruleItoa) :: rules4
def rulesT2 : List (Nat × Rule) := (135, rulePadded) :: (139, rulePiece) :: rules4

theorem padded2_tree (K : Value → Nat → Prop) (n : Int) :
 funcK (envN 5 rulesT1) 30 135 [.int .i64 n, .int .i64 2] tabs Tryz.prog.globals.size (fun u _ _ mw => K u mw) =
 (rng n ∧
 (∀ (a : UInt8), K (Value.string (strCat (ByteArray.mk #[(48 : UInt8)]) (ByteArray.mk (Array.mk [a])))) big) ∧
 (∀ (a b : UInt8), K (Value.string (ByteArray.mk (Array.mk [a, b]))) big) ∧
 (∀ (a b c : UInt8), K (Value.string (ByteArray.mk (Array.mk [a, b, c]))) big) ∧
 ∀ (a b c d : UInt8) (l : List UInt8), List.length l ≤ (18 : Nat) → K (Value.string (ByteArray.mk (Array.mk (a :: b :: c :: d :: l)))) big) := by kernel_rfl
theorem padded4_tree (K : Value → Nat → Prop) (n : Int) :
 funcK (envN 5 rulesT1) 30 135 [.int .i64 n, .int .i64 4] tabs Tryz.prog.globals.size (fun u _ _ mw => K u mw) =
 (rng n ∧
 (∀ (a : UInt8),
 K (Value.string (strCat (ByteArray.mk #[(48 : UInt8)]) (strCat (ByteArray.mk #[(48 : UInt8)]) (strCat (ByteArray.mk #[(48 : UInt8)]) (ByteArray.mk (Array.mk [a]))))))
 big) ∧
 (∀ (a b : UInt8), K (Value.string (strCat (ByteArray.mk #[(48 : UInt8)]) (strCat (ByteArray.mk #[(48 : UInt8)]) (ByteArray.mk (Array.mk [a, b]))))) big) ∧
 (∀ (a b c : UInt8), K (Value.string (strCat (ByteArray.mk #[(48 : UInt8)]) (ByteArray.mk (Array.mk [a, b, c])))) big) ∧
 ∀ (a b c d : UInt8) (l : List UInt8), List.length l ≤ (18 : Nat) → K (Value.string (ByteArray.mk (Array.mk (a :: b :: c :: d :: l)))) big) := by kernel_rfl
theorem gpiece_tree (K : Value → Nat → Prop) (n : Int) (l : ByteArray) :
 funcK (env rulesT1) 30 139 [.int .i64 n, .string l] tabs Tryz.prog.globals.size (fun u _ _ mw => K u mw) =
 (bsel (n == (0 : Int)) (K (Value.string (ByteArray.mk #[])) big)
 (rng n ∧
 (∀ (a : UInt8),
 bsel (Nat.ble ((1 : Nat) + strLen l) (9223372036854775807 : Nat)) (K (Value.string (strCat (ByteArray.mk (Array.mk [a])) l)) big) False) ∧
 (∀ (a b : UInt8),
 bsel (Nat.ble ((2 : Nat) + strLen l) (9223372036854775807 : Nat)) (K (Value.string (strCat (ByteArray.mk (Array.mk [a, b])) l)) big) False) ∧
 (∀ (a b c : UInt8),
 bsel (Nat.ble ((3 : Nat) + strLen l) (9223372036854775807 : Nat)) (K (Value.string (strCat (ByteArray.mk (Array.mk [a, b, c])) l)) big)
 False) ∧
 ∀ (a b c d : UInt8) (l_1 : List UInt8),
 List.length l_1 ≤ (18 : Nat) →
 bsel (Nat.ble (strLen (ByteArray.mk (Array.mk (a :: b :: c :: d :: l_1))) + strLen l) (9223372036854775807 : Nat))
 (K (Value.string (strCat (ByteArray.mk (Array.mk (a :: b :: c :: d :: l_1))) l)) big) False)) := by kernel_rfl
theorem ldate_tree (K : Value → Nat → Prop) (y m d : Int) :
 funcK (env rulesT2) 30 50 [dateC y m d] tabs Tryz.prog.globals.size (fun u _ _ mw => K u mw) =
 (dateOk y m d ∧
 bsel (decide (y < (0 : Int)))
 (rng (IntKind.wrap .i64 ((0 : Int) - y)) ∧
 (Int.ofNat (4 : Nat) = Int.ofNat (2 : Nat) ∨ Int.ofNat (4 : Nat) = Int.ofNat (4 : Nat)) ∧
 ∀ (s : ByteArray),
 strLen s ≤ (24 : Nat) →
 bsel (Nat.ble ((1 : Nat) + strLen s) (9223372036854775807 : Nat))
 (bsel (Nat.ble (strLen (strCat (ByteArray.mk #[(45 : UInt8)]) s) + (1 : Nat)) (9223372036854775807 : Nat))
 (rng m ∧
 (Int.ofNat (2 : Nat) = Int.ofNat (2 : Nat) ∨ Int.ofNat (2 : Nat) = Int.ofNat (4 : Nat)) ∧
 ∀ (s_1 : ByteArray),
 strLen s_1 ≤ (24 : Nat) →
 bsel (Nat.ble (strLen (strCat (strCat (ByteArray.mk #[(45 : UInt8)]) s) (ByteArray.mk #[(45 : UInt8)])) + strLen s_1) (9223372036854775807 : Nat))
 (bsel
 (Nat.ble (strLen (strCat (strCat (strCat (ByteArray.mk #[(45 : UInt8)]) s) (ByteArray.mk #[(45 : UInt8)])) s_1) + (1 : Nat))
 (9223372036854775807 : Nat))
 (rng d ∧
 (Int.ofNat (2 : Nat) = Int.ofNat (2 : Nat) ∨ Int.ofNat (2 : Nat) = Int.ofNat (4 : Nat)) ∧
 ∀ (s_2 : ByteArray),
 strLen s_2 ≤ (24 : Nat) →
 bsel
 (Nat.ble
 (strLen
 (strCat (strCat (strCat (strCat (ByteArray.mk #[(45 : UInt8)]) s) (ByteArray.mk #[(45 : UInt8)])) s_1)
 (ByteArray.mk #[(45 : UInt8)])) +
 strLen s_2)
 (9223372036854775807 : Nat))
 (K
 (Value.string
 (strCat
 (strCat (strCat (strCat (strCat (ByteArray.mk #[(45 : UInt8)]) s) (ByteArray.mk #[(45 : UInt8)])) s_1)
 (ByteArray.mk #[(45 : UInt8)]))
 s_2))
 big)
 False)
 False)
 False)
 False)
 False)
 (rng y ∧
 (Int.ofNat (4 : Nat) = Int.ofNat (2 : Nat) ∨ Int.ofNat (4 : Nat) = Int.ofNat (4 : Nat)) ∧
 ∀ (s : ByteArray),
 strLen s ≤ (24 : Nat) →
 bsel (Nat.ble ((0 : Nat) + strLen s) (9223372036854775807 : Nat))
 (bsel (Nat.ble (strLen (strCat (ByteArray.mk #[]) s) + (1 : Nat)) (9223372036854775807 : Nat))
 (rng m ∧
 (Int.ofNat (2 : Nat) = Int.ofNat (2 : Nat) ∨ Int.ofNat (2 : Nat) = Int.ofNat (4 : Nat)) ∧
 ∀ (s_1 : ByteArray),
 strLen s_1 ≤ (24 : Nat) →
 bsel (Nat.ble (strLen (strCat (strCat (ByteArray.mk #[]) s) (ByteArray.mk #[(45 : UInt8)])) + strLen s_1) (9223372036854775807 : Nat))
 (bsel
 (Nat.ble (strLen (strCat (strCat (strCat (ByteArray.mk #[]) s) (ByteArray.mk #[(45 : UInt8)])) s_1) + (1 : Nat)) (9223372036854775807 : Nat))
 (rng d ∧
 (Int.ofNat (2 : Nat) = Int.ofNat (2 : Nat) ∨ Int.ofNat (2 : Nat) = Int.ofNat (4 : Nat)) ∧
 ∀ (s_2 : ByteArray),
 strLen s_2 ≤ (24 : Nat) →
 bsel
 (Nat.ble
 (strLen
 (strCat (strCat (strCat (strCat (ByteArray.mk #[]) s) (ByteArray.mk #[(45 : UInt8)])) s_1) (ByteArray.mk #[(45 : UInt8)])) +
 strLen s_2)
 (9223372036854775807 : Nat))
 (K
 (Value.string
 (strCat
 (strCat (strCat (strCat (strCat (ByteArray.mk #[]) s) (ByteArray.mk #[(45 : UInt8)])) s_1) (ByteArray.mk #[(45 : UInt8)])) s_2))
 big)
 False)
 False)
 False)
 False)
 False)) := by kernel_rfl
theorem ltime_tree1 (K : Value → Nat → Prop) (s o : Int) :
 funcK (env rulesT2) 30 51 [timeC s true o] tabs Tryz.prog.globals.size (fun u _ _ mw => K u mw) =
 (timeOk s true o ∧
 rng (IntKind.wrap .i64 (Int.tdiv s (3600 : Int))) ∧
 (Int.ofNat (2 : Nat) = Int.ofNat (2 : Nat) ∨ Int.ofNat (2 : Nat) = Int.ofNat (4 : Nat)) ∧
 ∀ (s_1 : ByteArray),
 strLen s_1 ≤ (24 : Nat) →
 bsel (Nat.ble (strLen s_1 + (1 : Nat)) (9223372036854775807 : Nat))
 (rng (Int.tmod (IntKind.wrap .i64 (Int.tdiv s (60 : Int))) (60 : Int)) ∧
 (Int.ofNat (2 : Nat) = Int.ofNat (2 : Nat) ∨ Int.ofNat (2 : Nat) = Int.ofNat (4 : Nat)) ∧
 ∀ (s_2 : ByteArray),
 strLen s_2 ≤ (24 : Nat) →
 bsel (Nat.ble (strLen (strCat s_1 (ByteArray.mk #[(58 : UInt8)])) + strLen s_2) (9223372036854775807 : Nat))
 (bsel (Nat.ble (strLen (strCat (strCat s_1 (ByteArray.mk #[(58 : UInt8)])) s_2) + (1 : Nat)) (9223372036854775807 : Nat))
 (rng (Int.tmod s (60 : Int)) ∧
 (Int.ofNat (2 : Nat) = Int.ofNat (2 : Nat) ∨ Int.ofNat (2 : Nat) = Int.ofNat (4 : Nat)) ∧
 ∀ (s : ByteArray),
 strLen s ≤ (24 : Nat) →
 bsel
 (Nat.ble (strLen (strCat (strCat (strCat s_1 (ByteArray.mk #[(58 : UInt8)])) s_2) (ByteArray.mk #[(58 : UInt8)])) + strLen s)
 (9223372036854775807 : Nat))
 (bsel (o == (0 : Int))
 (bsel
 (Nat.ble
 (strLen (strCat (strCat (strCat (strCat s_1 (ByteArray.mk #[(58 : UInt8)])) s_2) (ByteArray.mk #[(58 : UInt8)])) s) + (1 : Nat))
 (9223372036854775807 : Nat))
 (K
 (Value.string
 (strCat (strCat (strCat (strCat (strCat s_1 (ByteArray.mk #[(58 : UInt8)])) s_2) (ByteArray.mk #[(58 : UInt8)])) s)
 (ByteArray.mk #[(90 : UInt8)])))
 big)
 False)
 (bsel (decide (o < (0 : Int)))
 (rng (IntKind.wrap .i64 (Int.tdiv (IntKind.wrap .i64 ((0 : Int) - o)) (3600 : Int))) ∧
 (Int.ofNat (2 : Nat) = Int.ofNat (2 : Nat) ∨ Int.ofNat (2 : Nat) = Int.ofNat (4 : Nat)) ∧
 ∀ (s_3 : ByteArray),
 strLen s_3 ≤ (24 : Nat) →
 bsel (Nat.ble ((1 : Nat) + strLen s_3) (9223372036854775807 : Nat))
 (bsel (Nat.ble (strLen (strCat (ByteArray.mk #[(45 : UInt8)]) s_3) + (1 : Nat)) (9223372036854775807 : Nat))
 (rng
 (Int.tmod (IntKind.wrap .i64 (Int.tdiv (IntKind.wrap .i64 ((0 : Int) - o)) (60 : Int))) (60 : Int)) ∧
 (Int.ofNat (2 : Nat) = Int.ofNat (2 : Nat) ∨ Int.ofNat (2 : Nat) = Int.ofNat (4 : Nat)) ∧
 ∀ (s_4 : ByteArray),
 strLen s_4 ≤ (24 : Nat) →
 bsel
 (Nat.ble (strLen (strCat (strCat (ByteArray.mk #[(45 : UInt8)]) s_3) (ByteArray.mk #[(58 : UInt8)])) + strLen s_4)
 (9223372036854775807 : Nat))
 (bsel
 (Nat.ble
 (strLen
 (strCat (strCat (strCat (strCat s_1 (ByteArray.mk #[(58 : UInt8)])) s_2) (ByteArray.mk #[(58 : UInt8)]))
 s) +
 strLen (strCat (strCat (strCat (ByteArray.mk #[(45 : UInt8)]) s_3) (ByteArray.mk #[(58 : UInt8)])) s_4))
 (9223372036854775807 : Nat))
 (bsel (Int.tmod (IntKind.wrap .i64 ((0 : Int) - o)) (60 : Int) != (0 : Int))
 (rng (Int.tmod (IntKind.wrap .i64 ((0 : Int) - o)) (60 : Int)) ∧
 (Int.ofNat (2 : Nat) = Int.ofNat (2 : Nat) ∨ Int.ofNat (2 : Nat) = Int.ofNat (4 : Nat)) ∧
 ∀ (s_5 : ByteArray),
 strLen s_5 ≤ (24 : Nat) →
 bsel (Nat.ble ((1 : Nat) + strLen s_5) (9223372036854775807 : Nat))
 (bsel
 (Nat.ble
 (strLen
 (strCat
 (strCat
 (strCat (strCat (strCat s_1 (ByteArray.mk #[(58 : UInt8)])) s_2) (ByteArray.mk #[(58 : UInt8)]))
 s)
 (strCat (strCat (strCat (ByteArray.mk #[(45 : UInt8)]) s_3) (ByteArray.mk #[(58 : UInt8)]))
 s_4)) +
 strLen (strCat (ByteArray.mk #[(58 : UInt8)]) s_5))
 (9223372036854775807 : Nat))
 (K
 (Value.string
 (strCat
 (strCat
 (strCat
 (strCat (strCat (strCat s_1 (ByteArray.mk #[(58 : UInt8)])) s_2) (ByteArray.mk #[(58 : UInt8)]))
 s)
 (strCat (strCat (strCat (ByteArray.mk #[(45 : UInt8)]) s_3) (ByteArray.mk #[(58 : UInt8)])) s_4))
 (strCat (ByteArray.mk #[(58 : UInt8)]) s_5)))
 big)
 False)
 False)
 (K
 (Value.string
 (strCat
 (strCat (strCat (strCat (strCat s_1 (ByteArray.mk #[(58 : UInt8)])) s_2) (ByteArray.mk #[(58 : UInt8)]))
 s)
 (strCat (strCat (strCat (ByteArray.mk #[(45 : UInt8)]) s_3) (ByteArray.mk #[(58 : UInt8)])) s_4)))
 big))
 False)
 False)
 False)
 False)
 (rng (IntKind.wrap .i64 (Int.tdiv o (3600 : Int))) ∧
 (Int.ofNat (2 : Nat) = Int.ofNat (2 : Nat) ∨ Int.ofNat (2 : Nat) = Int.ofNat (4 : Nat)) ∧
 ∀ (s_3 : ByteArray),
 strLen s_3 ≤ (24 : Nat) →
 bsel (Nat.ble ((1 : Nat) + strLen s_3) (9223372036854775807 : Nat))
 (bsel (Nat.ble (strLen (strCat (ByteArray.mk #[(43 : UInt8)]) s_3) + (1 : Nat)) (9223372036854775807 : Nat))
 (rng (Int.tmod (IntKind.wrap .i64 (Int.tdiv o (60 : Int))) (60 : Int)) ∧
 (Int.ofNat (2 : Nat) = Int.ofNat (2 : Nat) ∨ Int.ofNat (2 : Nat) = Int.ofNat (4 : Nat)) ∧
 ∀ (s_4 : ByteArray),
 strLen s_4 ≤ (24 : Nat) →
 bsel
 (Nat.ble (strLen (strCat (strCat (ByteArray.mk #[(43 : UInt8)]) s_3) (ByteArray.mk #[(58 : UInt8)])) + strLen s_4)
 (9223372036854775807 : Nat))
 (bsel
 (Nat.ble
 (strLen
 (strCat (strCat (strCat (strCat s_1 (ByteArray.mk #[(58 : UInt8)])) s_2) (ByteArray.mk #[(58 : UInt8)]))
 s) +
 strLen (strCat (strCat (strCat (ByteArray.mk #[(43 : UInt8)]) s_3) (ByteArray.mk #[(58 : UInt8)])) s_4))
 (9223372036854775807 : Nat))
 (bsel (Int.tmod o (60 : Int) != (0 : Int))
 (rng (Int.tmod o (60 : Int)) ∧
 (Int.ofNat (2 : Nat) = Int.ofNat (2 : Nat) ∨ Int.ofNat (2 : Nat) = Int.ofNat (4 : Nat)) ∧
 ∀ (s_5 : ByteArray),
 strLen s_5 ≤ (24 : Nat) →
 bsel (Nat.ble ((1 : Nat) + strLen s_5) (9223372036854775807 : Nat))
 (bsel
 (Nat.ble
 (strLen
 (strCat
 (strCat
 (strCat (strCat (strCat s_1 (ByteArray.mk #[(58 : UInt8)])) s_2) (ByteArray.mk #[(58 : UInt8)]))
 s)
 (strCat (strCat (strCat (ByteArray.mk #[(43 : UInt8)]) s_3) (ByteArray.mk #[(58 : UInt8)]))
 s_4)) +
 strLen (strCat (ByteArray.mk #[(58 : UInt8)]) s_5))
 (9223372036854775807 : Nat))
 (K
 (Value.string
 (strCat
 (strCat
 (strCat
 (strCat (strCat (strCat s_1 (ByteArray.mk #[(58 : UInt8)])) s_2) (ByteArray.mk #[(58 : UInt8)]))
 s)
 (strCat (strCat (strCat (ByteArray.mk #[(43 : UInt8)]) s_3) (ByteArray.mk #[(58 : UInt8)])) s_4))
 (strCat (ByteArray.mk #[(58 : UInt8)]) s_5)))
 big)
 False)
 False)
 (K
 (Value.string
 (strCat
 (strCat (strCat (strCat (strCat s_1 (ByteArray.mk #[(58 : UInt8)])) s_2) (ByteArray.mk #[(58 : UInt8)]))
 s)
 (strCat (strCat (strCat (ByteArray.mk #[(43 : UInt8)]) s_3) (ByteArray.mk #[(58 : UInt8)])) s_4)))
 big))
 False)
 False)
 False)
 False)))
 False)
 False)
 False)
 False) := by kernel_rfl
theorem ltime_tree2 (K : Value → Nat → Prop) (s : Int) :
 funcK (env rulesT2) 30 51 [timeC s false 0] tabs Tryz.prog.globals.size (fun u _ _ mw => K u mw) =
 (timeOk s false (Int.ofNat (0 : Nat)) ∧
 rng (IntKind.wrap .i64 (Int.tdiv s (3600 : Int))) ∧
 (Int.ofNat (2 : Nat) = Int.ofNat (2 : Nat) ∨ Int.ofNat (2 : Nat) = Int.ofNat (4 : Nat)) ∧
 ∀ (s_1 : ByteArray),
 strLen s_1 ≤ (24 : Nat) →
 bsel (Nat.ble (strLen s_1 + (1 : Nat)) (9223372036854775807 : Nat))
 (rng (Int.tmod (IntKind.wrap .i64 (Int.tdiv s (60 : Int))) (60 : Int)) ∧
 (Int.ofNat (2 : Nat) = Int.ofNat (2 : Nat) ∨ Int.ofNat (2 : Nat) = Int.ofNat (4 : Nat)) ∧
 ∀ (s_2 : ByteArray),
 strLen s_2 ≤ (24 : Nat) →
 bsel (Nat.ble (strLen (strCat s_1 (ByteArray.mk #[(58 : UInt8)])) + strLen s_2) (9223372036854775807 : Nat))
 (bsel (Nat.ble (strLen (strCat (strCat s_1 (ByteArray.mk #[(58 : UInt8)])) s_2) + (1 : Nat)) (9223372036854775807 : Nat))
 (rng (Int.tmod s (60 : Int)) ∧
 (Int.ofNat (2 : Nat) = Int.ofNat (2 : Nat) ∨ Int.ofNat (2 : Nat) = Int.ofNat (4 : Nat)) ∧
 ∀ (s : ByteArray),
 strLen s ≤ (24 : Nat) →
 bsel
 (Nat.ble (strLen (strCat (strCat (strCat s_1 (ByteArray.mk #[(58 : UInt8)])) s_2) (ByteArray.mk #[(58 : UInt8)])) + strLen s)
 (9223372036854775807 : Nat))
 (K (Value.string (strCat (strCat (strCat (strCat s_1 (ByteArray.mk #[(58 : UInt8)])) s_2) (ByteArray.mk #[(58 : UInt8)])) s))
 big)
 False)
 False)
 False)
 False) := by kernel_rfl
theorem tabIs_base {base w : World} (hT : Lib.TabIs Tryz.prog base "internal/strconv.uint64pow10" .u64 pow10s) (hlt : Tryz.prog.globals.size ≤ base.heap.size) (hb : Below base.heap.size base w) :
    Lib.TabIs Tryz.prog w "internal/strconv.uint64pow10" .u64 Lib.pow10Tab := by
  have e : Lib.pow10Tab = pow10s := by decide
  rw [e]
  unfold Lib.TabIs World.var? at hT ⊢
  rw [show Tryz.prog.globalNamed "internal/strconv.uint64pow10" = some 7 by kernel_rfl] at hT ⊢
  simp only [Option.bind_some] at hT ⊢
  have hg : 7 < base.heap.size := Nat.lt_of_lt_of_le (Nat.le_of_ble_eq_true (by kernel_rfl)) hlt
  rw [hb.block _ hg]
  exact hT

theorem itoa_cases (n : Int) (h : rng n) : ∃ c l, Lib.itoa n = c :: l ∧ l.length ≤ 20 := by
  have h1 := Lib.itoa_length_le n h.1 h.2
  cases hx : Lib.itoa n with
  | nil =>
    exfalso
    unfold Lib.itoa at hx
    split at hx
    · cases hx
    · have := Lib.decDigits_length n.toNat
      rw [hx] at this
      unfold Lib.decDigits at hx
      split at hx
      · cases hx
      · simp at hx
  | cons c l =>
    rw [hx] at h1
    simp at h1
    exact ⟨c, l, rfl, by omega⟩

theorem sl0 : strLen ⟨#[]⟩ = 0 := rfl
theorem sl1 (a : UInt8) : strLen ⟨#[a]⟩ = 1 := rfl
theorem slL (l : List UInt8) : strLen ⟨⟨l⟩⟩ = l.length := rfl
theorem noBig {k : Nat} {P : Prop} (h : k ≤ 100000) (hb : Nat.ble k 9223372036854775807 = false) : P := by
  rw [Nat.ble_eq_true_of_le (by omega)] at hb
  cases hb

theorem rngT {x k : Int} (hk : 0 < k) (hk2 : k ≤ 1000000000) : rng (Int.tmod x k) := by
  obtain ⟨h1, h2, _⟩ := tmodB x k hk
  unfold rng
  omega

/-- What is asked of the world at the beginning. -/
structure Begun (base : World) : Prop where
  tab : Lib.TabIs Tryz.prog base "internal/strconv.uint64pow10" .u64 pow10s
  low : Tryz.prog.globals.size ≤ base.heap.size

theorem itoa_tot {base : World} (B : Begun base) {n : Int} (h : rng n) : Tot base 133 [.int .i64 n] (.string ⟨(Lib.itoa n).toArray⟩) := fun E hE hp _ m => by
  have hE' : EnvOk (env []) base := env_ok (rules := []) (fun _ h => by cases h)
  refine (FuncSem.ofContract (E := env []) hE' (fn := Tryz.f133) Tryz.func133 (by kernel_rfl) (pure1 (by kernel_rfl)) (by kernel_rfl) fun w hb => ?_).env hE
  exact (Tryz.strconv_Itoa n h.1 h.2 w (tabIs_base B.tab B.low hb)).mono fun e w' ⟨he, k, os, hw⟩ => ⟨he, by rw [hw]; exact Lib.below_grow _ _ (Nat.le_refl _) _ _⟩

theorem itoa_ok {base : World} (B : Begun base) : RuleOk Tryz.prog base 133 ruleItoa := ruleOk_of fun args T K hT hK => by
  split at hT
  · cases hT
    rename_i n
    obtain ⟨h, k1, k2, k3, k4⟩ := hK
    have ht := itoa_tot B h
    obtain ⟨c, l, hl, hlen⟩ := itoa_cases n h
    rw [hl] at ht
    refine ⟨_, ?_, ht⟩
    match l, hlen with
    | [], _ => exact k1 c
    | [b], _ => exact k2 c b
    | [b, d], _ => exact k3 c b d
    | b :: d :: e :: r, hlen => exact k4 c b d e r (by simp at hlen; omega)
  · cases hT

theorem rulesT1_ok {base : World} (B : Begun base) : ∀ x ∈ rulesT1, RuleOk Tryz.prog base x.1 x.2 := List.forall_mem_cons.2 ⟨itoa_ok B, rules4_ok base⟩

theorem padded_hk {n w : Int} (h : rng n) (hw : w = 2 ∨ w = 4) : ReckE (envN 5 rulesT1) 30 135 [.int .i64 n, .int .i64 w] (isShort 24) := by
  rcases hw with rfl | rfl
  · constructor
    rw [padded2_tree fun u mw => isShort 24 u ∧ Tryz.prog.globals.size ≤ mw]
    refine ⟨h, ?_, ?_, ?_, ?_⟩ <;> intros <;> exact ⟨⟨_, rfl, by simp only [strLen_cat, sl0, sl1, slL, List.length_cons, List.length_nil]; omega⟩, globals_big⟩
  · constructor
    rw [padded4_tree fun u mw => isShort 24 u ∧ Tryz.prog.globals.size ≤ mw]
    refine ⟨h, ?_, ?_, ?_, ?_⟩ <;> intros <;> exact ⟨⟨_, rfl, by simp only [strLen_cat, sl0, sl1, slL, List.length_cons, List.length_nil]; omega⟩, globals_big⟩

theorem padded_ok {base : World} (B : Begun base) : RuleOk Tryz.prog base 135 rulePadded := ruleOk_of fun args T K hT hK => by
  split at hT
  · cases hT
    obtain ⟨h, hw, hK⟩ := hK
    obtain ⟨v, ⟨s, rfl, hs⟩, ht⟩ := tot_ofE (envN_ok (rulesT1_ok B)) envN_loops rfl (padded_hk h hw) isShort_pure (List.forall_mem_cons.2 ⟨by kernel_rfl, pure1 (by kernel_rfl)⟩)
    exact ⟨_, hK s hs, ht⟩
  · cases hT

theorem gpiece_hk {n : Int} (h : rng n) {l : ByteArray} (hl : strLen l ≤ 1) : ReckE (env rulesT1) 30 139 [.int .i64 n, .string l] (isShort 24) := by
  constructor
  rw [gpiece_tree fun u mw => isShort 24 u ∧ Tryz.prog.globals.size ≤ mw]
  repeat' (first
    | exact ⟨⟨_, rfl, by first | exact Nat.zero_le _ | omega | (simp only [strLen_cat, sl0, sl1, slL, List.length_cons, List.length_nil]; omega)⟩, globals_big⟩
    | assumption
    | exact Or.inl rfl
    | exact Or.inr rfl
    | exact rng_wrap _
    | exact rngT (by decide) (by decide)
    | exact Nat.le_refl _
    | refine And.intro ?_ ?_
    | refine bsel_of (fun _ => ?_) (fun h => noBig (by first | omega | (simp only [strLen_cat, sl0, sl1, slL, List.length_cons, List.length_nil]; omega)) h)
    | refine bsel_of (fun _ => ?_) (fun _ => ?_)
    | intro _)

theorem piece_ok {base : World} (B : Begun base) : RuleOk Tryz.prog base 139 rulePiece := ruleOk_of fun args T K hT hK => by
  split at hT
  · cases hT
    obtain ⟨h, hl, hK⟩ := hK
    obtain ⟨v, ⟨s, rfl, hs⟩, ht⟩ := tot_ofE (env_ok (rulesT1_ok B)) env_loops rfl (gpiece_hk h hl) isShort_pure (List.forall_mem_cons.2 ⟨by kernel_rfl, pure1 (by kernel_rfl)⟩)
    exact ⟨_, hK s hs, ht⟩
  · cases hT

theorem rulesT2_ok {base : World} (B : Begun base) : ∀ x ∈ rulesT2, RuleOk Tryz.prog base x.1 x.2 := List.forall_mem_cons.2 ⟨padded_ok B, List.forall_mem_cons.2 ⟨piece_ok B, rules4_ok base⟩⟩

theorem ldate_hk {y m d : Int} (hd : dateOk y m d) : ReckE (env rulesT2) 30 50 [dateC y m d] (isShort 200) := by
  have d31 := dateOk_len hd
  obtain ⟨hy, hm, hdd⟩ : rng y ∧ rng m ∧ rng d := by
    obtain ⟨a1, a2, a3, a4, a5, _⟩ := hd
    unfold rng
    omega
  constructor
  rw [ldate_tree fun u mw => isShort 200 u ∧ Tryz.prog.globals.size ≤ mw]
  refine And.intro hd ?_
  repeat' (first
    | exact ⟨⟨_, rfl, by first | exact Nat.zero_le _ | omega | (simp only [strLen_cat, sl0, sl1, slL, List.length_cons, List.length_nil]; omega)⟩, globals_big⟩
    | assumption
    | exact Or.inl rfl
    | exact Or.inr rfl
    | exact rng_wrap _
    | exact rngT (by decide) (by decide)
    | exact Nat.le_refl _
    | refine And.intro ?_ ?_
    | refine bsel_of (fun _ => ?_) (fun h => noBig (by first | omega | (simp only [strLen_cat, sl0, sl1, slL, List.length_cons, List.length_nil]; omega)) h)
    | refine bsel_of (fun _ => ?_) (fun _ => ?_)
    | intro _)

theorem ltime_hk {s o : Int} {z : Bool} (ht : timeOk s z o) : ReckE (env rulesT2) 30 51 [timeC s z o] (isShort 200) := by
  cases z
  · obtain rfl := ht.2.2.2.2 rfl
    constructor
    rw [ltime_tree2 fun u mw => isShort 200 u ∧ Tryz.prog.globals.size ≤ mw]
    refine And.intro ht ?_
    repeat' (first
    | exact ⟨⟨_, rfl, by first | exact Nat.zero_le _ | omega | (simp only [strLen_cat, sl0, sl1, slL, List.length_cons, List.length_nil]; omega)⟩, globals_big⟩
    | assumption
    | exact Or.inl rfl
    | exact Or.inr rfl
    | exact rng_wrap _
    | exact rngT (by decide) (by decide)
    | exact Nat.le_refl _
    | refine And.intro ?_ ?_
    | refine bsel_of (fun _ => ?_) (fun h => noBig (by first | omega | (simp only [strLen_cat, sl0, sl1, slL, List.length_cons, List.length_nil]; omega)) h)
    | refine bsel_of (fun _ => ?_) (fun _ => ?_)
    | intro _)
  · constructor
    rw [ltime_tree1 fun u mw => isShort 200 u ∧ Tryz.prog.globals.size ≤ mw]
    refine And.intro ht ?_
    repeat' (first
    | exact ⟨⟨_, rfl, by first | exact Nat.zero_le _ | omega | (simp only [strLen_cat, sl0, sl1, slL, List.length_cons, List.length_nil]; omega)⟩, globals_big⟩
    | assumption
    | exact Or.inl rfl
    | exact Or.inr rfl
    | exact rng_wrap _
    | exact rngT (by decide) (by decide)
    | exact Nat.le_refl _
    | refine And.intro ?_ ?_
    | refine bsel_of (fun _ => ?_) (fun h => noBig (by first | omega | (simp only [strLen_cat, sl0, sl1, slL, List.length_cons, List.length_nil]; omega)) h)
    | refine bsel_of (fun _ => ?_) (fun _ => ?_)
    | intro _)

end Go.Proofs.YtdbjbmdaekgbhaaGreatDoor
