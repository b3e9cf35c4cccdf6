/-
  The law TimefunParts: what it reckons, and that this is true.
-/
import Derived.Test.YthcjocelokjifaaGreatDoorEj
namespace Go.Proofs.YthcjocelokjifaaGreatDoor
open Go Go.Pe Go.RowKit

theorem awake_tot (base : World) : Tot base 8 [] (.bool true) := fun E hE h ht n => by
  obtain ⟨v, h', n', mw, ⟨rfl, rfl, rfl, rfl⟩, hs⟩ := awake24_ok base E hE [] h n _ (fun v g m x => v = .bool true ∧ g = h ∧ m = n ∧ x = big) rfl ⟨hasTab_sub ht, rfl, rfl, rfl, rfl⟩
  exact hs

def rulesP (base : World) (raw : Value) (y m d s : Int) (z : Bool) (o w j k : Int) : List (Nat × Rule) :=
  (8, ruleAt [] (.bool true)) :: (9, ruleAt [raw] (momentC y m d s z o)) :: (15, ruleAt [dateC y m d] (.int .i64 w)) ::
  (17, ruleAt [dateC y m d] (.int .i64 j)) :: (18, ruleAt [dateC y m d] (.int .i64 k)) :: (38, ruleText) :: (25, ruleDays) :: rules5 base

/-- An environment that loads strings by a name. -/
noncomputable def envS (S : List (Option Value) → Nat → ByteArray) (rules : List (Nat × Rule)) : Env :=
  { P := Tryz.prog, isBool := bools, oracle := findR rules, eqAgg := fun _ _ _ => none, loops := 100000, loopP := fun _ _ => none, guess := fun _ _ => none, strF := S }

theorem parts_tree1 (S : List (Option Value) → Nat → ByteArray) (K : Value → Nat → Prop) (base : World) (r1 r2 r3 r4 r5 r6 : Value) (y m d s o w j k : Int) (t : ByteArray) :
    funcK (envS S (rulesP base (.agg ⟨[r1, r2, r3, r4, r5, r6]⟩) y m d s true o w j k)) 30 3 [.agg ⟨[r1, r2, r3, r4, r5, r6]⟩, .string t] tabs Tryz.prog.globals.size (fun u _ _ mw => K u mw) =
  (Go.Proofs.YthcjocelokjifaaGreatDoor.Same [] [] ∧
 Go.Proofs.YthcjocelokjifaaGreatDoor.Same [Go.Value.agg (Array.mk [r1, r2, r3, r4, r5, r6])] [Go.Value.agg (Array.mk [r1, r2, r3, r4, r5, r6])] ∧
 Go.Proofs.YthcjocelokjifaaGreatDoor.dateOk y m d ∧
 Go.Proofs.YthcjocelokjifaaGreatDoor.timeOk s Bool.true o ∧
 Go.Proofs.YthcjocelokjifaaGreatDoor.dateOk y m d ∧
 Go.Proofs.YthcjocelokjifaaGreatDoor.timeOk s Bool.true o ∧
 Go.Proofs.YthcjocelokjifaaGreatDoor.rng y ∧
 Go.Value.agg
 (Array.mk
 [Go.Value.iface (117 : Nat)
 (Go.Value.agg
 (Array.mk
 [Go.Value.bool (Decidable.decide (y < (0 : Int))), Go.Value.int Go.IntKind.u64 (Int.ofNat (0 : Nat)), Go.Value.int Go.IntKind.u64 (Int.ofNat (Int.natAbs y)),
 Go.Value.int Go.IntKind.i64 (Int.ofNat (0 : Nat))]))]) =
 Go.Value.agg
 (Array.mk
 [Go.Value.iface (117 : Nat)
 (Go.Value.agg
 (Array.mk
 [Go.Value.bool (Decidable.decide (y < (0 : Int))), Go.Value.int Go.IntKind.u64 (Int.ofNat (0 : Nat)), Go.Value.int Go.IntKind.u64 (Int.ofNat (Int.natAbs y)),
 Go.Value.int Go.IntKind.i64 (Int.ofNat (0 : Nat))]))]) ∧
 Go.Proofs.YthcjocelokjifaaGreatDoor.rng y ∧
 Go.Proofs.YthcjocelokjifaaGreatDoor.rng m ∧
 Go.Value.agg
 (Array.mk
 [Go.Value.iface (117 : Nat)
 (Go.Value.agg
 (Array.mk
 [Go.Value.bool (Decidable.decide (m < (0 : Int))), Go.Value.int Go.IntKind.u64 (Int.ofNat (0 : Nat)), Go.Value.int Go.IntKind.u64 (Int.ofNat (Int.natAbs m)),
 Go.Value.int Go.IntKind.i64 (Int.ofNat (0 : Nat))]))]) =
 Go.Value.agg
 (Array.mk
 [Go.Value.iface (117 : Nat)
 (Go.Value.agg
 (Array.mk
 [Go.Value.bool (Decidable.decide (m < (0 : Int))), Go.Value.int Go.IntKind.u64 (Int.ofNat (0 : Nat)), Go.Value.int Go.IntKind.u64 (Int.ofNat (Int.natAbs m)),
 Go.Value.int Go.IntKind.i64 (Int.ofNat (0 : Nat))]))]) ∧
 Go.Proofs.YthcjocelokjifaaGreatDoor.rng m ∧
 Go.Proofs.YthcjocelokjifaaGreatDoor.rng d ∧
 Go.Value.agg
 (Array.mk
 [Go.Value.iface (117 : Nat)
 (Go.Value.agg
 (Array.mk
 [Go.Value.bool (Decidable.decide (d < (0 : Int))), Go.Value.int Go.IntKind.u64 (Int.ofNat (0 : Nat)), Go.Value.int Go.IntKind.u64 (Int.ofNat (Int.natAbs d)),
 Go.Value.int Go.IntKind.i64 (Int.ofNat (0 : Nat))]))]) =
 Go.Value.agg
 (Array.mk
 [Go.Value.iface (117 : Nat)
 (Go.Value.agg
 (Array.mk
 [Go.Value.bool (Decidable.decide (d < (0 : Int))), Go.Value.int Go.IntKind.u64 (Int.ofNat (0 : Nat)), Go.Value.int Go.IntKind.u64 (Int.ofNat (Int.natAbs d)),
 Go.Value.int Go.IntKind.i64 (Int.ofNat (0 : Nat))]))]) ∧
 Go.Proofs.YthcjocelokjifaaGreatDoor.rng d ∧
 Go.Proofs.YthcjocelokjifaaGreatDoor.Same [Go.Value.agg (Array.mk [Go.Value.int Go.IntKind.i64 y, Go.Value.int Go.IntKind.i64 m, Go.Value.int Go.IntKind.i64 d])]
 [Go.Value.agg (Array.mk [Go.Value.int Go.IntKind.i64 y, Go.Value.int Go.IntKind.i64 m, Go.Value.int Go.IntKind.i64 d])] ∧
 Go.Proofs.YthcjocelokjifaaGreatDoor.rng w ∧
 Go.Proofs.YthcjocelokjifaaGreatDoor.Same [Go.Value.agg (Array.mk [Go.Value.int Go.IntKind.i64 y, Go.Value.int Go.IntKind.i64 m, Go.Value.int Go.IntKind.i64 d])]
 [Go.Value.agg (Array.mk [Go.Value.int Go.IntKind.i64 y, Go.Value.int Go.IntKind.i64 m, Go.Value.int Go.IntKind.i64 d])] ∧
 Go.Value.agg
 (Array.mk
 [Go.Value.iface (117 : Nat)
 (Go.Value.agg
 (Array.mk
 [Go.Value.bool (Decidable.decide (w < (0 : Int))), Go.Value.int Go.IntKind.u64 (Int.ofNat (0 : Nat)),
 Go.Value.int Go.IntKind.u64 (Int.ofNat (Int.natAbs w)), Go.Value.int Go.IntKind.i64 (Int.ofNat (0 : Nat))]))]) =
 Go.Value.agg
 (Array.mk
 [Go.Value.iface (117 : Nat)
 (Go.Value.agg
 (Array.mk
 [Go.Value.bool (Decidable.decide (w < (0 : Int))), Go.Value.int Go.IntKind.u64 (Int.ofNat (0 : Nat)),
 Go.Value.int Go.IntKind.u64 (Int.ofNat (Int.natAbs w)), Go.Value.int Go.IntKind.i64 (Int.ofNat (0 : Nat))]))]) ∧
 Go.Proofs.YthcjocelokjifaaGreatDoor.rng w ∧
 Go.Proofs.YthcjocelokjifaaGreatDoor.Same [Go.Value.agg (Array.mk [Go.Value.int Go.IntKind.i64 y, Go.Value.int Go.IntKind.i64 m, Go.Value.int Go.IntKind.i64 d])]
 [Go.Value.agg (Array.mk [Go.Value.int Go.IntKind.i64 y, Go.Value.int Go.IntKind.i64 m, Go.Value.int Go.IntKind.i64 d])] ∧
 Go.Proofs.YthcjocelokjifaaGreatDoor.rng j ∧
 Go.Proofs.YthcjocelokjifaaGreatDoor.Same
 [Go.Value.agg (Array.mk [Go.Value.int Go.IntKind.i64 y, Go.Value.int Go.IntKind.i64 m, Go.Value.int Go.IntKind.i64 d])]
 [Go.Value.agg (Array.mk [Go.Value.int Go.IntKind.i64 y, Go.Value.int Go.IntKind.i64 m, Go.Value.int Go.IntKind.i64 d])] ∧
 Go.Value.agg
 (Array.mk
 [Go.Value.iface (117 : Nat)
 (Go.Value.agg
 (Array.mk
 [Go.Value.bool (Decidable.decide (j < (0 : Int))), Go.Value.int Go.IntKind.u64 (Int.ofNat (0 : Nat)),
 Go.Value.int Go.IntKind.u64 (Int.ofNat (Int.natAbs j)), Go.Value.int Go.IntKind.i64 (Int.ofNat (0 : Nat))]))]) =
 Go.Value.agg
 (Array.mk
 [Go.Value.iface (117 : Nat)
 (Go.Value.agg
 (Array.mk
 [Go.Value.bool (Decidable.decide (j < (0 : Int))), Go.Value.int Go.IntKind.u64 (Int.ofNat (0 : Nat)),
 Go.Value.int Go.IntKind.u64 (Int.ofNat (Int.natAbs j)), Go.Value.int Go.IntKind.i64 (Int.ofNat (0 : Nat))]))]) ∧
 Go.Proofs.YthcjocelokjifaaGreatDoor.rng j ∧
 Go.Proofs.YthcjocelokjifaaGreatDoor.Same
 [Go.Value.agg (Array.mk [Go.Value.int Go.IntKind.i64 y, Go.Value.int Go.IntKind.i64 m, Go.Value.int Go.IntKind.i64 d])]
 [Go.Value.agg (Array.mk [Go.Value.int Go.IntKind.i64 y, Go.Value.int Go.IntKind.i64 m, Go.Value.int Go.IntKind.i64 d])] ∧
 Go.Proofs.YthcjocelokjifaaGreatDoor.rng k ∧
 Go.Proofs.YthcjocelokjifaaGreatDoor.Same
 [Go.Value.agg (Array.mk [Go.Value.int Go.IntKind.i64 y, Go.Value.int Go.IntKind.i64 m, Go.Value.int Go.IntKind.i64 d])]
 [Go.Value.agg (Array.mk [Go.Value.int Go.IntKind.i64 y, Go.Value.int Go.IntKind.i64 m, Go.Value.int Go.IntKind.i64 d])] ∧
 Go.Value.agg
 (Array.mk
 [Go.Value.iface (117 : Nat)
 (Go.Value.agg
 (Array.mk
 [Go.Value.bool (Decidable.decide (k < (0 : Int))), Go.Value.int Go.IntKind.u64 (Int.ofNat (0 : Nat)),
 Go.Value.int Go.IntKind.u64 (Int.ofNat (Int.natAbs k)), Go.Value.int Go.IntKind.i64 (Int.ofNat (0 : Nat))]))]) =
 Go.Value.agg
 (Array.mk
 [Go.Value.iface (117 : Nat)
 (Go.Value.agg
 (Array.mk
 [Go.Value.bool (Decidable.decide (k < (0 : Int))), Go.Value.int Go.IntKind.u64 (Int.ofNat (0 : Nat)),
 Go.Value.int Go.IntKind.u64 (Int.ofNat (Int.natAbs k)), Go.Value.int Go.IntKind.i64 (Int.ofNat (0 : Nat))]))]) ∧
 Go.Proofs.YthcjocelokjifaaGreatDoor.rng k ∧
 Go.Proofs.YthcjocelokjifaaGreatDoor.Same
 [Go.Value.agg (Array.mk [Go.Value.int Go.IntKind.i64 y, Go.Value.int Go.IntKind.i64 m, Go.Value.int Go.IntKind.i64 d])]
 [Go.Value.agg (Array.mk [Go.Value.int Go.IntKind.i64 y, Go.Value.int Go.IntKind.i64 m, Go.Value.int Go.IntKind.i64 d])] ∧
 Go.Pe.bsel
 (Decidable.decide ((0 : Int) ≤ Go.IntKind.wrap Go.IntKind.i64 (w - (1 : Int))) &&
 Decidable.decide (Go.IntKind.wrap Go.IntKind.i64 (w - (1 : Int)) < ↑(7 : Nat)))
 (Go.Pe.bsel
 (Nat.blt ((0 : Nat) + Int.toNat (Go.IntKind.wrap Go.IntKind.i64 (w - (1 : Int))) * (1 : Nat))
 (List.length
 [Option.some
 (Go.Value.string (ByteArray.mk #[(77 : UInt8), (111 : UInt8), (110 : UInt8), (100 : UInt8), (97 : UInt8), (121 : UInt8)])),
 Option.some
 (Go.Value.string
 (ByteArray.mk #[(84 : UInt8), (117 : UInt8), (101 : UInt8), (115 : UInt8), (100 : UInt8), (97 : UInt8), (121 : UInt8)])),
 Option.some
 (Go.Value.string
 (ByteArray.mk
 #[(87 : UInt8), (101 : UInt8), (100 : UInt8), (110 : UInt8), (101 : UInt8), (115 : UInt8), (100 : UInt8), (97 : UInt8),
 (121 : UInt8)])),
 Option.some
 (Go.Value.string
 (ByteArray.mk
 #[(84 : UInt8), (104 : UInt8), (117 : UInt8), (114 : UInt8), (115 : UInt8), (100 : UInt8), (97 : UInt8), (121 : UInt8)])),
 Option.some
 (Go.Value.string (ByteArray.mk #[(70 : UInt8), (114 : UInt8), (105 : UInt8), (100 : UInt8), (97 : UInt8), (121 : UInt8)])),
 Option.some
 (Go.Value.string
 (ByteArray.mk
 #[(83 : UInt8), (97 : UInt8), (116 : UInt8), (117 : UInt8), (114 : UInt8), (100 : UInt8), (97 : UInt8), (121 : UInt8)])),
 Option.some
 (Go.Value.string (ByteArray.mk #[(83 : UInt8), (117 : UInt8), (110 : UInt8), (100 : UInt8), (97 : UInt8), (121 : UInt8)]))]))
 (Go.Proofs.YthcjocelokjifaaGreatDoor.Texty
 (S
 [Option.some
 (Go.Value.string (ByteArray.mk #[(77 : UInt8), (111 : UInt8), (110 : UInt8), (100 : UInt8), (97 : UInt8), (121 : UInt8)])),
 Option.some
 (Go.Value.string
 (ByteArray.mk #[(84 : UInt8), (117 : UInt8), (101 : UInt8), (115 : UInt8), (100 : UInt8), (97 : UInt8), (121 : UInt8)])),
 Option.some
 (Go.Value.string
 (ByteArray.mk
 #[(87 : UInt8), (101 : UInt8), (100 : UInt8), (110 : UInt8), (101 : UInt8), (115 : UInt8), (100 : UInt8), (97 : UInt8),
 (121 : UInt8)])),
 Option.some
 (Go.Value.string
 (ByteArray.mk
 #[(84 : UInt8), (104 : UInt8), (117 : UInt8), (114 : UInt8), (115 : UInt8), (100 : UInt8), (97 : UInt8),
 (121 : UInt8)])),
 Option.some
 (Go.Value.string (ByteArray.mk #[(70 : UInt8), (114 : UInt8), (105 : UInt8), (100 : UInt8), (97 : UInt8), (121 : UInt8)])),
 Option.some
 (Go.Value.string
 (ByteArray.mk
 #[(83 : UInt8), (97 : UInt8), (116 : UInt8), (117 : UInt8), (114 : UInt8), (100 : UInt8), (97 : UInt8),
 (121 : UInt8)])),
 Option.some
 (Go.Value.string (ByteArray.mk #[(83 : UInt8), (117 : UInt8), (110 : UInt8), (100 : UInt8), (97 : UInt8), (121 : UInt8)]))]
 ((0 : Nat) + Int.toNat (Go.IntKind.wrap Go.IntKind.i64 (w - (1 : Int))) * (1 : Nat))) ∧
 Go.Proofs.YthcjocelokjifaaGreatDoor.Same
 [Go.Value.agg (Array.mk [Go.Value.int Go.IntKind.i64 y, Go.Value.int Go.IntKind.i64 m, Go.Value.int Go.IntKind.i64 d])]
 [Go.Value.agg (Array.mk [Go.Value.int Go.IntKind.i64 y, Go.Value.int Go.IntKind.i64 m, Go.Value.int Go.IntKind.i64 d])] ∧
 Go.Pe.bsel
 (Decidable.decide ((0 : Int) ≤ Go.IntKind.wrap Go.IntKind.i64 (w - (1 : Int))) &&
 Decidable.decide (Go.IntKind.wrap Go.IntKind.i64 (w - (1 : Int)) < ↑(7 : Nat)))
 (Go.Pe.bsel
 (Nat.blt ((0 : Nat) + Int.toNat (Go.IntKind.wrap Go.IntKind.i64 (w - (1 : Int))) * (1 : Nat))
 (List.length
 [Option.some
 (Go.Value.string
 (ByteArray.mk #[(77 : UInt8), (111 : UInt8), (110 : UInt8), (100 : UInt8), (97 : UInt8), (121 : UInt8)])),
 Option.some
 (Go.Value.string
 (ByteArray.mk
 #[(84 : UInt8), (117 : UInt8), (101 : UInt8), (115 : UInt8), (100 : UInt8), (97 : UInt8), (121 : UInt8)])),
 Option.some
 (Go.Value.string
 (ByteArray.mk
 #[(87 : UInt8), (101 : UInt8), (100 : UInt8), (110 : UInt8), (101 : UInt8), (115 : UInt8), (100 : UInt8),
 (97 : UInt8), (121 : UInt8)])),
 Option.some
 (Go.Value.string
 (ByteArray.mk
 #[(84 : UInt8), (104 : UInt8), (117 : UInt8), (114 : UInt8), (115 : UInt8), (100 : UInt8), (97 : UInt8),
 (121 : UInt8)])),
 Option.some
 (Go.Value.string
 (ByteArray.mk #[(70 : UInt8), (114 : UInt8), (105 : UInt8), (100 : UInt8), (97 : UInt8), (121 : UInt8)])),
 Option.some
 (Go.Value.string
 (ByteArray.mk
 #[(83 : UInt8), (97 : UInt8), (116 : UInt8), (117 : UInt8), (114 : UInt8), (100 : UInt8), (97 : UInt8),
 (121 : UInt8)])),
 Option.some
 (Go.Value.string
 (ByteArray.mk #[(83 : UInt8), (117 : UInt8), (110 : UInt8), (100 : UInt8), (97 : UInt8), (121 : UInt8)]))]))
 (Go.Value.agg
 (Array.mk
 [Go.Value.iface (131 : Nat)
 (Go.Value.string
 (S
 [Option.some
 (Go.Value.string
 (ByteArray.mk
 #[(77 : UInt8), (111 : UInt8), (110 : UInt8), (100 : UInt8), (97 : UInt8), (121 : UInt8)])),
 Option.some
 (Go.Value.string
 (ByteArray.mk
 #[(84 : UInt8), (117 : UInt8), (101 : UInt8), (115 : UInt8), (100 : UInt8), (97 : UInt8),
 (121 : UInt8)])),
 Option.some
 (Go.Value.string
 (ByteArray.mk
 #[(87 : UInt8), (101 : UInt8), (100 : UInt8), (110 : UInt8), (101 : UInt8), (115 : UInt8),
 (100 : UInt8), (97 : UInt8), (121 : UInt8)])),
 Option.some
 (Go.Value.string
 (ByteArray.mk
 #[(84 : UInt8), (104 : UInt8), (117 : UInt8), (114 : UInt8), (115 : UInt8), (100 : UInt8),
 (97 : UInt8), (121 : UInt8)])),
 Option.some
 (Go.Value.string
 (ByteArray.mk
 #[(70 : UInt8), (114 : UInt8), (105 : UInt8), (100 : UInt8), (97 : UInt8), (121 : UInt8)])),
 Option.some
 (Go.Value.string
 (ByteArray.mk
 #[(83 : UInt8), (97 : UInt8), (116 : UInt8), (117 : UInt8), (114 : UInt8), (100 : UInt8),
 (97 : UInt8), (121 : UInt8)])),
 Option.some
 (Go.Value.string
 (ByteArray.mk
 #[(83 : UInt8), (117 : UInt8), (110 : UInt8), (100 : UInt8), (97 : UInt8), (121 : UInt8)]))]
 ((0 : Nat) + Int.toNat (Go.IntKind.wrap Go.IntKind.i64 (w - (1 : Int))) * (1 : Nat))))]) =
 Go.Value.agg
 (Array.mk
 [Go.Value.iface (131 : Nat)
 (Go.Value.string
 (S
 [Option.some
 (Go.Value.string
 (ByteArray.mk
 #[(77 : UInt8), (111 : UInt8), (110 : UInt8), (100 : UInt8), (97 : UInt8), (121 : UInt8)])),
 Option.some
 (Go.Value.string
 (ByteArray.mk
 #[(84 : UInt8), (117 : UInt8), (101 : UInt8), (115 : UInt8), (100 : UInt8), (97 : UInt8),
 (121 : UInt8)])),
 Option.some
 (Go.Value.string
 (ByteArray.mk
 #[(87 : UInt8), (101 : UInt8), (100 : UInt8), (110 : UInt8), (101 : UInt8), (115 : UInt8),
 (100 : UInt8), (97 : UInt8), (121 : UInt8)])),
 Option.some
 (Go.Value.string
 (ByteArray.mk
 #[(84 : UInt8), (104 : UInt8), (117 : UInt8), (114 : UInt8), (115 : UInt8), (100 : UInt8),
 (97 : UInt8), (121 : UInt8)])),
 Option.some
 (Go.Value.string
 (ByteArray.mk
 #[(70 : UInt8), (114 : UInt8), (105 : UInt8), (100 : UInt8), (97 : UInt8), (121 : UInt8)])),
 Option.some
 (Go.Value.string
 (ByteArray.mk
 #[(83 : UInt8), (97 : UInt8), (116 : UInt8), (117 : UInt8), (114 : UInt8), (100 : UInt8),
 (97 : UInt8), (121 : UInt8)])),
 Option.some
 (Go.Value.string
 (ByteArray.mk
 #[(83 : UInt8), (117 : UInt8), (110 : UInt8), (100 : UInt8), (97 : UInt8), (121 : UInt8)]))]
 ((0 : Nat) + Int.toNat (Go.IntKind.wrap Go.IntKind.i64 (w - (1 : Int))) * (1 : Nat))))]) ∧
 Int.ofNat (4 : Nat) = Int.ofNat (4 : Nat) ∧
 Go.Pe.bsel
 (Decidable.decide ((0 : Int) ≤ Go.IntKind.wrap Go.IntKind.i64 (m - (1 : Int))) &&
 Decidable.decide (Go.IntKind.wrap Go.IntKind.i64 (m - (1 : Int)) < ↑(12 : Nat)))
 (Go.Pe.bsel
 (Nat.blt ((0 : Nat) + Int.toNat (Go.IntKind.wrap Go.IntKind.i64 (m - (1 : Int))) * (1 : Nat))
 (List.length
 [Option.some
 (Go.Value.string
 (ByteArray.mk
 #[(74 : UInt8), (97 : UInt8), (110 : UInt8), (117 : UInt8), (97 : UInt8), (114 : UInt8), (121 : UInt8)])),
 Option.some
 (Go.Value.string
 (ByteArray.mk
 #[(70 : UInt8), (101 : UInt8), (98 : UInt8), (114 : UInt8), (117 : UInt8), (97 : UInt8), (114 : UInt8),
 (121 : UInt8)])),
 Option.some
 (Go.Value.string (ByteArray.mk #[(77 : UInt8), (97 : UInt8), (114 : UInt8), (99 : UInt8), (104 : UInt8)])),
 Option.some
 (Go.Value.string (ByteArray.mk #[(65 : UInt8), (112 : UInt8), (114 : UInt8), (105 : UInt8), (108 : UInt8)])),
 Option.some (Go.Value.string (ByteArray.mk #[(77 : UInt8), (97 : UInt8), (121 : UInt8)])),
 Option.some (Go.Value.string (ByteArray.mk #[(74 : UInt8), (117 : UInt8), (110 : UInt8), (101 : UInt8)])),
 Option.some (Go.Value.string (ByteArray.mk #[(74 : UInt8), (117 : UInt8), (108 : UInt8), (121 : UInt8)])),
 Option.some
 (Go.Value.string
 (ByteArray.mk #[(65 : UInt8), (117 : UInt8), (103 : UInt8), (117 : UInt8), (115 : UInt8), (116 : UInt8)])),
 Option.some
 (Go.Value.string
 (ByteArray.mk
 #[(83 : UInt8), (101 : UInt8), (112 : UInt8), (116 : UInt8), (101 : UInt8), (109 : UInt8), (98 : UInt8),
 (101 : UInt8), (114 : UInt8)])),
 Option.some
 (Go.Value.string
 (ByteArray.mk
 #[(79 : UInt8), (99 : UInt8), (116 : UInt8), (111 : UInt8), (98 : UInt8), (101 : UInt8), (114 : UInt8)])),
 Option.some
 (Go.Value.string
 (ByteArray.mk
 #[(78 : UInt8), (111 : UInt8), (118 : UInt8), (101 : UInt8), (109 : UInt8), (98 : UInt8), (101 : UInt8),
 (114 : UInt8)])),
 Option.some
 (Go.Value.string
 (ByteArray.mk
 #[(68 : UInt8), (101 : UInt8), (99 : UInt8), (101 : UInt8), (109 : UInt8), (98 : UInt8), (101 : UInt8),
 (114 : UInt8)]))]))
 (Go.Proofs.YthcjocelokjifaaGreatDoor.Texty
 (S
 [Option.some
 (Go.Value.string
 (ByteArray.mk
 #[(74 : UInt8), (97 : UInt8), (110 : UInt8), (117 : UInt8), (97 : UInt8), (114 : UInt8),
 (121 : UInt8)])),
 Option.some
 (Go.Value.string
 (ByteArray.mk
 #[(70 : UInt8), (101 : UInt8), (98 : UInt8), (114 : UInt8), (117 : UInt8), (97 : UInt8), (114 : UInt8),
 (121 : UInt8)])),
 Option.some
 (Go.Value.string (ByteArray.mk #[(77 : UInt8), (97 : UInt8), (114 : UInt8), (99 : UInt8), (104 : UInt8)])),
 Option.some
 (Go.Value.string
 (ByteArray.mk #[(65 : UInt8), (112 : UInt8), (114 : UInt8), (105 : UInt8), (108 : UInt8)])),
 Option.some (Go.Value.string (ByteArray.mk #[(77 : UInt8), (97 : UInt8), (121 : UInt8)])),
 Option.some (Go.Value.string (ByteArray.mk #[(74 : UInt8), (117 : UInt8), (110 : UInt8), (101 : UInt8)])),
 Option.some (Go.Value.string (ByteArray.mk #[(74 : UInt8), (117 : UInt8), (108 : UInt8), (121 : UInt8)])),
 Option.some
 (Go.Value.string
 (ByteArray.mk
 #[(65 : UInt8), (117 : UInt8), (103 : UInt8), (117 : UInt8), (115 : UInt8), (116 : UInt8)])),
 Option.some
 (Go.Value.string
 (ByteArray.mk
 #[(83 : UInt8), (101 : UInt8), (112 : UInt8), (116 : UInt8), (101 : UInt8), (109 : UInt8), (98 : UInt8),
 (101 : UInt8), (114 : UInt8)])),
 Option.some
 (Go.Value.string
 (ByteArray.mk
 #[(79 : UInt8), (99 : UInt8), (116 : UInt8), (111 : UInt8), (98 : UInt8), (101 : UInt8),
 (114 : UInt8)])),
 Option.some
 (Go.Value.string
 (ByteArray.mk
 #[(78 : UInt8), (111 : UInt8), (118 : UInt8), (101 : UInt8), (109 : UInt8), (98 : UInt8), (101 : UInt8),
 (114 : UInt8)])),
 Option.some
 (Go.Value.string
 (ByteArray.mk
 #[(68 : UInt8), (101 : UInt8), (99 : UInt8), (101 : UInt8), (109 : UInt8), (98 : UInt8), (101 : UInt8),
 (114 : UInt8)]))]
 ((0 : Nat) + Int.toNat (Go.IntKind.wrap Go.IntKind.i64 (m - (1 : Int))) * (1 : Nat))) ∧
 Go.Pe.bsel
 (Decidable.decide ((0 : Int) ≤ Go.IntKind.wrap Go.IntKind.i64 (m - (1 : Int))) &&
 Decidable.decide (Go.IntKind.wrap Go.IntKind.i64 (m - (1 : Int)) < ↑(12 : Nat)))
 (Go.Pe.bsel
 (Nat.blt ((0 : Nat) + Int.toNat (Go.IntKind.wrap Go.IntKind.i64 (m - (1 : Int))) * (1 : Nat))
 (List.length
 [Option.some
 (Go.Value.string
 (ByteArray.mk
 #[(74 : UInt8), (97 : UInt8), (110 : UInt8), (117 : UInt8), (97 : UInt8), (114 : UInt8),
 (121 : UInt8)])),
 Option.some
 (Go.Value.string
 (ByteArray.mk
 #[(70 : UInt8), (101 : UInt8), (98 : UInt8), (114 : UInt8), (117 : UInt8), (97 : UInt8),
 (114 : UInt8), (121 : UInt8)])),
 Option.some
 (Go.Value.string
 (ByteArray.mk #[(77 : UInt8), (97 : UInt8), (114 : UInt8), (99 : UInt8), (104 : UInt8)])),
 Option.some
 (Go.Value.string
 (ByteArray.mk #[(65 : UInt8), (112 : UInt8), (114 : UInt8), (105 : UInt8), (108 : UInt8)])),
 Option.some (Go.Value.string (ByteArray.mk #[(77 : UInt8), (97 : UInt8), (121 : UInt8)])),
 Option.some (Go.Value.string (ByteArray.mk #[(74 : UInt8), (117 : UInt8), (110 : UInt8), (101 : UInt8)])),
 Option.some (Go.Value.string (ByteArray.mk #[(74 : UInt8), (117 : UInt8), (108 : UInt8), (121 : UInt8)])),
 Option.some
 (Go.Value.string
 (ByteArray.mk
 #[(65 : UInt8), (117 : UInt8), (103 : UInt8), (117 : UInt8), (115 : UInt8), (116 : UInt8)])),
 Option.some
 (Go.Value.string
 (ByteArray.mk
 #[(83 : UInt8), (101 : UInt8), (112 : UInt8), (116 : UInt8), (101 : UInt8), (109 : UInt8),
 (98 : UInt8), (101 : UInt8), (114 : UInt8)])),
 Option.some
 (Go.Value.string
 (ByteArray.mk
 #[(79 : UInt8), (99 : UInt8), (116 : UInt8), (111 : UInt8), (98 : UInt8), (101 : UInt8),
 (114 : UInt8)])),
 Option.some
 (Go.Value.string
 (ByteArray.mk
 #[(78 : UInt8), (111 : UInt8), (118 : UInt8), (101 : UInt8), (109 : UInt8), (98 : UInt8),
 (101 : UInt8), (114 : UInt8)])),
 Option.some
 (Go.Value.string
 (ByteArray.mk
 #[(68 : UInt8), (101 : UInt8), (99 : UInt8), (101 : UInt8), (109 : UInt8), (98 : UInt8),
 (101 : UInt8), (114 : UInt8)]))]))
 (Go.Value.agg
 (Array.mk
 [Go.Value.iface (131 : Nat)
 (Go.Value.string
 (S
 [Option.some
 (Go.Value.string
 (ByteArray.mk
 #[(74 : UInt8), (97 : UInt8), (110 : UInt8), (117 : UInt8), (97 : UInt8), (114 : UInt8),
 (121 : UInt8)])),
 Option.some
 (Go.Value.string
 (ByteArray.mk
 #[(70 : UInt8), (101 : UInt8), (98 : UInt8), (114 : UInt8), (117 : UInt8), (97 : UInt8),
 (114 : UInt8), (121 : UInt8)])),
 Option.some
 (Go.Value.string
 (ByteArray.mk #[(77 : UInt8), (97 : UInt8), (114 : UInt8), (99 : UInt8), (104 : UInt8)])),
 Option.some
 (Go.Value.string
 (ByteArray.mk
 #[(65 : UInt8), (112 : UInt8), (114 : UInt8), (105 : UInt8), (108 : UInt8)])),
 Option.some (Go.Value.string (ByteArray.mk #[(77 : UInt8), (97 : UInt8), (121 : UInt8)])),
 Option.some
 (Go.Value.string
 (ByteArray.mk #[(74 : UInt8), (117 : UInt8), (110 : UInt8), (101 : UInt8)])),
 Option.some
 (Go.Value.string
 (ByteArray.mk #[(74 : UInt8), (117 : UInt8), (108 : UInt8), (121 : UInt8)])),
 Option.some
 (Go.Value.string
 (ByteArray.mk
 #[(65 : UInt8), (117 : UInt8), (103 : UInt8), (117 : UInt8), (115 : UInt8),
 (116 : UInt8)])),
 Option.some
 (Go.Value.string
 (ByteArray.mk
 #[(83 : UInt8), (101 : UInt8), (112 : UInt8), (116 : UInt8), (101 : UInt8),
 (109 : UInt8), (98 : UInt8), (101 : UInt8), (114 : UInt8)])),
 Option.some
 (Go.Value.string
 (ByteArray.mk
 #[(79 : UInt8), (99 : UInt8), (116 : UInt8), (111 : UInt8), (98 : UInt8), (101 : UInt8),
 (114 : UInt8)])),
 Option.some
 (Go.Value.string
 (ByteArray.mk
 #[(78 : UInt8), (111 : UInt8), (118 : UInt8), (101 : UInt8), (109 : UInt8),
 (98 : UInt8), (101 : UInt8), (114 : UInt8)])),
 Option.some
 (Go.Value.string
 (ByteArray.mk
 #[(68 : UInt8), (101 : UInt8), (99 : UInt8), (101 : UInt8), (109 : UInt8), (98 : UInt8),
 (101 : UInt8), (114 : UInt8)]))]
 ((0 : Nat) + Int.toNat (Go.IntKind.wrap Go.IntKind.i64 (m - (1 : Int))) * (1 : Nat))))]) =
 Go.Value.agg
 (Array.mk
 [Go.Value.iface (131 : Nat)
 (Go.Value.string
 (S
 [Option.some
 (Go.Value.string
 (ByteArray.mk
 #[(74 : UInt8), (97 : UInt8), (110 : UInt8), (117 : UInt8), (97 : UInt8), (114 : UInt8),
 (121 : UInt8)])),
 Option.some
 (Go.Value.string
 (ByteArray.mk
 #[(70 : UInt8), (101 : UInt8), (98 : UInt8), (114 : UInt8), (117 : UInt8), (97 : UInt8),
 (114 : UInt8), (121 : UInt8)])),
 Option.some
 (Go.Value.string
 (ByteArray.mk #[(77 : UInt8), (97 : UInt8), (114 : UInt8), (99 : UInt8), (104 : UInt8)])),
 Option.some
 (Go.Value.string
 (ByteArray.mk
 #[(65 : UInt8), (112 : UInt8), (114 : UInt8), (105 : UInt8), (108 : UInt8)])),
 Option.some (Go.Value.string (ByteArray.mk #[(77 : UInt8), (97 : UInt8), (121 : UInt8)])),
 Option.some
 (Go.Value.string
 (ByteArray.mk #[(74 : UInt8), (117 : UInt8), (110 : UInt8), (101 : UInt8)])),
 Option.some
 (Go.Value.string
 (ByteArray.mk #[(74 : UInt8), (117 : UInt8), (108 : UInt8), (121 : UInt8)])),
 Option.some
 (Go.Value.string
 (ByteArray.mk
 #[(65 : UInt8), (117 : UInt8), (103 : UInt8), (117 : UInt8), (115 : UInt8),
 (116 : UInt8)])),
 Option.some
 (Go.Value.string
 (ByteArray.mk
 #[(83 : UInt8), (101 : UInt8), (112 : UInt8), (116 : UInt8), (101 : UInt8),
 (109 : UInt8), (98 : UInt8), (101 : UInt8), (114 : UInt8)])),
 Option.some
 (Go.Value.string
 (ByteArray.mk
 #[(79 : UInt8), (99 : UInt8), (116 : UInt8), (111 : UInt8), (98 : UInt8), (101 : UInt8),
 (114 : UInt8)])),
 Option.some
 (Go.Value.string
 (ByteArray.mk
 #[(78 : UInt8), (111 : UInt8), (118 : UInt8), (101 : UInt8), (109 : UInt8),
 (98 : UInt8), (101 : UInt8), (114 : UInt8)])),
 Option.some
 (Go.Value.string
 (ByteArray.mk
 #[(68 : UInt8), (101 : UInt8), (99 : UInt8), (101 : UInt8), (109 : UInt8), (98 : UInt8),
 (101 : UInt8), (114 : UInt8)]))]
 ((0 : Nat) + Int.toNat (Go.IntKind.wrap Go.IntKind.i64 (m - (1 : Int))) * (1 : Nat))))]) ∧
 Int.ofNat (4 : Nat) = Int.ofNat (4 : Nat) ∧
 Go.Proofs.YthcjocelokjifaaGreatDoor.rng y ∧
 Go.Value.agg
 (Array.mk
 [Go.Value.iface (117 : Nat)
 (Go.Value.agg
 (Array.mk
 [Go.Value.bool (Decidable.decide (y < (0 : Int))),
 Go.Value.int Go.IntKind.u64 (Int.ofNat (0 : Nat)),
 Go.Value.int Go.IntKind.u64 (Int.ofNat (Int.natAbs y)),
 Go.Value.int Go.IntKind.i64 (Int.ofNat (0 : Nat))]))]) =
 Go.Value.agg
 (Array.mk
 [Go.Value.iface (117 : Nat)
 (Go.Value.agg
 (Array.mk
 [Go.Value.bool (Decidable.decide (y < (0 : Int))),
 Go.Value.int Go.IntKind.u64 (Int.ofNat (0 : Nat)),
 Go.Value.int Go.IntKind.u64 (Int.ofNat (Int.natAbs y)),
 Go.Value.int Go.IntKind.i64 (Int.ofNat (0 : Nat))]))]) ∧
 Go.Proofs.YthcjocelokjifaaGreatDoor.rng y ∧
 Go.Proofs.YthcjocelokjifaaGreatDoor.rng m ∧
 Go.Value.agg
 (Array.mk
 [Go.Value.iface (117 : Nat)
 (Go.Value.agg
 (Array.mk
 [Go.Value.bool (Decidable.decide (m < (0 : Int))),
 Go.Value.int Go.IntKind.u64 (Int.ofNat (0 : Nat)),
 Go.Value.int Go.IntKind.u64 (Int.ofNat (Int.natAbs m)),
 Go.Value.int Go.IntKind.i64 (Int.ofNat (0 : Nat))]))]) =
 Go.Value.agg
 (Array.mk
 [Go.Value.iface (117 : Nat)
 (Go.Value.agg
 (Array.mk
 [Go.Value.bool (Decidable.decide (m < (0 : Int))),
 Go.Value.int Go.IntKind.u64 (Int.ofNat (0 : Nat)),
 Go.Value.int Go.IntKind.u64 (Int.ofNat (Int.natAbs m)),
 Go.Value.int Go.IntKind.i64 (Int.ofNat (0 : Nat))]))]) ∧
 Go.Proofs.YthcjocelokjifaaGreatDoor.rng m ∧
 Go.Proofs.YthcjocelokjifaaGreatDoor.rng d ∧
 Go.Value.agg
 (Array.mk
 [Go.Value.iface (117 : Nat)
 (Go.Value.agg
 (Array.mk
 [Go.Value.bool (Decidable.decide (d < (0 : Int))),
 Go.Value.int Go.IntKind.u64 (Int.ofNat (0 : Nat)),
 Go.Value.int Go.IntKind.u64 (Int.ofNat (Int.natAbs d)),
 Go.Value.int Go.IntKind.i64 (Int.ofNat (0 : Nat))]))]) =
 Go.Value.agg
 (Array.mk
 [Go.Value.iface (117 : Nat)
 (Go.Value.agg
 (Array.mk
 [Go.Value.bool (Decidable.decide (d < (0 : Int))),
 Go.Value.int Go.IntKind.u64 (Int.ofNat (0 : Nat)),
 Go.Value.int Go.IntKind.u64 (Int.ofNat (Int.natAbs d)),
 Go.Value.int Go.IntKind.i64 (Int.ofNat (0 : Nat))]))]) ∧
 Go.Proofs.YthcjocelokjifaaGreatDoor.rng d ∧
 Go.Proofs.YthcjocelokjifaaGreatDoor.Same
 [Go.Value.agg
 (Array.mk
 [Go.Value.int Go.IntKind.i64 y, Go.Value.int Go.IntKind.i64 m,
 Go.Value.int Go.IntKind.i64 d])]
 [Go.Value.agg
 (Array.mk
 [Go.Value.int Go.IntKind.i64 y, Go.Value.int Go.IntKind.i64 m,
 Go.Value.int Go.IntKind.i64 d])] ∧
 Go.Proofs.YthcjocelokjifaaGreatDoor.rng w ∧
 Go.Proofs.YthcjocelokjifaaGreatDoor.Same
 [Go.Value.agg
 (Array.mk
 [Go.Value.int Go.IntKind.i64 y, Go.Value.int Go.IntKind.i64 m,
 Go.Value.int Go.IntKind.i64 d])]
 [Go.Value.agg
 (Array.mk
 [Go.Value.int Go.IntKind.i64 y, Go.Value.int Go.IntKind.i64 m,
 Go.Value.int Go.IntKind.i64 d])] ∧
 Go.Value.agg
 (Array.mk
 [Go.Value.iface (117 : Nat)
 (Go.Value.agg
 (Array.mk
 [Go.Value.bool (Decidable.decide (w < (0 : Int))),
 Go.Value.int Go.IntKind.u64 (Int.ofNat (0 : Nat)),
 Go.Value.int Go.IntKind.u64 (Int.ofNat (Int.natAbs w)),
 Go.Value.int Go.IntKind.i64 (Int.ofNat (0 : Nat))]))]) =
 Go.Value.agg
 (Array.mk
 [Go.Value.iface (117 : Nat)
 (Go.Value.agg
 (Array.mk
 [Go.Value.bool (Decidable.decide (w < (0 : Int))),
 Go.Value.int Go.IntKind.u64 (Int.ofNat (0 : Nat)),
 Go.Value.int Go.IntKind.u64 (Int.ofNat (Int.natAbs w)),
 Go.Value.int Go.IntKind.i64 (Int.ofNat (0 : Nat))]))]) ∧
 Go.Proofs.YthcjocelokjifaaGreatDoor.rng w ∧
 Go.Proofs.YthcjocelokjifaaGreatDoor.Same
 [Go.Value.agg
 (Array.mk
 [Go.Value.int Go.IntKind.i64 y, Go.Value.int Go.IntKind.i64 m,
 Go.Value.int Go.IntKind.i64 d])]
 [Go.Value.agg
 (Array.mk
 [Go.Value.int Go.IntKind.i64 y, Go.Value.int Go.IntKind.i64 m,
 Go.Value.int Go.IntKind.i64 d])] ∧
 Go.Proofs.YthcjocelokjifaaGreatDoor.rng j ∧
 Go.Proofs.YthcjocelokjifaaGreatDoor.Same
 [Go.Value.agg
 (Array.mk
 [Go.Value.int Go.IntKind.i64 y, Go.Value.int Go.IntKind.i64 m,
 Go.Value.int Go.IntKind.i64 d])]
 [Go.Value.agg
 (Array.mk
 [Go.Value.int Go.IntKind.i64 y, Go.Value.int Go.IntKind.i64 m,
 Go.Value.int Go.IntKind.i64 d])] ∧
 Go.Value.agg
 (Array.mk
 [Go.Value.iface (117 : Nat)
 (Go.Value.agg
 (Array.mk
 [Go.Value.bool (Decidable.decide (j < (0 : Int))),
 Go.Value.int Go.IntKind.u64 (Int.ofNat (0 : Nat)),
 Go.Value.int Go.IntKind.u64 (Int.ofNat (Int.natAbs j)),
 Go.Value.int Go.IntKind.i64 (Int.ofNat (0 : Nat))]))]) =
 Go.Value.agg
 (Array.mk
 [Go.Value.iface (117 : Nat)
 (Go.Value.agg
 (Array.mk
 [Go.Value.bool (Decidable.decide (j < (0 : Int))),
 Go.Value.int Go.IntKind.u64 (Int.ofNat (0 : Nat)),
 Go.Value.int Go.IntKind.u64 (Int.ofNat (Int.natAbs j)),
 Go.Value.int Go.IntKind.i64 (Int.ofNat (0 : Nat))]))]) ∧
 Go.Proofs.YthcjocelokjifaaGreatDoor.rng j ∧
 Go.Proofs.YthcjocelokjifaaGreatDoor.Same
 [Go.Value.agg
 (Array.mk
 [Go.Value.int Go.IntKind.i64 y,
 Go.Value.int Go.IntKind.i64 m,
 Go.Value.int Go.IntKind.i64 d])]
 [Go.Value.agg
 (Array.mk
 [Go.Value.int Go.IntKind.i64 y,
 Go.Value.int Go.IntKind.i64 m,
 Go.Value.int Go.IntKind.i64 d])] ∧
 Go.Proofs.YthcjocelokjifaaGreatDoor.rng k ∧
 Go.Proofs.YthcjocelokjifaaGreatDoor.Same
 [Go.Value.agg
 (Array.mk
 [Go.Value.int Go.IntKind.i64 y,
 Go.Value.int Go.IntKind.i64 m,
 Go.Value.int Go.IntKind.i64 d])]
 [Go.Value.agg
 (Array.mk
 [Go.Value.int Go.IntKind.i64 y,
 Go.Value.int Go.IntKind.i64 m,
 Go.Value.int Go.IntKind.i64 d])] ∧
 Go.Value.agg
 (Array.mk
 [Go.Value.iface (117 : Nat)
 (Go.Value.agg
 (Array.mk
 [Go.Value.bool
 (Decidable.decide (k < (0 : Int))),
 Go.Value.int Go.IntKind.u64
 (Int.ofNat (0 : Nat)),
 Go.Value.int Go.IntKind.u64
 (Int.ofNat (Int.natAbs k)),
 Go.Value.int Go.IntKind.i64
 (Int.ofNat (0 : Nat))]))]) =
 Go.Value.agg
 (Array.mk
 [Go.Value.iface (117 : Nat)
 (Go.Value.agg
 (Array.mk
 [Go.Value.bool
 (Decidable.decide (k < (0 : Int))),
 Go.Value.int Go.IntKind.u64
 (Int.ofNat (0 : Nat)),
 Go.Value.int Go.IntKind.u64
 (Int.ofNat (Int.natAbs k)),
 Go.Value.int Go.IntKind.i64
 (Int.ofNat (0 : Nat))]))]) ∧
 Go.Proofs.YthcjocelokjifaaGreatDoor.rng k ∧
 Go.Proofs.YthcjocelokjifaaGreatDoor.Same
 [Go.Value.agg
 (Array.mk
 [Go.Value.int Go.IntKind.i64 y,
 Go.Value.int Go.IntKind.i64 m,
 Go.Value.int Go.IntKind.i64 d])]
 [Go.Value.agg
 (Array.mk
 [Go.Value.int Go.IntKind.i64 y,
 Go.Value.int Go.IntKind.i64 m,
 Go.Value.int Go.IntKind.i64 d])] ∧
 Go.Pe.bsel
 (Decidable.decide
 ((0 : Int) ≤
 Go.IntKind.wrap Go.IntKind.i64 (w - (1 : Int))) &&
 Decidable.decide
 (Go.IntKind.wrap Go.IntKind.i64 (w - (1 : Int)) <
 ↑(7 : Nat)))
 (Go.Pe.bsel
 (Nat.blt
 ((0 : Nat) +
 Int.toNat
 (Go.IntKind.wrap Go.IntKind.i64
 (w - (1 : Int))) *
 (1 : Nat))
 (List.length
 [Option.some
 (Go.Value.string
 (ByteArray.mk
 #[(77 : UInt8), (111 : UInt8),
 (110 : UInt8), (100 : UInt8),
 (97 : UInt8), (121 : UInt8)])),
 Option.some
 (Go.Value.string
 (ByteArray.mk
 #[(84 : UInt8), (117 : UInt8),
 (101 : UInt8), (115 : UInt8),
 (100 : UInt8), (97 : UInt8),
 (121 : UInt8)])),
 Option.some
 (Go.Value.string
 (ByteArray.mk
 #[(87 : UInt8), (101 : UInt8),
 (100 : UInt8), (110 : UInt8),
 (101 : UInt8), (115 : UInt8),
 (100 : UInt8), (97 : UInt8),
 (121 : UInt8)])),
 Option.some
 (Go.Value.string
 (ByteArray.mk
 #[(84 : UInt8), (104 : UInt8),
 (117 : UInt8), (114 : UInt8),
 (115 : UInt8), (100 : UInt8),
 (97 : UInt8), (121 : UInt8)])),
 Option.some
 (Go.Value.string
 (ByteArray.mk
 #[(70 : UInt8), (114 : UInt8),
 (105 : UInt8), (100 : UInt8),
 (97 : UInt8), (121 : UInt8)])),
 Option.some
 (Go.Value.string
 (ByteArray.mk
 #[(83 : UInt8), (97 : UInt8),
 (116 : UInt8), (117 : UInt8),
 (114 : UInt8), (100 : UInt8),
 (97 : UInt8), (121 : UInt8)])),
 Option.some
 (Go.Value.string
 (ByteArray.mk
 #[(83 : UInt8), (117 : UInt8),
 (110 : UInt8), (100 : UInt8),
 (97 : UInt8), (121 : UInt8)]))]))
 (Go.Proofs.YthcjocelokjifaaGreatDoor.Texty
 (S
 [Option.some
 (Go.Value.string
 (ByteArray.mk
 #[(77 : UInt8), (111 : UInt8),
 (110 : UInt8), (100 : UInt8),
 (97 : UInt8), (121 : UInt8)])),
 Option.some
 (Go.Value.string
 (ByteArray.mk
 #[(84 : UInt8), (117 : UInt8),
 (101 : UInt8), (115 : UInt8),
 (100 : UInt8), (97 : UInt8),
 (121 : UInt8)])),
 Option.some
 (Go.Value.string
 (ByteArray.mk
 #[(87 : UInt8), (101 : UInt8),
 (100 : UInt8), (110 : UInt8),
 (101 : UInt8), (115 : UInt8),
 (100 : UInt8), (97 : UInt8),
 (121 : UInt8)])),
 Option.some
 (Go.Value.string
 (ByteArray.mk
 #[(84 : UInt8), (104 : UInt8),
 (117 : UInt8), (114 : UInt8),
 (115 : UInt8), (100 : UInt8),
 (97 : UInt8), (121 : UInt8)])),
 Option.some
 (Go.Value.string
 (ByteArray.mk
 #[(70 : UInt8), (114 : UInt8),
 (105 : UInt8), (100 : UInt8),
 (97 : UInt8), (121 : UInt8)])),
 Option.some
 (Go.Value.string
 (ByteArray.mk
 #[(83 : UInt8), (97 : UInt8),
 (116 : UInt8), (117 : UInt8),
 (114 : UInt8), (100 : UInt8),
 (97 : UInt8), (121 : UInt8)])),
 Option.some
 (Go.Value.string
 (ByteArray.mk
 #[(83 : UInt8), (117 : UInt8),
 (110 : UInt8), (100 : UInt8),
 (97 : UInt8), (121 : UInt8)]))]
 ((0 : Nat) +
 Int.toNat
 (Go.IntKind.wrap Go.IntKind.i64
 (w - (1 : Int))) *
 (1 : Nat))) ∧
 Go.Proofs.YthcjocelokjifaaGreatDoor.Same
 [Go.Value.agg
 (Array.mk
 [Go.Value.int Go.IntKind.i64 y,
 Go.Value.int Go.IntKind.i64 m,
 Go.Value.int Go.IntKind.i64 d])]
 [Go.Value.agg
 (Array.mk
 [Go.Value.int Go.IntKind.i64 y,
 Go.Value.int Go.IntKind.i64 m,
 Go.Value.int Go.IntKind.i64 d])] ∧
 Go.Pe.bsel
 (Decidable.decide
 ((0 : Int) ≤
 Go.IntKind.wrap Go.IntKind.i64
 (w - (1 : Int))) &&
 Decidable.decide
 (Go.IntKind.wrap Go.IntKind.i64
 (w - (1 : Int)) <
 ↑(7 : Nat)))
 (Go.Pe.bsel
 (Nat.blt
 ((0 : Nat) +
 Int.toNat
 (Go.IntKind.wrap Go.IntKind.i64
 (w - (1 : Int))) *
 (1 : Nat))
 (List.length
 [Option.some
 (Go.Value.string
 (ByteArray.mk
 #[(77 : UInt8), (111 : UInt8),
 (110 : UInt8), (100 : UInt8),
 (97 : UInt8), (121 : UInt8)])),
 Option.some
 (Go.Value.string
 (ByteArray.mk
 #[(84 : UInt8), (117 : UInt8),
 (101 : UInt8), (115 : UInt8),
 (100 : UInt8), (97 : UInt8),
 (121 : UInt8)])),
 Option.some
 (Go.Value.string
 (ByteArray.mk
 #[(87 : UInt8), (101 : UInt8),
 (100 : UInt8), (110 : UInt8),
 (101 : UInt8), (115 : UInt8),
 (100 : UInt8), (97 : UInt8),
 (121 : UInt8)])),
 Option.some
 (Go.Value.string
 (ByteArray.mk
 #[(84 : UInt8), (104 : UInt8),
 (117 : UInt8), (114 : UInt8),
 (115 : UInt8), (100 : UInt8),
 (97 : UInt8), (121 : UInt8)])),
 Option.some
 (Go.Value.string
 (ByteArray.mk
 #[(70 : UInt8), (114 : UInt8),
 (105 : UInt8), (100 : UInt8),
 (97 : UInt8), (121 : UInt8)])),
 Option.some
 (Go.Value.string
 (ByteArray.mk
 #[(83 : UInt8), (97 : UInt8),
 (116 : UInt8), (117 : UInt8),
 (114 : UInt8), (100 : UInt8),
 (97 : UInt8), (121 : UInt8)])),
 Option.some
 (Go.Value.string
 (ByteArray.mk
 #[(83 : UInt8), (117 : UInt8),
 (110 : UInt8), (100 : UInt8),
 (97 : UInt8),
 (121 : UInt8)]))]))
 (Go.Value.agg
 (Array.mk
 [Go.Value.iface (131 : Nat)
 (Go.Value.string
 (S
 [Option.some
 (Go.Value.string
 (ByteArray.mk
 #[(77 : UInt8),
 (111 : UInt8),
 (110 : UInt8),
 (100 : UInt8),
 (97 : UInt8),
 (121 : UInt8)])),
 Option.some
 (Go.Value.string
 (ByteArray.mk
 #[(84 : UInt8),
 (117 : UInt8),
 (101 : UInt8),
 (115 : UInt8),
 (100 : UInt8),
 (97 : UInt8),
 (121 : UInt8)])),
 Option.some
 (Go.Value.string
 (ByteArray.mk
 #[(87 : UInt8),
 (101 : UInt8),
 (100 : UInt8),
 (110 : UInt8),
 (101 : UInt8),
 (115 : UInt8),
 (100 : UInt8),
 (97 : UInt8),
 (121 : UInt8)])),
 Option.some
 (Go.Value.string
 (ByteArray.mk
 #[(84 : UInt8),
 (104 : UInt8),
 (117 : UInt8),
 (114 : UInt8),
 (115 : UInt8),
 (100 : UInt8),
 (97 : UInt8),
 (121 : UInt8)])),
 Option.some
 (Go.Value.string
 (ByteArray.mk
 #[(70 : UInt8),
 (114 : UInt8),
 (105 : UInt8),
 (100 : UInt8),
 (97 : UInt8),
 (121 : UInt8)])),
 Option.some
 (Go.Value.string
 (ByteArray.mk
 #[(83 : UInt8),
 (97 : UInt8),
 (116 : UInt8),
 (117 : UInt8),
 (114 : UInt8),
 (100 : UInt8),
 (97 : UInt8),
 (121 : UInt8)])),
 Option.some
 (Go.Value.string
 (ByteArray.mk
 #[(83 : UInt8),
 (117 : UInt8),
 (110 : UInt8),
 (100 : UInt8),
 (97 : UInt8),
 (121 : UInt8)]))]
 ((0 : Nat) +
 Int.toNat
 (Go.IntKind.wrap
 Go.IntKind.i64
 (w - (1 : Int))) *
 (1 : Nat))))]) =
 Go.Value.agg
 (Array.mk
 [Go.Value.iface (131 : Nat)
 (Go.Value.string
 (S
 [Option.some
 (Go.Value.string
 (ByteArray.mk
 #[(77 : UInt8),
 (111 : UInt8),
 (110 : UInt8),
 (100 : UInt8),
 (97 : UInt8),
 (121 : UInt8)])),
 Option.some
 (Go.Value.string
 (ByteArray.mk
 #[(84 : UInt8),
 (117 : UInt8),
 (101 : UInt8),
 (115 : UInt8),
 (100 : UInt8),
 (97 : UInt8),
 (121 : UInt8)])),
 Option.some
 (Go.Value.string
 (ByteArray.mk
 #[(87 : UInt8),
 (101 : UInt8),
 (100 : UInt8),
 (110 : UInt8),
 (101 : UInt8),
 (115 : UInt8),
 (100 : UInt8),
 (97 : UInt8),
 (121 : UInt8)])),
 Option.some
 (Go.Value.string
 (ByteArray.mk
 #[(84 : UInt8),
 (104 : UInt8),
 (117 : UInt8),
 (114 : UInt8),
 (115 : UInt8),
 (100 : UInt8),
 (97 : UInt8),
 (121 : UInt8)])),
 Option.some
 (Go.Value.string
 (ByteArray.mk
 #[(70 : UInt8),
 (114 : UInt8),
 (105 : UInt8),
 (100 : UInt8),
 (97 : UInt8),
 (121 : UInt8)])),
 Option.some
 (Go.Value.string
 (ByteArray.mk
 #[(83 : UInt8),
 (97 : UInt8),
 (116 : UInt8),
 (117 : UInt8),
 (114 : UInt8),
 (100 : UInt8),
 (97 : UInt8),
 (121 : UInt8)])),
 Option.some
 (Go.Value.string
 (ByteArray.mk
 #[(83 : UInt8),
 (117 : UInt8),
 (110 : UInt8),
 (100 : UInt8),
 (97 : UInt8),
 (121 : UInt8)]))]
 ((0 : Nat) +
 Int.toNat
 (Go.IntKind.wrap
 Go.IntKind.i64
 (w - (1 : Int))) *
 (1 : Nat))))]) ∧
 Int.ofNat (4 : Nat) = Int.ofNat (4 : Nat) ∧
 Go.Pe.bsel
 (Decidable.decide
 ((0 : Int) ≤
 Go.IntKind.wrap Go.IntKind.i64
 (m - (1 : Int))) &&
 Decidable.decide
 (Go.IntKind.wrap Go.IntKind.i64
 (m - (1 : Int)) <
 ↑(12 : Nat)))
 (Go.Pe.bsel
 (Nat.blt
 ((0 : Nat) +
 Int.toNat
 (Go.IntKind.wrap
 Go.IntKind.i64
 (m - (1 : Int))) *
 (1 : Nat))
 (List.length
 [Option.some
 (Go.Value.string
 (ByteArray.mk
 #[(74 : UInt8),
 (97 : UInt8),
 (110 : UInt8),
 (117 : UInt8),
 (97 : UInt8),
 (114 : UInt8),
 (121 : UInt8)])),
 Option.some
 (Go.Value.string
 (ByteArray.mk
 #[(70 : UInt8),
 (101 : UInt8),
 (98 : UInt8),
 (114 : UInt8),
 (117 : UInt8),
 (97 : UInt8),
 (114 : UInt8),
 (121 : UInt8)])),
 Option.some
 (Go.Value.string
 (ByteArray.mk
 #[(77 : UInt8),
 (97 : UInt8),
 (114 : UInt8),
 (99 : UInt8),
 (104 : UInt8)])),
 Option.some
 (Go.Value.string
 (ByteArray.mk
 #[(65 : UInt8),
 (112 : UInt8),
 (114 : UInt8),
 (105 : UInt8),
 (108 : UInt8)])),
 Option.some
 (Go.Value.string
 (ByteArray.mk
 #[(77 : UInt8),
 (97 : UInt8),
 (121 : UInt8)])),
 Option.some
 (Go.Value.string
 (ByteArray.mk
 #[(74 : UInt8),
 (117 : UInt8),
 (110 : UInt8),
 (101 : UInt8)])),
 Option.some
 (Go.Value.string
 (ByteArray.mk
 #[(74 : UInt8),
 (117 : UInt8),
 (108 : UInt8),
 (121 : UInt8)])),
 Option.some
 (Go.Value.string
 (ByteArray.mk
 #[(65 : UInt8),
 (117 : UInt8),
 (103 : UInt8),
 (117 : UInt8),
 (115 : UInt8),
 (116 : UInt8)])),
 Option.some
 (Go.Value.string
 (ByteArray.mk
 #[(83 : UInt8),
 (101 : UInt8),
 (112 : UInt8),
 (116 : UInt8),
 (101 : UInt8),
 (109 : UInt8),
 (98 : UInt8),
 (101 : UInt8),
 (114 : UInt8)])),
 Option.some
 (Go.Value.string
 (ByteArray.mk
 #[(79 : UInt8),
 (99 : UInt8),
 (116 : UInt8),
 (111 : UInt8),
 (98 : UInt8),
 (101 : UInt8),
 (114 : UInt8)])),
 Option.some
 (Go.Value.string
 (ByteArray.mk
 #[(78 : UInt8),
 (111 : UInt8),
 (118 : UInt8),
 (101 : UInt8),
 (109 : UInt8),
 (98 : UInt8),
 (101 : UInt8),
 (114 : UInt8)])),
 Option.some
 (Go.Value.string
 (ByteArray.mk
 #[(68 : UInt8),
 (101 : UInt8),
 (99 : UInt8),
 (101 : UInt8),
 (109 : UInt8),
 (98 : UInt8),
 (101 : UInt8),
 (114 : UInt8)]))]))
 (Go.Proofs.YthcjocelokjifaaGreatDoor.Texty
 (S
 [Option.some
 (Go.Value.string
 (ByteArray.mk
 #[(74 : UInt8),
 (97 : UInt8),
 (110 : UInt8),
 (117 : UInt8),
 (97 : UInt8),
 (114 : UInt8),
 (121 : UInt8)])),
 Option.some
 (Go.Value.string
 (ByteArray.mk
 #[(70 : UInt8),
 (101 : UInt8),
 (98 : UInt8),
 (114 : UInt8),
 (117 : UInt8),
 (97 : UInt8),
 (114 : UInt8),
 (121 : UInt8)])),
 Option.some
 (Go.Value.string
 (ByteArray.mk
 #[(77 : UInt8),
 (97 : UInt8),
 (114 : UInt8),
 (99 : UInt8),
 (104 : UInt8)])),
 Option.some
 (Go.Value.string
 (ByteArray.mk
 #[(65 : UInt8),
 (112 : UInt8),
 (114 : UInt8),
 (105 : UInt8),
 (108 : UInt8)])),
 Option.some
 (Go.Value.string
 (ByteArray.mk
 #[(77 : UInt8),
 (97 : UInt8),
 (121 : UInt8)])),
 Option.some
 (Go.Value.string
 (ByteArray.mk
 #[(74 : UInt8),
 (117 : UInt8),
 (110 : UInt8),
 (101 : UInt8)])),
 Option.some
 (Go.Value.string
 (ByteArray.mk
 #[(74 : UInt8),
 (117 : UInt8),
 (108 : UInt8),
 (121 : UInt8)])),
 Option.some
 (Go.Value.string
 (ByteArray.mk
 #[(65 : UInt8),
 (117 : UInt8),
 (103 : UInt8),
 (117 : UInt8),
 (115 : UInt8),
 (116 : UInt8)])),
 Option.some
 (Go.Value.string
 (ByteArray.mk
 #[(83 : UInt8),
 (101 : UInt8),
 (112 : UInt8),
 (116 : UInt8),
 (101 : UInt8),
 (109 : UInt8),
 (98 : UInt8),
 (101 : UInt8),
 (114 : UInt8)])),
 Option.some
 (Go.Value.string
 (ByteArray.mk
 #[(79 : UInt8),
 (99 : UInt8),
 (116 : UInt8),
 (111 : UInt8),
 (98 : UInt8),
 (101 : UInt8),
 (114 : UInt8)])),
 Option.some
 (Go.Value.string
 (ByteArray.mk
 #[(78 : UInt8),
 (111 : UInt8),
 (118 : UInt8),
 (101 : UInt8),
 (109 : UInt8),
 (98 : UInt8),
 (101 : UInt8),
 (114 : UInt8)])),
 Option.some
 (Go.Value.string
 (ByteArray.mk
 #[(68 : UInt8),
 (101 : UInt8),
 (99 : UInt8),
 (101 : UInt8),
 (109 : UInt8),
 (98 : UInt8),
 (101 : UInt8),
 (114 : UInt8)]))]
 ((0 : Nat) +
 Int.toNat
 (Go.IntKind.wrap
 Go.IntKind.i64
 (m - (1 : Int))) *
 (1 : Nat))) ∧
 Go.Pe.bsel
 (Decidable.decide
 ((0 : Int) ≤
 Go.IntKind.wrap
 Go.IntKind.i64
 (m - (1 : Int))) &&
 Decidable.decide
 (Go.IntKind.wrap
 Go.IntKind.i64
 (m - (1 : Int)) <
 ↑(12 : Nat)))
 (Go.Pe.bsel
 (Nat.blt
 ((0 : Nat) +
 Int.toNat
 (Go.IntKind.wrap
 Go.IntKind.i64
 (m - (1 : Int))) *
 (1 : Nat))
 (List.length
 [Option.some
 (Go.Value.string
 (ByteArray.mk
 #[(74 : UInt8),
 (97 : UInt8),
 (110 : UInt8),
 (117 : UInt8),
 (97 : UInt8),
 (114 : UInt8),
 (121 : UInt8)])),
 Option.some
 (Go.Value.string
 (ByteArray.mk
 #[(70 : UInt8),
 (101 : UInt8),
 (98 : UInt8),
 (114 : UInt8),
 (117 : UInt8),
 (97 : UInt8),
 (114 : UInt8),
 (121 : UInt8)])),
 Option.some
 (Go.Value.string
 (ByteArray.mk
 #[(77 : UInt8),
 (97 : UInt8),
 (114 : UInt8),
 (99 : UInt8),
 (104 : UInt8)])),
 Option.some
 (Go.Value.string
 (ByteArray.mk
 #[(65 : UInt8),
 (112 : UInt8),
 (114 : UInt8),
 (105 : UInt8),
 (108 : UInt8)])),
 Option.some
 (Go.Value.string
 (ByteArray.mk
 #[(77 : UInt8),
 (97 : UInt8),
 (121 : UInt8)])),
 Option.some
 (Go.Value.string
 (ByteArray.mk
 #[(74 : UInt8),
 (117 : UInt8),
 (110 : UInt8),
 (101 : UInt8)])),
 Option.some
 (Go.Value.string
 (ByteArray.mk
 #[(74 : UInt8),
 (117 : UInt8),
 (108 : UInt8),
 (121 : UInt8)])),
 Option.some
 (Go.Value.string
 (ByteArray.mk
 #[(65 : UInt8),
 (117 : UInt8),
 (103 : UInt8),
 (117 : UInt8),
 (115 : UInt8),
 (116 : UInt8)])),
 Option.some
 (Go.Value.string
 (ByteArray.mk
 #[(83 : UInt8),
 (101 : UInt8),
 (112 : UInt8),
 (116 : UInt8),
 (101 : UInt8),
 (109 : UInt8),
 (98 : UInt8),
 (101 : UInt8),
 (114 : UInt8)])),
 Option.some
 (Go.Value.string
 (ByteArray.mk
 #[(79 : UInt8),
 (99 : UInt8),
 (116 : UInt8),
 (111 : UInt8),
 (98 : UInt8),
 (101 : UInt8),
 (114 : UInt8)])),
 Option.some
 (Go.Value.string
 (ByteArray.mk
 #[(78 : UInt8),
 (111 : UInt8),
 (118 : UInt8),
 (101 : UInt8),
 (109 : UInt8),
 (98 : UInt8),
 (101 : UInt8),
 (114 : UInt8)])),
 Option.some
 (Go.Value.string
 (ByteArray.mk
 #[(68 : UInt8),
 (101 : UInt8),
 (99 : UInt8),
 (101 : UInt8),
 (109 : UInt8),
 (98 : UInt8),
 (101 : UInt8),
 (114 :
 UInt8)]))]))
 (Go.Value.agg
 (Array.mk
 [Go.Value.iface
 (131 : Nat)
 (Go.Value.string
 (S
 [Option.some
 (Go.Value.string
 (ByteArray.mk
 #[(74 :
 UInt8),
 (97 :
 UInt8),
 (110 :
 UInt8),
 (117 :
 UInt8),
 (97 :
 UInt8),
 (114 :
 UInt8),
 (121 :
 UInt8)])),
 Option.some
 (Go.Value.string
 (ByteArray.mk
 #[(70 :
 UInt8),
 (101 :
 UInt8),
 (98 :
 UInt8),
 (114 :
 UInt8),
 (117 :
 UInt8),
 (97 :
 UInt8),
 (114 :
 UInt8),
 (121 :
 UInt8)])),
 Option.some
 (Go.Value.string
 (ByteArray.mk
 #[(77 :
 UInt8),
 (97 :
 UInt8),
 (114 :
 UInt8),
 (99 :
 UInt8),
 (104 :
 UInt8)])),
 Option.some
 (Go.Value.string
 (ByteArray.mk
 #[(65 :
 UInt8),
 (112 :
 UInt8),
 (114 :
 UInt8),
 (105 :
 UInt8),
 (108 :
 UInt8)])),
 Option.some
 (Go.Value.string
 (ByteArray.mk
 #[(77 :
 UInt8),
 (97 :
 UInt8),
 (121 :
 UInt8)])),
 Option.some
 (Go.Value.string
 (ByteArray.mk
 #[(74 :
 UInt8),
 (117 :
 UInt8),
 (110 :
 UInt8),
 (101 :
 UInt8)])),
 Option.some
 (Go.Value.string
 (ByteArray.mk
 #[(74 :
 UInt8),
 (117 :
 UInt8),
 (108 :
 UInt8),
 (121 :
 UInt8)])),
 Option.some
 (Go.Value.string
 (ByteArray.mk
 #[(65 :
 UInt8),
 (117 :
 UInt8),
 (103 :
 UInt8),
 (117 :
 UInt8),
 (115 :
 UInt8),
 (116 :
 UInt8)])),
 Option.some
 (Go.Value.string
 (ByteArray.mk
 #[(83 :
 UInt8),
 (101 :
 UInt8),
 (112 :
 UInt8),
 (116 :
 UInt8),
 (101 :
 UInt8),
 (109 :
 UInt8),
 (98 :
 UInt8),
 (101 :
 UInt8),
 (114 :
 UInt8)])),
 Option.some
 (Go.Value.string
 (ByteArray.mk
 #[(79 :
 UInt8),
 (99 :
 UInt8),
 (116 :
 UInt8),
 (111 :
 UInt8),
 (98 :
 UInt8),
 (101 :
 UInt8),
 (114 :
 UInt8)])),
 Option.some
 (Go.Value.string
 (ByteArray.mk
 #[(78 :
 UInt8),
 (111 :
 UInt8),
 (118 :
 UInt8),
 (101 :
 UInt8),
 (109 :
 UInt8),
 (98 :
 UInt8),
 (101 :
 UInt8),
 (114 :
 UInt8)])),
 Option.some
 (Go.Value.string
 (ByteArray.mk
 #[(68 :
 UInt8),
 (101 :
 UInt8),
 (99 :
 UInt8),
 (101 :
 UInt8),
 (109 :
 UInt8),
 (98 :
 UInt8),
 (101 :
 UInt8),
 (114 :
 UInt8)]))]
 ((0 : Nat) +
 Int.toNat
 (Go.IntKind.wrap
 Go.IntKind.i64
 (m -
 (1 :
 Int))) *
 (1 :
 Nat))))]) =
 Go.Value.agg
 (Array.mk
 [Go.Value.iface
 (131 : Nat)
 (Go.Value.string
 (S
 [Option.some
 (Go.Value.string
 (ByteArray.mk
 #[(74 :
 UInt8),
 (97 :
 UInt8),
 (110 :
 UInt8),
 (117 :
 UInt8),
 (97 :
 UInt8),
 (114 :
 UInt8),
 (121 :
 UInt8)])),
 Option.some
 (Go.Value.string
 (ByteArray.mk
 #[(70 :
 UInt8),
 (101 :
 UInt8),
 (98 :
 UInt8),
 (114 :
 UInt8),
 (117 :
 UInt8),
 (97 :
 UInt8),
 (114 :
 UInt8),
 (121 :
 UInt8)])),
 Option.some
 (Go.Value.string
 (ByteArray.mk
 #[(77 :
 UInt8),
 (97 :
 UInt8),
 (114 :
 UInt8),
 (99 :
 UInt8),
 (104 :
 UInt8)])),
 Option.some
 (Go.Value.string
 (ByteArray.mk
 #[(65 :
 UInt8),
 (112 :
 UInt8),
 (114 :
 UInt8),
 (105 :
 UInt8),
 (108 :
 UInt8)])),
 Option.some
 (Go.Value.string
 (ByteArray.mk
 #[(77 :
 UInt8),
 (97 :
 UInt8),
 (121 :
 UInt8)])),
 Option.some
 (Go.Value.string
 (ByteArray.mk
 #[(74 :
 UInt8),
 (117 :
 UInt8),
 (110 :
 UInt8),
 (101 :
 UInt8)])),
 Option.some
 (Go.Value.string
 (ByteArray.mk
 #[(74 :
 UInt8),
 (117 :
 UInt8),
 (108 :
 UInt8),
 (121 :
 UInt8)])),
 Option.some
 (Go.Value.string
 (ByteArray.mk
 #[(65 :
 UInt8),
 (117 :
 UInt8),
 (103 :
 UInt8),
 (117 :
 UInt8),
 (115 :
 UInt8),
 (116 :
 UInt8)])),
 Option.some
 (Go.Value.string
 (ByteArray.mk
 #[(83 :
 UInt8),
 (101 :
 UInt8),
 (112 :
 UInt8),
 (116 :
 UInt8),
 (101 :
 UInt8),
 (109 :
 UInt8),
 (98 :
 UInt8),
 (101 :
 UInt8),
 (114 :
 UInt8)])),
 Option.some
 (Go.Value.string
 (ByteArray.mk
 #[(79 :
 UInt8),
 (99 :
 UInt8),
 (116 :
 UInt8),
 (111 :
 UInt8),
 (98 :
 UInt8),
 (101 :
 UInt8),
 (114 :
 UInt8)])),
 Option.some
 (Go.Value.string
 (ByteArray.mk
 #[(78 :
 UInt8),
 (111 :
 UInt8),
 (118 :
 UInt8),
 (101 :
 UInt8),
 (109 :
 UInt8),
 (98 :
 UInt8),
 (101 :
 UInt8),
 (114 :
 UInt8)])),
 Option.some
 (Go.Value.string
 (ByteArray.mk
 #[(68 :
 UInt8),
 (101 :
 UInt8),
 (99 :
 UInt8),
 (101 :
 UInt8),
 (109 :
 UInt8),
 (98 :
 UInt8),
 (101 :
 UInt8),
 (114 :
 UInt8)]))]
 ((0 : Nat) +
 Int.toNat
 (Go.IntKind.wrap
 Go.IntKind.i64
 (m -
 (1 :
 Int))) *
 (1 :
 Nat))))]) ∧
 Int.ofNat (4 : Nat) =
 Int.ofNat (4 : Nat) ∧
 Go.Proofs.YthcjocelokjifaaGreatDoor.rng
 (Go.IntKind.wrap
 Go.IntKind.i64
 (Int.tdiv s
 (3600 : Int))) ∧
 Go.Value.agg
 (Array.mk
 [Go.Value.iface
 (117 : Nat)
 (Go.Value.agg
 (Array.mk
 [Go.Value.bool
 (Decidable.decide
 (Go.IntKind.wrap
 Go.IntKind.i64
 (Int.tdiv
 s
 (3600 :
 Int)) <
 (0 :
 Int))),
 Go.Value.int
 Go.IntKind.u64
 (Int.ofNat
 (0 :
 Nat)),
 Go.Value.int
 Go.IntKind.u64
 (Int.ofNat
 (Int.natAbs
 (Go.IntKind.wrap
 Go.IntKind.i64
 (Int.tdiv
 s
 (3600 :
 Int))))),
 Go.Value.int
 Go.IntKind.i64
 (Int.ofNat
 (0 :
 Nat))]))]) =
 Go.Value.agg
 (Array.mk
 [Go.Value.iface
 (117 : Nat)
 (Go.Value.agg
 (Array.mk
 [Go.Value.bool
 (Decidable.decide
 (Go.IntKind.wrap
 Go.IntKind.i64
 (Int.tdiv
 s
 (3600 :
 Int)) <
 (0 :
 Int))),
 Go.Value.int
 Go.IntKind.u64
 (Int.ofNat
 (0 :
 Nat)),
 Go.Value.int
 Go.IntKind.u64
 (Int.ofNat
 (Int.natAbs
 (Go.IntKind.wrap
 Go.IntKind.i64
 (Int.tdiv
 s
 (3600 :
 Int))))),
 Go.Value.int
 Go.IntKind.i64
 (Int.ofNat
 (0 :
 Nat))]))]) ∧
 Go.Proofs.YthcjocelokjifaaGreatDoor.rng
 (Go.IntKind.wrap
 Go.IntKind.i64
 (Int.tdiv s
 (3600 : Int))) ∧
 Go.Proofs.YthcjocelokjifaaGreatDoor.rng
 (Int.tmod
 (Go.IntKind.wrap
 Go.IntKind.i64
 (Int.tdiv s
 (60 : Int)))
 (60 : Int)) ∧
 Go.Value.agg
 (Array.mk
 [Go.Value.iface
 (117 :
 Nat)
 (Go.Value.agg
 (Array.mk
 [Go.Value.bool
 (Decidable.decide
 (Int.tmod
 (Go.IntKind.wrap
 Go.IntKind.i64
 (Int.tdiv
 s
 (60 :
 Int)))
 (60 :
 Int) <
 (0 :
 Int))),
 Go.Value.int
 Go.IntKind.u64
 (Int.ofNat
 (0 :
 Nat)),
 Go.Value.int
 Go.IntKind.u64
 (Int.ofNat
 (Int.natAbs
 (Int.tmod
 (Go.IntKind.wrap
 Go.IntKind.i64
 (Int.tdiv
 s
 (60 :
 Int)))
 (60 :
 Int)))),
 Go.Value.int
 Go.IntKind.i64
 (Int.ofNat
 (0 :
 Nat))]))]) =
 Go.Value.agg
 (Array.mk
 [Go.Value.iface
 (117 :
 Nat)
 (Go.Value.agg
 (Array.mk
 [Go.Value.bool
 (Decidable.decide
 (Int.tmod
 (Go.IntKind.wrap
 Go.IntKind.i64
 (Int.tdiv
 s
 (60 :
 Int)))
 (60 :
 Int) <
 (0 :
 Int))),
 Go.Value.int
 Go.IntKind.u64
 (Int.ofNat
 (0 :
 Nat)),
 Go.Value.int
 Go.IntKind.u64
 (Int.ofNat
 (Int.natAbs
 (Int.tmod
 (Go.IntKind.wrap
 Go.IntKind.i64
 (Int.tdiv
 s
 (60 :
 Int)))
 (60 :
 Int)))),
 Go.Value.int
 Go.IntKind.i64
 (Int.ofNat
 (0 :
 Nat))]))]) ∧
 Go.Proofs.YthcjocelokjifaaGreatDoor.rng
 (Int.tmod
 (Go.IntKind.wrap
 Go.IntKind.i64
 (Int.tdiv
 s
 (60 :
 Int)))
 (60 :
 Int)) ∧
 Go.Proofs.YthcjocelokjifaaGreatDoor.rng
 (Int.tmod s
 (60 :
 Int)) ∧
 Go.Value.agg
 (Array.mk
 [Go.Value.iface
 (117 :
 Nat)
 (Go.Value.agg
 (Array.mk
 [Go.Value.bool
 (Decidable.decide
 (Int.tmod
 s
 (60 :
 Int) <
 (0 :
 Int))),
 Go.Value.int
 Go.IntKind.u64
 (Int.ofNat
 (0 :
 Nat)),
 Go.Value.int
 Go.IntKind.u64
 (Int.ofNat
 (Int.natAbs
 (Int.tmod
 s
 (60 :
 Int)))),
 Go.Value.int
 Go.IntKind.i64
 (Int.ofNat
 (0 :
 Nat))]))]) =
 Go.Value.agg
 (Array.mk
 [Go.Value.iface
 (117 :
 Nat)
 (Go.Value.agg
 (Array.mk
 [Go.Value.bool
 (Decidable.decide
 (Int.tmod
 s
 (60 :
 Int) <
 (0 :
 Int))),
 Go.Value.int
 Go.IntKind.u64
 (Int.ofNat
 (0 :
 Nat)),
 Go.Value.int
 Go.IntKind.u64
 (Int.ofNat
 (Int.natAbs
 (Int.tmod
 s
 (60 :
 Int)))),
 Go.Value.int
 Go.IntKind.i64
 (Int.ofNat
 (0 :
 Nat))]))]) ∧
 Go.Proofs.YthcjocelokjifaaGreatDoor.rng
 (Int.tmod
 s
 (60 :
 Int)) ∧
 ((-9007199254740992 :
 Int) ≤
 o ∧
 o ≤
 (9007199254740992 :
 Int)) ∧
 ((-9007199254740992 :
 Int) ≤
 o ∧
 o ≤
 (9007199254740992 :
 Int)) ∧
 ((-9007199254740992 :
 Int) ≤
 o ∧
 o ≤
 (9007199254740992 :
 Int)) ∧
 Go.Value.iface
 (112 :
 Nat)
 (Go.Value.int
 Go.IntKind.i64
 o) =
 Go.Value.iface
 (112 :
 Nat)
 (Go.Value.int
 Go.IntKind.i64
 o) ∧
 Go.Proofs.YthcjocelokjifaaGreatDoor.Plainly
 base
 (Go.Value.agg
 (Array.mk
 [Go.Value.iface
 (112 :
 Nat)
 (Go.Value.int
 Go.IntKind.i64
 o)])) ∧
 Go.Proofs.YthcjocelokjifaaGreatDoor.rng
 (Go.IntKind.wrap
 Go.IntKind.i64
 (Int.tdiv
 s
 (3600 :
 Int))) ∧
 Go.Value.agg
 (Array.mk
 [Go.Value.iface
 (117 :
 Nat)
 (Go.Value.agg
 (Array.mk
 [Go.Value.bool
 (Decidable.decide
 (Go.IntKind.wrap
 Go.IntKind.i64
 (Int.tdiv
 s
 (3600 :
 Int)) <
 (0 :
 Int))),
 Go.Value.int
 Go.IntKind.u64
 (Int.ofNat
 (0 :
 Nat)),
 Go.Value.int
 Go.IntKind.u64
 (Int.ofNat
 (Int.natAbs
 (Go.IntKind.wrap
 Go.IntKind.i64
 (Int.tdiv
 s
 (3600 :
 Int))))),
 Go.Value.int
 Go.IntKind.i64
 (Int.ofNat
 (0 :
 Nat))]))]) =
 Go.Value.agg
 (Array.mk
 [Go.Value.iface
 (117 :
 Nat)
 (Go.Value.agg
 (Array.mk
 [Go.Value.bool
 (Decidable.decide
 (Go.IntKind.wrap
 Go.IntKind.i64
 (Int.tdiv
 s
 (3600 :
 Int)) <
 (0 :
 Int))),
 Go.Value.int
 Go.IntKind.u64
 (Int.ofNat
 (0 :
 Nat)),
 Go.Value.int
 Go.IntKind.u64
 (Int.ofNat
 (Int.natAbs
 (Go.IntKind.wrap
 Go.IntKind.i64
 (Int.tdiv
 s
 (3600 :
 Int))))),
 Go.Value.int
 Go.IntKind.i64
 (Int.ofNat
 (0 :
 Nat))]))]) ∧
 Go.Proofs.YthcjocelokjifaaGreatDoor.rng
 (Go.IntKind.wrap
 Go.IntKind.i64
 (Int.tdiv
 s
 (3600 :
 Int))) ∧
 Go.Proofs.YthcjocelokjifaaGreatDoor.rng
 (Int.tmod
 (Go.IntKind.wrap
 Go.IntKind.i64
 (Int.tdiv
 s
 (60 :
 Int)))
 (60 :
 Int)) ∧
 Go.Value.agg
 (Array.mk
 [Go.Value.iface
 (117 :
 Nat)
 (Go.Value.agg
 (Array.mk
 [Go.Value.bool
 (Decidable.decide
 (Int.tmod
 (Go.IntKind.wrap
 Go.IntKind.i64
 (Int.tdiv
 s
 (60 :
 Int)))
 (60 :
 Int) <
 (0 :
 Int))),
 Go.Value.int
 Go.IntKind.u64
 (Int.ofNat
 (0 :
 Nat)),
 Go.Value.int
 Go.IntKind.u64
 (Int.ofNat
 (Int.natAbs
 (Int.tmod
 (Go.IntKind.wrap
 Go.IntKind.i64
 (Int.tdiv
 s
 (60 :
 Int)))
 (60 :
 Int)))),
 Go.Value.int
 Go.IntKind.i64
 (Int.ofNat
 (0 :
 Nat))]))]) =
 Go.Value.agg
 (Array.mk
 [Go.Value.iface
 (117 :
 Nat)
 (Go.Value.agg
 (Array.mk
 [Go.Value.bool
 (Decidable.decide
 (Int.tmod
 (Go.IntKind.wrap
 Go.IntKind.i64
 (Int.tdiv
 s
 (60 :
 Int)))
 (60 :
 Int) <
 (0 :
 Int))),
 Go.Value.int
 Go.IntKind.u64
 (Int.ofNat
 (0 :
 Nat)),
 Go.Value.int
 Go.IntKind.u64
 (Int.ofNat
 (Int.natAbs
 (Int.tmod
 (Go.IntKind.wrap
 Go.IntKind.i64
 (Int.tdiv
 s
 (60 :
 Int)))
 (60 :
 Int)))),
 Go.Value.int
 Go.IntKind.i64
 (Int.ofNat
 (0 :
 Nat))]))]) ∧
 Go.Proofs.YthcjocelokjifaaGreatDoor.rng
 (Int.tmod
 (Go.IntKind.wrap
 Go.IntKind.i64
 (Int.tdiv
 s
 (60 :
 Int)))
 (60 :
 Int)) ∧
 Go.Proofs.YthcjocelokjifaaGreatDoor.rng
 (Int.tmod
 s
 (60 :
 Int)) ∧
 Go.Value.agg
 (Array.mk
 [Go.Value.iface
 (117 :
 Nat)
 (Go.Value.agg
 (Array.mk
 [Go.Value.bool
 (Decidable.decide
 (Int.tmod
 s
 (60 :
 Int) <
 (0 :
 Int))),
 Go.Value.int
 Go.IntKind.u64
 (Int.ofNat
 (0 :
 Nat)),
 Go.Value.int
 Go.IntKind.u64
 (Int.ofNat
 (Int.natAbs
 (Int.tmod
 s
 (60 :
 Int)))),
 Go.Value.int
 Go.IntKind.i64
 (Int.ofNat
 (0 :
 Nat))]))]) =
 Go.Value.agg
 (Array.mk
 [Go.Value.iface
 (117 :
 Nat)
 (Go.Value.agg
 (Array.mk
 [Go.Value.bool
 (Decidable.decide
 (Int.tmod
 s
 (60 :
 Int) <
 (0 :
 Int))),
 Go.Value.int
 Go.IntKind.u64
 (Int.ofNat
 (0 :
 Nat)),
 Go.Value.int
 Go.IntKind.u64
 (Int.ofNat
 (Int.natAbs
 (Int.tmod
 s
 (60 :
 Int)))),
 Go.Value.int
 Go.IntKind.i64
 (Int.ofNat
 (0 :
 Nat))]))]) ∧
 Go.Proofs.YthcjocelokjifaaGreatDoor.rng
 (Int.tmod
 s
 (60 :
 Int)) ∧
 ((-9007199254740992 :
 Int) ≤
 o ∧
 o ≤
 (9007199254740992 :
 Int)) ∧
 ((-9007199254740992 :
 Int) ≤
 o ∧
 o ≤
 (9007199254740992 :
 Int)) ∧
 ((-9007199254740992 :
 Int) ≤
 o ∧
 o ≤
 (9007199254740992 :
 Int)) ∧
 Go.Value.iface
 (112 :
 Nat)
 (Go.Value.int
 Go.IntKind.i64
 o) =
 Go.Value.iface
 (112 :
 Nat)
 (Go.Value.int
 Go.IntKind.i64
 o) ∧
 Go.Proofs.YthcjocelokjifaaGreatDoor.Plainly
 base
 (Go.Value.agg
 (Array.mk
 [Go.Value.iface
 (112 :
 Nat)
 (Go.Value.int
 Go.IntKind.i64
 o)])) ∧
 Go.Pe.bsel
 (Go.Pe.strEq
 t
 (ByteArray.mk
 #[(100 :
 UInt8),
 (97 :
 UInt8),
 (121 :
 UInt8),
 (32 :
 UInt8),
 (111 :
 UInt8),
 (102 :
 UInt8),
 (32 :
 UInt8),
 (121 :
 UInt8),
 (101 :
 UInt8),
 (97 :
 UInt8),
 (114 :
 UInt8)]))
 (K
 (Go.Value.bool
 Bool.true)
 (11 :
 Nat))
 (Go.Pe.bsel
 (Go.Pe.strEq
 t
 (ByteArray.mk
 #[(100 :
 UInt8),
 (97 :
 UInt8),
 (121 :
 UInt8),
 (32 :
 UInt8),
 (111 :
 UInt8),
 (102 :
 UInt8),
 (32 :
 UInt8),
 (119 :
 UInt8),
 (101 :
 UInt8),
 (101 :
 UInt8),
 (107 :
 UInt8)]))
 (K
 (Go.Value.bool
 Bool.true)
 (11 :
 Nat))
 (Go.Pe.bsel
 (Go.Pe.strEq
 t
 (ByteArray.mk
 #[(109 :
 UInt8),
 (111 :
 UInt8),
 (110 :
 UInt8),
 (116 :
 UInt8),
 (104 :
 UInt8),
 (32 :
 UInt8),
 (111 :
 UInt8),
 (102 :
 UInt8),
 (32 :
 UInt8),
 (121 :
 UInt8),
 (101 :
 UInt8),
 (97 :
 UInt8),
 (114 :
 UInt8)]))
 (K
 (Go.Value.bool
 Bool.true)
 (11 :
 Nat))
 (Go.Pe.bsel
 (Go.Pe.strEq
 t
 (ByteArray.mk
 #[(119 :
 UInt8),
 (101 :
 UInt8),
 (101 :
 UInt8),
 (107 :
 UInt8),
 (32 :
 UInt8),
 (111 :
 UInt8),
 (102 :
 UInt8),
 (32 :
 UInt8),
 (121 :
 UInt8),
 (101 :
 UInt8),
 (97 :
 UInt8),
 (114 :
 UInt8)]))
 (K
 (Go.Value.bool
 Bool.true)
 (11 :
 Nat))
 (Go.Pe.bsel
 (Go.Pe.strEq
 t
 (ByteArray.mk
 #[(100 :
 UInt8),
 (97 :
 UInt8),
 (121 :
 UInt8),
 (32 :
 UInt8),
 (111 :
 UInt8),
 (102 :
 UInt8),
 (32 :
 UInt8),
 (121 :
 UInt8),
 (101 :
 UInt8),
 (97 :
 UInt8),
 (114 :
 UInt8)]))
 (Go.Proofs.YthcjocelokjifaaGreatDoor.Same
 [Go.Value.agg
 (Array.mk
 [Go.Value.int
 Go.IntKind.i64
 y,
 Go.Value.int
 Go.IntKind.i64
 m,
 Go.Value.int
 Go.IntKind.i64
 d])]
 [Go.Value.agg
 (Array.mk
 [Go.Value.int
 Go.IntKind.i64
 y,
 Go.Value.int
 Go.IntKind.i64
 m,
 Go.Value.int
 Go.IntKind.i64
 d])] ∧
 Go.Proofs.YthcjocelokjifaaGreatDoor.rng
 j ∧
 K
 (Go.Value.bool
 Bool.false)
 (11 :
 Nat))
 (Go.Pe.bsel
 (Go.Pe.strEq
 t
 (ByteArray.mk
 #[(100 :
 UInt8),
 (97 :
 UInt8),
 (121 :
 UInt8),
 (32 :
 UInt8),
 (111 :
 UInt8),
 (102 :
 UInt8),
 (32 :
 UInt8),
 (119 :
 UInt8),
 (101 :
 UInt8),
 (101 :
 UInt8),
 (107 :
 UInt8)]))
 (Go.Proofs.YthcjocelokjifaaGreatDoor.Same
 [Go.Value.agg
 (Array.mk
 [Go.Value.int
 Go.IntKind.i64
 y,
 Go.Value.int
 Go.IntKind.i64
 m,
 Go.Value.int
 Go.IntKind.i64
 d])]
 [Go.Value.agg
 (Array.mk
 [Go.Value.int
 Go.IntKind.i64
 y,
 Go.Value.int
 Go.IntKind.i64
 m,
 Go.Value.int
 Go.IntKind.i64
 d])] ∧
 Go.Pe.bsel
 (Decidable.decide
 ((0 :
 Int) ≤
 Go.IntKind.wrap
 Go.IntKind.i64
 (w -
 (1 :
 Int))) &&
 Decidable.decide
 (Go.IntKind.wrap
 Go.IntKind.i64
 (w -
 (1 :
 Int)) <
 ↑(7 :
 Nat)))
 (Go.Pe.bsel
 (Nat.blt
 ((0 :
 Nat) +
 Int.toNat
 (Go.IntKind.wrap
 Go.IntKind.i64
 (w -
 (1 :
 Int))) *
 (1 :
 Nat))
 (List.length
 [Option.some
 (Go.Value.string
 (ByteArray.mk
 #[(77 :
 UInt8),
 (111 :
 UInt8),
 (110 :
 UInt8),
 (100 :
 UInt8),
 (97 :
 UInt8),
 (121 :
 UInt8)])),
 Option.some
 (Go.Value.string
 (ByteArray.mk
 #[(84 :
 UInt8),
 (117 :
 UInt8),
 (101 :
 UInt8),
 (115 :
 UInt8),
 (100 :
 UInt8),
 (97 :
 UInt8),
 (121 :
 UInt8)])),
 Option.some
 (Go.Value.string
 (ByteArray.mk
 #[(87 :
 UInt8),
 (101 :
 UInt8),
 (100 :
 UInt8),
 (110 :
 UInt8),
 (101 :
 UInt8),
 (115 :
 UInt8),
 (100 :
 UInt8),
 (97 :
 UInt8),
 (121 :
 UInt8)])),
 Option.some
 (Go.Value.string
 (ByteArray.mk
 #[(84 :
 UInt8),
 (104 :
 UInt8),
 (117 :
 UInt8),
 (114 :
 UInt8),
 (115 :
 UInt8),
 (100 :
 UInt8),
 (97 :
 UInt8),
 (121 :
 UInt8)])),
 Option.some
 (Go.Value.string
 (ByteArray.mk
 #[(70 :
 UInt8),
 (114 :
 UInt8),
 (105 :
 UInt8),
 (100 :
 UInt8),
 (97 :
 UInt8),
 (121 :
 UInt8)])),
 Option.some
 (Go.Value.string
 (ByteArray.mk
 #[(83 :
 UInt8),
 (97 :
 UInt8),
 (116 :
 UInt8),
 (117 :
 UInt8),
 (114 :
 UInt8),
 (100 :
 UInt8),
 (97 :
 UInt8),
 (121 :
 UInt8)])),
 Option.some
 (Go.Value.string
 (ByteArray.mk
 #[(83 :
 UInt8),
 (117 :
 UInt8),
 (110 :
 UInt8),
 (100 :
 UInt8),
 (97 :
 UInt8),
 (121 :
 UInt8)]))]))
 (Go.Proofs.YthcjocelokjifaaGreatDoor.Texty
 (S
 [Option.some
 (Go.Value.string
 (ByteArray.mk
 #[(77 :
 UInt8),
 (111 :
 UInt8),
 (110 :
 UInt8),
 (100 :
 UInt8),
 (97 :
 UInt8),
 (121 :
 UInt8)])),
 Option.some
 (Go.Value.string
 (ByteArray.mk
 #[(84 :
 UInt8),
 (117 :
 UInt8),
 (101 :
 UInt8),
 (115 :
 UInt8),
 (100 :
 UInt8),
 (97 :
 UInt8),
 (121 :
 UInt8)])),
 Option.some
 (Go.Value.string
 (ByteArray.mk
 #[(87 :
 UInt8),
 (101 :
 UInt8),
 (100 :
 UInt8),
 (110 :
 UInt8),
 (101 :
 UInt8),
 (115 :
 UInt8),
 (100 :
 UInt8),
 (97 :
 UInt8),
 (121 :
 UInt8)])),
 Option.some
 (Go.Value.string
 (ByteArray.mk
 #[(84 :
 UInt8),
 (104 :
 UInt8),
 (117 :
 UInt8),
 (114 :
 UInt8),
 (115 :
 UInt8),
 (100 :
 UInt8),
 (97 :
 UInt8),
 (121 :
 UInt8)])),
 Option.some
 (Go.Value.string
 (ByteArray.mk
 #[(70 :
 UInt8),
 (114 :
 UInt8),
 (105 :
 UInt8),
 (100 :
 UInt8),
 (97 :
 UInt8),
 (121 :
 UInt8)])),
 Option.some
 (Go.Value.string
 (ByteArray.mk
 #[(83 :
 UInt8),
 (97 :
 UInt8),
 (116 :
 UInt8),
 (117 :
 UInt8),
 (114 :
 UInt8),
 (100 :
 UInt8),
 (97 :
 UInt8),
 (121 :
 UInt8)])),
 Option.some
 (Go.Value.string
 (ByteArray.mk
 #[(83 :
 UInt8),
 (117 :
 UInt8),
 (110 :
 UInt8),
 (100 :
 UInt8),
 (97 :
 UInt8),
 (121 :
 UInt8)]))]
 ((0 :
 Nat) +
 Int.toNat
 (Go.IntKind.wrap
 Go.IntKind.i64
 (w -
 (1 :
 Int))) *
 (1 :
 Nat))) ∧
 K
 (Go.Value.bool
 Bool.false)
 (11 :
 Nat))
 False)
 False)
 (Go.Pe.bsel
 (Go.Pe.strEq
 t
 (ByteArray.mk
 #[(109 :
 UInt8),
 (111 :
 UInt8),
 (110 :
 UInt8),
 (116 :
 UInt8),
 (104 :
 UInt8),
 (32 :
 UInt8),
 (111 :
 UInt8),
 (102 :
 UInt8),
 (32 :
 UInt8),
 (121 :
 UInt8),
 (101 :
 UInt8),
 (97 :
 UInt8),
 (114 :
 UInt8)]))
 (Go.Pe.bsel
 (Decidable.decide
 ((0 :
 Int) ≤
 Go.IntKind.wrap
 Go.IntKind.i64
 (m -
 (1 :
 Int))) &&
 Decidable.decide
 (Go.IntKind.wrap
 Go.IntKind.i64
 (m -
 (1 :
 Int)) <
 ↑(12 :
 Nat)))
 (Go.Pe.bsel
 (Nat.blt
 ((0 :
 Nat) +
 Int.toNat
 (Go.IntKind.wrap
 Go.IntKind.i64
 (m -
 (1 :
 Int))) *
 (1 :
 Nat))
 (List.length
 [Option.some
 (Go.Value.string
 (ByteArray.mk
 #[(74 :
 UInt8),
 (97 :
 UInt8),
 (110 :
 UInt8),
 (117 :
 UInt8),
 (97 :
 UInt8),
 (114 :
 UInt8),
 (121 :
 UInt8)])),
 Option.some
 (Go.Value.string
 (ByteArray.mk
 #[(70 :
 UInt8),
 (101 :
 UInt8),
 (98 :
 UInt8),
 (114 :
 UInt8),
 (117 :
 UInt8),
 (97 :
 UInt8),
 (114 :
 UInt8),
 (121 :
 UInt8)])),
 Option.some
 (Go.Value.string
 (ByteArray.mk
 #[(77 :
 UInt8),
 (97 :
 UInt8),
 (114 :
 UInt8),
 (99 :
 UInt8),
 (104 :
 UInt8)])),
 Option.some
 (Go.Value.string
 (ByteArray.mk
 #[(65 :
 UInt8),
 (112 :
 UInt8),
 (114 :
 UInt8),
 (105 :
 UInt8),
 (108 :
 UInt8)])),
 Option.some
 (Go.Value.string
 (ByteArray.mk
 #[(77 :
 UInt8),
 (97 :
 UInt8),
 (121 :
 UInt8)])),
 Option.some
 (Go.Value.string
 (ByteArray.mk
 #[(74 :
 UInt8),
 (117 :
 UInt8),
 (110 :
 UInt8),
 (101 :
 UInt8)])),
 Option.some
 (Go.Value.string
 (ByteArray.mk
 #[(74 :
 UInt8),
 (117 :
 UInt8),
 (108 :
 UInt8),
 (121 :
 UInt8)])),
 Option.some
 (Go.Value.string
 (ByteArray.mk
 #[(65 :
 UInt8),
 (117 :
 UInt8),
 (103 :
 UInt8),
 (117 :
 UInt8),
 (115 :
 UInt8),
 (116 :
 UInt8)])),
 Option.some
 (Go.Value.string
 (ByteArray.mk
 #[(83 :
 UInt8),
 (101 :
 UInt8),
 (112 :
 UInt8),
 (116 :
 UInt8),
 (101 :
 UInt8),
 (109 :
 UInt8),
 (98 :
 UInt8),
 (101 :
 UInt8),
 (114 :
 UInt8)])),
 Option.some
 (Go.Value.string
 (ByteArray.mk
 #[(79 :
 UInt8),
 (99 :
 UInt8),
 (116 :
 UInt8),
 (111 :
 UInt8),
 (98 :
 UInt8),
 (101 :
 UInt8),
 (114 :
 UInt8)])),
 Option.some
 (Go.Value.string
 (ByteArray.mk
 #[(78 :
 UInt8),
 (111 :
 UInt8),
 (118 :
 UInt8),
 (101 :
 UInt8),
 (109 :
 UInt8),
 (98 :
 UInt8),
 (101 :
 UInt8),
 (114 :
 UInt8)])),
 Option.some
 (Go.Value.string
 (ByteArray.mk
 #[(68 :
 UInt8),
 (101 :
 UInt8),
 (99 :
 UInt8),
 (101 :
 UInt8),
 (109 :
 UInt8),
 (98 :
 UInt8),
 (101 :
 UInt8),
 (114 :
 UInt8)]))]))
 (Go.Proofs.YthcjocelokjifaaGreatDoor.Texty
 (S
 [Option.some
 (Go.Value.string
 (ByteArray.mk
 #[(74 :
 UInt8),
 (97 :
 UInt8),
 (110 :
 UInt8),
 (117 :
 UInt8),
 (97 :
 UInt8),
 (114 :
 UInt8),
 (121 :
 UInt8)])),
 Option.some
 (Go.Value.string
 (ByteArray.mk
 #[(70 :
 UInt8),
 (101 :
 UInt8),
 (98 :
 UInt8),
 (114 :
 UInt8),
 (117 :
 UInt8),
 (97 :
 UInt8),
 (114 :
 UInt8),
 (121 :
 UInt8)])),
 Option.some
 (Go.Value.string
 (ByteArray.mk
 #[(77 :
 UInt8),
 (97 :
 UInt8),
 (114 :
 UInt8),
 (99 :
 UInt8),
 (104 :
 UInt8)])),
 Option.some
 (Go.Value.string
 (ByteArray.mk
 #[(65 :
 UInt8),
 (112 :
 UInt8),
 (114 :
 UInt8),
 (105 :
 UInt8),
 (108 :
 UInt8)])),
 Option.some
 (Go.Value.string
 (ByteArray.mk
 #[(77 :
 UInt8),
 (97 :
 UInt8),
 (121 :
 UInt8)])),
 Option.some
 (Go.Value.string
 (ByteArray.mk
 #[(74 :
 UInt8),
 (117 :
 UInt8),
 (110 :
 UInt8),
 (101 :
 UInt8)])),
 Option.some
 (Go.Value.string
 (ByteArray.mk
 #[(74 :
 UInt8),
 (117 :
 UInt8),
 (108 :
 UInt8),
 (121 :
 UInt8)])),
 Option.some
 (Go.Value.string
 (ByteArray.mk
 #[(65 :
 UInt8),
 (117 :
 UInt8),
 (103 :
 UInt8),
 (117 :
 UInt8),
 (115 :
 UInt8),
 (116 :
 UInt8)])),
 Option.some
 (Go.Value.string
 (ByteArray.mk
 #[(83 :
 UInt8),
 (101 :
 UInt8),
 (112 :
 UInt8),
 (116 :
 UInt8),
 (101 :
 UInt8),
 (109 :
 UInt8),
 (98 :
 UInt8),
 (101 :
 UInt8),
 (114 :
 UInt8)])),
 Option.some
 (Go.Value.string
 (ByteArray.mk
 #[(79 :
 UInt8),
 (99 :
 UInt8),
 (116 :
 UInt8),
 (111 :
 UInt8),
 (98 :
 UInt8),
 (101 :
 UInt8),
 (114 :
 UInt8)])),
 Option.some
 (Go.Value.string
 (ByteArray.mk
 #[(78 :
 UInt8),
 (111 :
 UInt8),
 (118 :
 UInt8),
 (101 :
 UInt8),
 (109 :
 UInt8),
 (98 :
 UInt8),
 (101 :
 UInt8),
 (114 :
 UInt8)])),
 Option.some
 (Go.Value.string
 (ByteArray.mk
 #[(68 :
 UInt8),
 (101 :
 UInt8),
 (99 :
 UInt8),
 (101 :
 UInt8),
 (109 :
 UInt8),
 (98 :
 UInt8),
 (101 :
 UInt8),
 (114 :
 UInt8)]))]
 ((0 :
 Nat) +
 Int.toNat
 (Go.IntKind.wrap
 Go.IntKind.i64
 (m -
 (1 :
 Int))) *
 (1 :
 Nat))) ∧
 K
 (Go.Value.bool
 Bool.false)
 (11 :
 Nat))
 False)
 False)
 (Go.Pe.bsel
 (Go.Pe.strEq
 t
 (ByteArray.mk
 #[(119 :
 UInt8),
 (101 :
 UInt8),
 (101 :
 UInt8),
 (107 :
 UInt8),
 (32 :
 UInt8),
 (111 :
 UInt8),
 (102 :
 UInt8),
 (32 :
 UInt8),
 (121 :
 UInt8),
 (101 :
 UInt8),
 (97 :
 UInt8),
 (114 :
 UInt8)]))
 (Go.Proofs.YthcjocelokjifaaGreatDoor.Same
 [Go.Value.agg
 (Array.mk
 [Go.Value.int
 Go.IntKind.i64
 y,
 Go.Value.int
 Go.IntKind.i64
 m,
 Go.Value.int
 Go.IntKind.i64
 d])]
 [Go.Value.agg
 (Array.mk
 [Go.Value.int
 Go.IntKind.i64
 y,
 Go.Value.int
 Go.IntKind.i64
 m,
 Go.Value.int
 Go.IntKind.i64
 d])] ∧
 Go.Proofs.YthcjocelokjifaaGreatDoor.rng
 k ∧
 K
 (Go.Value.bool
 Bool.false)
 (11 :
 Nat))
 (K
 (Go.Value.bool
 Bool.true)
 (11 :
 Nat))))))))))
 False)
 False)
 False)
 False)
 False)
 False)
 False)
 False)
 False)
 False)
 False)
 False)
 False)
 False)
 False)
 False) := by kernel_rfl
theorem parts_tree2 (S : List (Option Value) → Nat → ByteArray) (K : Value → Nat → Prop) (base : World) (r1 r2 r3 r4 r5 r6 : Value) (y m d s w j k : Int) (t : ByteArray) :
    funcK (envS S (rulesP base (.agg ⟨[r1, r2, r3, r4, r5, r6]⟩) y m d s false 0 w j k)) 30 3 [.agg ⟨[r1, r2, r3, r4, r5, r6]⟩, .string t] tabs Tryz.prog.globals.size (fun u _ _ mw => K u mw) =
  (Go.Proofs.YthcjocelokjifaaGreatDoor.Same [] [] ∧
 Go.Proofs.YthcjocelokjifaaGreatDoor.Same [Go.Value.agg (Array.mk [r1, r2, r3, r4, r5, r6])] [Go.Value.agg (Array.mk [r1, r2, r3, r4, r5, r6])] ∧
 Go.Proofs.YthcjocelokjifaaGreatDoor.dateOk y m d ∧
 Go.Proofs.YthcjocelokjifaaGreatDoor.timeOk s Bool.false (Int.ofNat (0 : Nat)) ∧
 Go.Proofs.YthcjocelokjifaaGreatDoor.dateOk y m d ∧
 Go.Proofs.YthcjocelokjifaaGreatDoor.timeOk s Bool.false (Int.ofNat (0 : Nat)) ∧
 Go.Proofs.YthcjocelokjifaaGreatDoor.rng y ∧
 Go.Value.agg
 (Array.mk
 [Go.Value.iface (117 : Nat)
 (Go.Value.agg
 (Array.mk
 [Go.Value.bool (Decidable.decide (y < (0 : Int))), Go.Value.int Go.IntKind.u64 (Int.ofNat (0 : Nat)), Go.Value.int Go.IntKind.u64 (Int.ofNat (Int.natAbs y)),
 Go.Value.int Go.IntKind.i64 (Int.ofNat (0 : Nat))]))]) =
 Go.Value.agg
 (Array.mk
 [Go.Value.iface (117 : Nat)
 (Go.Value.agg
 (Array.mk
 [Go.Value.bool (Decidable.decide (y < (0 : Int))), Go.Value.int Go.IntKind.u64 (Int.ofNat (0 : Nat)), Go.Value.int Go.IntKind.u64 (Int.ofNat (Int.natAbs y)),
 Go.Value.int Go.IntKind.i64 (Int.ofNat (0 : Nat))]))]) ∧
 Go.Proofs.YthcjocelokjifaaGreatDoor.rng y ∧
 Go.Proofs.YthcjocelokjifaaGreatDoor.rng m ∧
 Go.Value.agg
 (Array.mk
 [Go.Value.iface (117 : Nat)
 (Go.Value.agg
 (Array.mk
 [Go.Value.bool (Decidable.decide (m < (0 : Int))), Go.Value.int Go.IntKind.u64 (Int.ofNat (0 : Nat)), Go.Value.int Go.IntKind.u64 (Int.ofNat (Int.natAbs m)),
 Go.Value.int Go.IntKind.i64 (Int.ofNat (0 : Nat))]))]) =
 Go.Value.agg
 (Array.mk
 [Go.Value.iface (117 : Nat)
 (Go.Value.agg
 (Array.mk
 [Go.Value.bool (Decidable.decide (m < (0 : Int))), Go.Value.int Go.IntKind.u64 (Int.ofNat (0 : Nat)), Go.Value.int Go.IntKind.u64 (Int.ofNat (Int.natAbs m)),
 Go.Value.int Go.IntKind.i64 (Int.ofNat (0 : Nat))]))]) ∧
 Go.Proofs.YthcjocelokjifaaGreatDoor.rng m ∧
 Go.Proofs.YthcjocelokjifaaGreatDoor.rng d ∧
 Go.Value.agg
 (Array.mk
 [Go.Value.iface (117 : Nat)
 (Go.Value.agg
 (Array.mk
 [Go.Value.bool (Decidable.decide (d < (0 : Int))), Go.Value.int Go.IntKind.u64 (Int.ofNat (0 : Nat)), Go.Value.int Go.IntKind.u64 (Int.ofNat (Int.natAbs d)),
 Go.Value.int Go.IntKind.i64 (Int.ofNat (0 : Nat))]))]) =
 Go.Value.agg
 (Array.mk
 [Go.Value.iface (117 : Nat)
 (Go.Value.agg
 (Array.mk
 [Go.Value.bool (Decidable.decide (d < (0 : Int))), Go.Value.int Go.IntKind.u64 (Int.ofNat (0 : Nat)), Go.Value.int Go.IntKind.u64 (Int.ofNat (Int.natAbs d)),
 Go.Value.int Go.IntKind.i64 (Int.ofNat (0 : Nat))]))]) ∧
 Go.Proofs.YthcjocelokjifaaGreatDoor.rng d ∧
 Go.Proofs.YthcjocelokjifaaGreatDoor.Same [Go.Value.agg (Array.mk [Go.Value.int Go.IntKind.i64 y, Go.Value.int Go.IntKind.i64 m, Go.Value.int Go.IntKind.i64 d])]
 [Go.Value.agg (Array.mk [Go.Value.int Go.IntKind.i64 y, Go.Value.int Go.IntKind.i64 m, Go.Value.int Go.IntKind.i64 d])] ∧
 Go.Proofs.YthcjocelokjifaaGreatDoor.rng w ∧
 Go.Proofs.YthcjocelokjifaaGreatDoor.Same [Go.Value.agg (Array.mk [Go.Value.int Go.IntKind.i64 y, Go.Value.int Go.IntKind.i64 m, Go.Value.int Go.IntKind.i64 d])]
 [Go.Value.agg (Array.mk [Go.Value.int Go.IntKind.i64 y, Go.Value.int Go.IntKind.i64 m, Go.Value.int Go.IntKind.i64 d])] ∧
 Go.Value.agg
 (Array.mk
 [Go.Value.iface (117 : Nat)
 (Go.Value.agg
 (Array.mk
 [Go.Value.bool (Decidable.decide (w < (0 : Int))), Go.Value.int Go.IntKind.u64 (Int.ofNat (0 : Nat)),
 Go.Value.int Go.IntKind.u64 (Int.ofNat (Int.natAbs w)), Go.Value.int Go.IntKind.i64 (Int.ofNat (0 : Nat))]))]) =
 Go.Value.agg
 (Array.mk
 [Go.Value.iface (117 : Nat)
 (Go.Value.agg
 (Array.mk
 [Go.Value.bool (Decidable.decide (w < (0 : Int))), Go.Value.int Go.IntKind.u64 (Int.ofNat (0 : Nat)),
 Go.Value.int Go.IntKind.u64 (Int.ofNat (Int.natAbs w)), Go.Value.int Go.IntKind.i64 (Int.ofNat (0 : Nat))]))]) ∧
 Go.Proofs.YthcjocelokjifaaGreatDoor.rng w ∧
 Go.Proofs.YthcjocelokjifaaGreatDoor.Same [Go.Value.agg (Array.mk [Go.Value.int Go.IntKind.i64 y, Go.Value.int Go.IntKind.i64 m, Go.Value.int Go.IntKind.i64 d])]
 [Go.Value.agg (Array.mk [Go.Value.int Go.IntKind.i64 y, Go.Value.int Go.IntKind.i64 m, Go.Value.int Go.IntKind.i64 d])] ∧
 Go.Proofs.YthcjocelokjifaaGreatDoor.rng j ∧
 Go.Proofs.YthcjocelokjifaaGreatDoor.Same
 [Go.Value.agg (Array.mk [Go.Value.int Go.IntKind.i64 y, Go.Value.int Go.IntKind.i64 m, Go.Value.int Go.IntKind.i64 d])]
 [Go.Value.agg (Array.mk [Go.Value.int Go.IntKind.i64 y, Go.Value.int Go.IntKind.i64 m, Go.Value.int Go.IntKind.i64 d])] ∧
 Go.Value.agg
 (Array.mk
 [Go.Value.iface (117 : Nat)
 (Go.Value.agg
 (Array.mk
 [Go.Value.bool (Decidable.decide (j < (0 : Int))), Go.Value.int Go.IntKind.u64 (Int.ofNat (0 : Nat)),
 Go.Value.int Go.IntKind.u64 (Int.ofNat (Int.natAbs j)), Go.Value.int Go.IntKind.i64 (Int.ofNat (0 : Nat))]))]) =
 Go.Value.agg
 (Array.mk
 [Go.Value.iface (117 : Nat)
 (Go.Value.agg
 (Array.mk
 [Go.Value.bool (Decidable.decide (j < (0 : Int))), Go.Value.int Go.IntKind.u64 (Int.ofNat (0 : Nat)),
 Go.Value.int Go.IntKind.u64 (Int.ofNat (Int.natAbs j)), Go.Value.int Go.IntKind.i64 (Int.ofNat (0 : Nat))]))]) ∧
 Go.Proofs.YthcjocelokjifaaGreatDoor.rng j ∧
 Go.Proofs.YthcjocelokjifaaGreatDoor.Same
 [Go.Value.agg (Array.mk [Go.Value.int Go.IntKind.i64 y, Go.Value.int Go.IntKind.i64 m, Go.Value.int Go.IntKind.i64 d])]
 [Go.Value.agg (Array.mk [Go.Value.int Go.IntKind.i64 y, Go.Value.int Go.IntKind.i64 m, Go.Value.int Go.IntKind.i64 d])] ∧
 Go.Proofs.YthcjocelokjifaaGreatDoor.rng k ∧
 Go.Proofs.YthcjocelokjifaaGreatDoor.Same
 [Go.Value.agg (Array.mk [Go.Value.int Go.IntKind.i64 y, Go.Value.int Go.IntKind.i64 m, Go.Value.int Go.IntKind.i64 d])]
 [Go.Value.agg (Array.mk [Go.Value.int Go.IntKind.i64 y, Go.Value.int Go.IntKind.i64 m, Go.Value.int Go.IntKind.i64 d])] ∧
 Go.Value.agg
 (Array.mk
 [Go.Value.iface (117 : Nat)
 (Go.Value.agg
 (Array.mk
 [Go.Value.bool (Decidable.decide (k < (0 : Int))), Go.Value.int Go.IntKind.u64 (Int.ofNat (0 : Nat)),
 Go.Value.int Go.IntKind.u64 (Int.ofNat (Int.natAbs k)), Go.Value.int Go.IntKind.i64 (Int.ofNat (0 : Nat))]))]) =
 Go.Value.agg
 (Array.mk
 [Go.Value.iface (117 : Nat)
 (Go.Value.agg
 (Array.mk
 [Go.Value.bool (Decidable.decide (k < (0 : Int))), Go.Value.int Go.IntKind.u64 (Int.ofNat (0 : Nat)),
 Go.Value.int Go.IntKind.u64 (Int.ofNat (Int.natAbs k)), Go.Value.int Go.IntKind.i64 (Int.ofNat (0 : Nat))]))]) ∧
 Go.Proofs.YthcjocelokjifaaGreatDoor.rng k ∧
 Go.Proofs.YthcjocelokjifaaGreatDoor.Same
 [Go.Value.agg (Array.mk [Go.Value.int Go.IntKind.i64 y, Go.Value.int Go.IntKind.i64 m, Go.Value.int Go.IntKind.i64 d])]
 [Go.Value.agg (Array.mk [Go.Value.int Go.IntKind.i64 y, Go.Value.int Go.IntKind.i64 m, Go.Value.int Go.IntKind.i64 d])] ∧
 Go.Pe.bsel
 (Decidable.decide ((0 : Int) ≤ Go.IntKind.wrap Go.IntKind.i64 (w - (1 : Int))) &&
 Decidable.decide (Go.IntKind.wrap Go.IntKind.i64 (w - (1 : Int)) < ↑(7 : Nat)))
 (Go.Pe.bsel
 (Nat.blt ((0 : Nat) + Int.toNat (Go.IntKind.wrap Go.IntKind.i64 (w - (1 : Int))) * (1 : Nat))
 (List.length
 [Option.some
 (Go.Value.string (ByteArray.mk #[(77 : UInt8), (111 : UInt8), (110 : UInt8), (100 : UInt8), (97 : UInt8), (121 : UInt8)])),
 Option.some
 (Go.Value.string
 (ByteArray.mk #[(84 : UInt8), (117 : UInt8), (101 : UInt8), (115 : UInt8), (100 : UInt8), (97 : UInt8), (121 : UInt8)])),
 Option.some
 (Go.Value.string
 (ByteArray.mk
 #[(87 : UInt8), (101 : UInt8), (100 : UInt8), (110 : UInt8), (101 : UInt8), (115 : UInt8), (100 : UInt8), (97 : UInt8),
 (121 : UInt8)])),
 Option.some
 (Go.Value.string
 (ByteArray.mk
 #[(84 : UInt8), (104 : UInt8), (117 : UInt8), (114 : UInt8), (115 : UInt8), (100 : UInt8), (97 : UInt8), (121 : UInt8)])),
 Option.some
 (Go.Value.string (ByteArray.mk #[(70 : UInt8), (114 : UInt8), (105 : UInt8), (100 : UInt8), (97 : UInt8), (121 : UInt8)])),
 Option.some
 (Go.Value.string
 (ByteArray.mk
 #[(83 : UInt8), (97 : UInt8), (116 : UInt8), (117 : UInt8), (114 : UInt8), (100 : UInt8), (97 : UInt8), (121 : UInt8)])),
 Option.some
 (Go.Value.string (ByteArray.mk #[(83 : UInt8), (117 : UInt8), (110 : UInt8), (100 : UInt8), (97 : UInt8), (121 : UInt8)]))]))
 (Go.Proofs.YthcjocelokjifaaGreatDoor.Texty
 (S
 [Option.some
 (Go.Value.string (ByteArray.mk #[(77 : UInt8), (111 : UInt8), (110 : UInt8), (100 : UInt8), (97 : UInt8), (121 : UInt8)])),
 Option.some
 (Go.Value.string
 (ByteArray.mk #[(84 : UInt8), (117 : UInt8), (101 : UInt8), (115 : UInt8), (100 : UInt8), (97 : UInt8), (121 : UInt8)])),
 Option.some
 (Go.Value.string
 (ByteArray.mk
 #[(87 : UInt8), (101 : UInt8), (100 : UInt8), (110 : UInt8), (101 : UInt8), (115 : UInt8), (100 : UInt8), (97 : UInt8),
 (121 : UInt8)])),
 Option.some
 (Go.Value.string
 (ByteArray.mk
 #[(84 : UInt8), (104 : UInt8), (117 : UInt8), (114 : UInt8), (115 : UInt8), (100 : UInt8), (97 : UInt8),
 (121 : UInt8)])),
 Option.some
 (Go.Value.string (ByteArray.mk #[(70 : UInt8), (114 : UInt8), (105 : UInt8), (100 : UInt8), (97 : UInt8), (121 : UInt8)])),
 Option.some
 (Go.Value.string
 (ByteArray.mk
 #[(83 : UInt8), (97 : UInt8), (116 : UInt8), (117 : UInt8), (114 : UInt8), (100 : UInt8), (97 : UInt8),
 (121 : UInt8)])),
 Option.some
 (Go.Value.string (ByteArray.mk #[(83 : UInt8), (117 : UInt8), (110 : UInt8), (100 : UInt8), (97 : UInt8), (121 : UInt8)]))]
 ((0 : Nat) + Int.toNat (Go.IntKind.wrap Go.IntKind.i64 (w - (1 : Int))) * (1 : Nat))) ∧
 Go.Proofs.YthcjocelokjifaaGreatDoor.Same
 [Go.Value.agg (Array.mk [Go.Value.int Go.IntKind.i64 y, Go.Value.int Go.IntKind.i64 m, Go.Value.int Go.IntKind.i64 d])]
 [Go.Value.agg (Array.mk [Go.Value.int Go.IntKind.i64 y, Go.Value.int Go.IntKind.i64 m, Go.Value.int Go.IntKind.i64 d])] ∧
 Go.Pe.bsel
 (Decidable.decide ((0 : Int) ≤ Go.IntKind.wrap Go.IntKind.i64 (w - (1 : Int))) &&
 Decidable.decide (Go.IntKind.wrap Go.IntKind.i64 (w - (1 : Int)) < ↑(7 : Nat)))
 (Go.Pe.bsel
 (Nat.blt ((0 : Nat) + Int.toNat (Go.IntKind.wrap Go.IntKind.i64 (w - (1 : Int))) * (1 : Nat))
 (List.length
 [Option.some
 (Go.Value.string
 (ByteArray.mk #[(77 : UInt8), (111 : UInt8), (110 : UInt8), (100 : UInt8), (97 : UInt8), (121 : UInt8)])),
 Option.some
 (Go.Value.string
 (ByteArray.mk
 #[(84 : UInt8), (117 : UInt8), (101 : UInt8), (115 : UInt8), (100 : UInt8), (97 : UInt8), (121 : UInt8)])),
 Option.some
 (Go.Value.string
 (ByteArray.mk
 #[(87 : UInt8), (101 : UInt8), (100 : UInt8), (110 : UInt8), (101 : UInt8), (115 : UInt8), (100 : UInt8),
 (97 : UInt8), (121 : UInt8)])),
 Option.some
 (Go.Value.string
 (ByteArray.mk
 #[(84 : UInt8), (104 : UInt8), (117 : UInt8), (114 : UInt8), (115 : UInt8), (100 : UInt8), (97 : UInt8),
 (121 : UInt8)])),
 Option.some
 (Go.Value.string
 (ByteArray.mk #[(70 : UInt8), (114 : UInt8), (105 : UInt8), (100 : UInt8), (97 : UInt8), (121 : UInt8)])),
 Option.some
 (Go.Value.string
 (ByteArray.mk
 #[(83 : UInt8), (97 : UInt8), (116 : UInt8), (117 : UInt8), (114 : UInt8), (100 : UInt8), (97 : UInt8),
 (121 : UInt8)])),
 Option.some
 (Go.Value.string
 (ByteArray.mk #[(83 : UInt8), (117 : UInt8), (110 : UInt8), (100 : UInt8), (97 : UInt8), (121 : UInt8)]))]))
 (Go.Value.agg
 (Array.mk
 [Go.Value.iface (131 : Nat)
 (Go.Value.string
 (S
 [Option.some
 (Go.Value.string
 (ByteArray.mk
 #[(77 : UInt8), (111 : UInt8), (110 : UInt8), (100 : UInt8), (97 : UInt8), (121 : UInt8)])),
 Option.some
 (Go.Value.string
 (ByteArray.mk
 #[(84 : UInt8), (117 : UInt8), (101 : UInt8), (115 : UInt8), (100 : UInt8), (97 : UInt8),
 (121 : UInt8)])),
 Option.some
 (Go.Value.string
 (ByteArray.mk
 #[(87 : UInt8), (101 : UInt8), (100 : UInt8), (110 : UInt8), (101 : UInt8), (115 : UInt8),
 (100 : UInt8), (97 : UInt8), (121 : UInt8)])),
 Option.some
 (Go.Value.string
 (ByteArray.mk
 #[(84 : UInt8), (104 : UInt8), (117 : UInt8), (114 : UInt8), (115 : UInt8), (100 : UInt8),
 (97 : UInt8), (121 : UInt8)])),
 Option.some
 (Go.Value.string
 (ByteArray.mk
 #[(70 : UInt8), (114 : UInt8), (105 : UInt8), (100 : UInt8), (97 : UInt8), (121 : UInt8)])),
 Option.some
 (Go.Value.string
 (ByteArray.mk
 #[(83 : UInt8), (97 : UInt8), (116 : UInt8), (117 : UInt8), (114 : UInt8), (100 : UInt8),
 (97 : UInt8), (121 : UInt8)])),
 Option.some
 (Go.Value.string
 (ByteArray.mk
 #[(83 : UInt8), (117 : UInt8), (110 : UInt8), (100 : UInt8), (97 : UInt8), (121 : UInt8)]))]
 ((0 : Nat) + Int.toNat (Go.IntKind.wrap Go.IntKind.i64 (w - (1 : Int))) * (1 : Nat))))]) =
 Go.Value.agg
 (Array.mk
 [Go.Value.iface (131 : Nat)
 (Go.Value.string
 (S
 [Option.some
 (Go.Value.string
 (ByteArray.mk
 #[(77 : UInt8), (111 : UInt8), (110 : UInt8), (100 : UInt8), (97 : UInt8), (121 : UInt8)])),
 Option.some
 (Go.Value.string
 (ByteArray.mk
 #[(84 : UInt8), (117 : UInt8), (101 : UInt8), (115 : UInt8), (100 : UInt8), (97 : UInt8),
 (121 : UInt8)])),
 Option.some
 (Go.Value.string
 (ByteArray.mk
 #[(87 : UInt8), (101 : UInt8), (100 : UInt8), (110 : UInt8), (101 : UInt8), (115 : UInt8),
 (100 : UInt8), (97 : UInt8), (121 : UInt8)])),
 Option.some
 (Go.Value.string
 (ByteArray.mk
 #[(84 : UInt8), (104 : UInt8), (117 : UInt8), (114 : UInt8), (115 : UInt8), (100 : UInt8),
 (97 : UInt8), (121 : UInt8)])),
 Option.some
 (Go.Value.string
 (ByteArray.mk
 #[(70 : UInt8), (114 : UInt8), (105 : UInt8), (100 : UInt8), (97 : UInt8), (121 : UInt8)])),
 Option.some
 (Go.Value.string
 (ByteArray.mk
 #[(83 : UInt8), (97 : UInt8), (116 : UInt8), (117 : UInt8), (114 : UInt8), (100 : UInt8),
 (97 : UInt8), (121 : UInt8)])),
 Option.some
 (Go.Value.string
 (ByteArray.mk
 #[(83 : UInt8), (117 : UInt8), (110 : UInt8), (100 : UInt8), (97 : UInt8), (121 : UInt8)]))]
 ((0 : Nat) + Int.toNat (Go.IntKind.wrap Go.IntKind.i64 (w - (1 : Int))) * (1 : Nat))))]) ∧
 Int.ofNat (4 : Nat) = Int.ofNat (4 : Nat) ∧
 Go.Pe.bsel
 (Decidable.decide ((0 : Int) ≤ Go.IntKind.wrap Go.IntKind.i64 (m - (1 : Int))) &&
 Decidable.decide (Go.IntKind.wrap Go.IntKind.i64 (m - (1 : Int)) < ↑(12 : Nat)))
 (Go.Pe.bsel
 (Nat.blt ((0 : Nat) + Int.toNat (Go.IntKind.wrap Go.IntKind.i64 (m - (1 : Int))) * (1 : Nat))
 (List.length
 [Option.some
 (Go.Value.string
 (ByteArray.mk
 #[(74 : UInt8), (97 : UInt8), (110 : UInt8), (117 : UInt8), (97 : UInt8), (114 : UInt8), (121 : UInt8)])),
 Option.some
 (Go.Value.string
 (ByteArray.mk
 #[(70 : UInt8), (101 : UInt8), (98 : UInt8), (114 : UInt8), (117 : UInt8), (97 : UInt8), (114 : UInt8),
 (121 : UInt8)])),
 Option.some
 (Go.Value.string (ByteArray.mk #[(77 : UInt8), (97 : UInt8), (114 : UInt8), (99 : UInt8), (104 : UInt8)])),
 Option.some
 (Go.Value.string (ByteArray.mk #[(65 : UInt8), (112 : UInt8), (114 : UInt8), (105 : UInt8), (108 : UInt8)])),
 Option.some (Go.Value.string (ByteArray.mk #[(77 : UInt8), (97 : UInt8), (121 : UInt8)])),
 Option.some (Go.Value.string (ByteArray.mk #[(74 : UInt8), (117 : UInt8), (110 : UInt8), (101 : UInt8)])),
 Option.some (Go.Value.string (ByteArray.mk #[(74 : UInt8), (117 : UInt8), (108 : UInt8), (121 : UInt8)])),
 Option.some
 (Go.Value.string
 (ByteArray.mk #[(65 : UInt8), (117 : UInt8), (103 : UInt8), (117 : UInt8), (115 : UInt8), (116 : UInt8)])),
 Option.some
 (Go.Value.string
 (ByteArray.mk
 #[(83 : UInt8), (101 : UInt8), (112 : UInt8), (116 : UInt8), (101 : UInt8), (109 : UInt8), (98 : UInt8),
 (101 : UInt8), (114 : UInt8)])),
 Option.some
 (Go.Value.string
 (ByteArray.mk
 #[(79 : UInt8), (99 : UInt8), (116 : UInt8), (111 : UInt8), (98 : UInt8), (101 : UInt8), (114 : UInt8)])),
 Option.some
 (Go.Value.string
 (ByteArray.mk
 #[(78 : UInt8), (111 : UInt8), (118 : UInt8), (101 : UInt8), (109 : UInt8), (98 : UInt8), (101 : UInt8),
 (114 : UInt8)])),
 Option.some
 (Go.Value.string
 (ByteArray.mk
 #[(68 : UInt8), (101 : UInt8), (99 : UInt8), (101 : UInt8), (109 : UInt8), (98 : UInt8), (101 : UInt8),
 (114 : UInt8)]))]))
 (Go.Proofs.YthcjocelokjifaaGreatDoor.Texty
 (S
 [Option.some
 (Go.Value.string
 (ByteArray.mk
 #[(74 : UInt8), (97 : UInt8), (110 : UInt8), (117 : UInt8), (97 : UInt8), (114 : UInt8),
 (121 : UInt8)])),
 Option.some
 (Go.Value.string
 (ByteArray.mk
 #[(70 : UInt8), (101 : UInt8), (98 : UInt8), (114 : UInt8), (117 : UInt8), (97 : UInt8), (114 : UInt8),
 (121 : UInt8)])),
 Option.some
 (Go.Value.string (ByteArray.mk #[(77 : UInt8), (97 : UInt8), (114 : UInt8), (99 : UInt8), (104 : UInt8)])),
 Option.some
 (Go.Value.string
 (ByteArray.mk #[(65 : UInt8), (112 : UInt8), (114 : UInt8), (105 : UInt8), (108 : UInt8)])),
 Option.some (Go.Value.string (ByteArray.mk #[(77 : UInt8), (97 : UInt8), (121 : UInt8)])),
 Option.some (Go.Value.string (ByteArray.mk #[(74 : UInt8), (117 : UInt8), (110 : UInt8), (101 : UInt8)])),
 Option.some (Go.Value.string (ByteArray.mk #[(74 : UInt8), (117 : UInt8), (108 : UInt8), (121 : UInt8)])),
 Option.some
 (Go.Value.string
 (ByteArray.mk
 #[(65 : UInt8), (117 : UInt8), (103 : UInt8), (117 : UInt8), (115 : UInt8), (116 : UInt8)])),
 Option.some
 (Go.Value.string
 (ByteArray.mk
 #[(83 : UInt8), (101 : UInt8), (112 : UInt8), (116 : UInt8), (101 : UInt8), (109 : UInt8), (98 : UInt8),
 (101 : UInt8), (114 : UInt8)])),
 Option.some
 (Go.Value.string
 (ByteArray.mk
 #[(79 : UInt8), (99 : UInt8), (116 : UInt8), (111 : UInt8), (98 : UInt8), (101 : UInt8),
 (114 : UInt8)])),
 Option.some
 (Go.Value.string
 (ByteArray.mk
 #[(78 : UInt8), (111 : UInt8), (118 : UInt8), (101 : UInt8), (109 : UInt8), (98 : UInt8), (101 : UInt8),
 (114 : UInt8)])),
 Option.some
 (Go.Value.string
 (ByteArray.mk
 #[(68 : UInt8), (101 : UInt8), (99 : UInt8), (101 : UInt8), (109 : UInt8), (98 : UInt8), (101 : UInt8),
 (114 : UInt8)]))]
 ((0 : Nat) + Int.toNat (Go.IntKind.wrap Go.IntKind.i64 (m - (1 : Int))) * (1 : Nat))) ∧
 Go.Pe.bsel
 (Decidable.decide ((0 : Int) ≤ Go.IntKind.wrap Go.IntKind.i64 (m - (1 : Int))) &&
 Decidable.decide (Go.IntKind.wrap Go.IntKind.i64 (m - (1 : Int)) < ↑(12 : Nat)))
 (Go.Pe.bsel
 (Nat.blt ((0 : Nat) + Int.toNat (Go.IntKind.wrap Go.IntKind.i64 (m - (1 : Int))) * (1 : Nat))
 (List.length
 [Option.some
 (Go.Value.string
 (ByteArray.mk
 #[(74 : UInt8), (97 : UInt8), (110 : UInt8), (117 : UInt8), (97 : UInt8), (114 : UInt8),
 (121 : UInt8)])),
 Option.some
 (Go.Value.string
 (ByteArray.mk
 #[(70 : UInt8), (101 : UInt8), (98 : UInt8), (114 : UInt8), (117 : UInt8), (97 : UInt8),
 (114 : UInt8), (121 : UInt8)])),
 Option.some
 (Go.Value.string
 (ByteArray.mk #[(77 : UInt8), (97 : UInt8), (114 : UInt8), (99 : UInt8), (104 : UInt8)])),
 Option.some
 (Go.Value.string
 (ByteArray.mk #[(65 : UInt8), (112 : UInt8), (114 : UInt8), (105 : UInt8), (108 : UInt8)])),
 Option.some (Go.Value.string (ByteArray.mk #[(77 : UInt8), (97 : UInt8), (121 : UInt8)])),
 Option.some (Go.Value.string (ByteArray.mk #[(74 : UInt8), (117 : UInt8), (110 : UInt8), (101 : UInt8)])),
 Option.some (Go.Value.string (ByteArray.mk #[(74 : UInt8), (117 : UInt8), (108 : UInt8), (121 : UInt8)])),
 Option.some
 (Go.Value.string
 (ByteArray.mk
 #[(65 : UInt8), (117 : UInt8), (103 : UInt8), (117 : UInt8), (115 : UInt8), (116 : UInt8)])),
 Option.some
 (Go.Value.string
 (ByteArray.mk
 #[(83 : UInt8), (101 : UInt8), (112 : UInt8), (116 : UInt8), (101 : UInt8), (109 : UInt8),
 (98 : UInt8), (101 : UInt8), (114 : UInt8)])),
 Option.some
 (Go.Value.string
 (ByteArray.mk
 #[(79 : UInt8), (99 : UInt8), (116 : UInt8), (111 : UInt8), (98 : UInt8), (101 : UInt8),
 (114 : UInt8)])),
 Option.some
 (Go.Value.string
 (ByteArray.mk
 #[(78 : UInt8), (111 : UInt8), (118 : UInt8), (101 : UInt8), (109 : UInt8), (98 : UInt8),
 (101 : UInt8), (114 : UInt8)])),
 Option.some
 (Go.Value.string
 (ByteArray.mk
 #[(68 : UInt8), (101 : UInt8), (99 : UInt8), (101 : UInt8), (109 : UInt8), (98 : UInt8),
 (101 : UInt8), (114 : UInt8)]))]))
 (Go.Value.agg
 (Array.mk
 [Go.Value.iface (131 : Nat)
 (Go.Value.string
 (S
 [Option.some
 (Go.Value.string
 (ByteArray.mk
 #[(74 : UInt8), (97 : UInt8), (110 : UInt8), (117 : UInt8), (97 : UInt8), (114 : UInt8),
 (121 : UInt8)])),
 Option.some
 (Go.Value.string
 (ByteArray.mk
 #[(70 : UInt8), (101 : UInt8), (98 : UInt8), (114 : UInt8), (117 : UInt8), (97 : UInt8),
 (114 : UInt8), (121 : UInt8)])),
 Option.some
 (Go.Value.string
 (ByteArray.mk #[(77 : UInt8), (97 : UInt8), (114 : UInt8), (99 : UInt8), (104 : UInt8)])),
 Option.some
 (Go.Value.string
 (ByteArray.mk
 #[(65 : UInt8), (112 : UInt8), (114 : UInt8), (105 : UInt8), (108 : UInt8)])),
 Option.some (Go.Value.string (ByteArray.mk #[(77 : UInt8), (97 : UInt8), (121 : UInt8)])),
 Option.some
 (Go.Value.string
 (ByteArray.mk #[(74 : UInt8), (117 : UInt8), (110 : UInt8), (101 : UInt8)])),
 Option.some
 (Go.Value.string
 (ByteArray.mk #[(74 : UInt8), (117 : UInt8), (108 : UInt8), (121 : UInt8)])),
 Option.some
 (Go.Value.string
 (ByteArray.mk
 #[(65 : UInt8), (117 : UInt8), (103 : UInt8), (117 : UInt8), (115 : UInt8),
 (116 : UInt8)])),
 Option.some
 (Go.Value.string
 (ByteArray.mk
 #[(83 : UInt8), (101 : UInt8), (112 : UInt8), (116 : UInt8), (101 : UInt8),
 (109 : UInt8), (98 : UInt8), (101 : UInt8), (114 : UInt8)])),
 Option.some
 (Go.Value.string
 (ByteArray.mk
 #[(79 : UInt8), (99 : UInt8), (116 : UInt8), (111 : UInt8), (98 : UInt8), (101 : UInt8),
 (114 : UInt8)])),
 Option.some
 (Go.Value.string
 (ByteArray.mk
 #[(78 : UInt8), (111 : UInt8), (118 : UInt8), (101 : UInt8), (109 : UInt8),
 (98 : UInt8), (101 : UInt8), (114 : UInt8)])),
 Option.some
 (Go.Value.string
 (ByteArray.mk
 #[(68 : UInt8), (101 : UInt8), (99 : UInt8), (101 : UInt8), (109 : UInt8), (98 : UInt8),
 (101 : UInt8), (114 : UInt8)]))]
 ((0 : Nat) + Int.toNat (Go.IntKind.wrap Go.IntKind.i64 (m - (1 : Int))) * (1 : Nat))))]) =
 Go.Value.agg
 (Array.mk
 [Go.Value.iface (131 : Nat)
 (Go.Value.string
 (S
 [Option.some
 (Go.Value.string
 (ByteArray.mk
 #[(74 : UInt8), (97 : UInt8), (110 : UInt8), (117 : UInt8), (97 : UInt8), (114 : UInt8),
 (121 : UInt8)])),
 Option.some
 (Go.Value.string
 (ByteArray.mk
 #[(70 : UInt8), (101 : UInt8), (98 : UInt8), (114 : UInt8), (117 : UInt8), (97 : UInt8),
 (114 : UInt8), (121 : UInt8)])),
 Option.some
 (Go.Value.string
 (ByteArray.mk #[(77 : UInt8), (97 : UInt8), (114 : UInt8), (99 : UInt8), (104 : UInt8)])),
 Option.some
 (Go.Value.string
 (ByteArray.mk
 #[(65 : UInt8), (112 : UInt8), (114 : UInt8), (105 : UInt8), (108 : UInt8)])),
 Option.some (Go.Value.string (ByteArray.mk #[(77 : UInt8), (97 : UInt8), (121 : UInt8)])),
 Option.some
 (Go.Value.string
 (ByteArray.mk #[(74 : UInt8), (117 : UInt8), (110 : UInt8), (101 : UInt8)])),
 Option.some
 (Go.Value.string
 (ByteArray.mk #[(74 : UInt8), (117 : UInt8), (108 : UInt8), (121 : UInt8)])),
 Option.some
 (Go.Value.string
 (ByteArray.mk
 #[(65 : UInt8), (117 : UInt8), (103 : UInt8), (117 : UInt8), (115 : UInt8),
 (116 : UInt8)])),
 Option.some
 (Go.Value.string
 (ByteArray.mk
 #[(83 : UInt8), (101 : UInt8), (112 : UInt8), (116 : UInt8), (101 : UInt8),
 (109 : UInt8), (98 : UInt8), (101 : UInt8), (114 : UInt8)])),
 Option.some
 (Go.Value.string
 (ByteArray.mk
 #[(79 : UInt8), (99 : UInt8), (116 : UInt8), (111 : UInt8), (98 : UInt8), (101 : UInt8),
 (114 : UInt8)])),
 Option.some
 (Go.Value.string
 (ByteArray.mk
 #[(78 : UInt8), (111 : UInt8), (118 : UInt8), (101 : UInt8), (109 : UInt8),
 (98 : UInt8), (101 : UInt8), (114 : UInt8)])),
 Option.some
 (Go.Value.string
 (ByteArray.mk
 #[(68 : UInt8), (101 : UInt8), (99 : UInt8), (101 : UInt8), (109 : UInt8), (98 : UInt8),
 (101 : UInt8), (114 : UInt8)]))]
 ((0 : Nat) + Int.toNat (Go.IntKind.wrap Go.IntKind.i64 (m - (1 : Int))) * (1 : Nat))))]) ∧
 Int.ofNat (4 : Nat) = Int.ofNat (4 : Nat) ∧
 Go.Proofs.YthcjocelokjifaaGreatDoor.rng y ∧
 Go.Value.agg
 (Array.mk
 [Go.Value.iface (117 : Nat)
 (Go.Value.agg
 (Array.mk
 [Go.Value.bool (Decidable.decide (y < (0 : Int))),
 Go.Value.int Go.IntKind.u64 (Int.ofNat (0 : Nat)),
 Go.Value.int Go.IntKind.u64 (Int.ofNat (Int.natAbs y)),
 Go.Value.int Go.IntKind.i64 (Int.ofNat (0 : Nat))]))]) =
 Go.Value.agg
 (Array.mk
 [Go.Value.iface (117 : Nat)
 (Go.Value.agg
 (Array.mk
 [Go.Value.bool (Decidable.decide (y < (0 : Int))),
 Go.Value.int Go.IntKind.u64 (Int.ofNat (0 : Nat)),
 Go.Value.int Go.IntKind.u64 (Int.ofNat (Int.natAbs y)),
 Go.Value.int Go.IntKind.i64 (Int.ofNat (0 : Nat))]))]) ∧
 Go.Proofs.YthcjocelokjifaaGreatDoor.rng y ∧
 Go.Proofs.YthcjocelokjifaaGreatDoor.rng m ∧
 Go.Value.agg
 (Array.mk
 [Go.Value.iface (117 : Nat)
 (Go.Value.agg
 (Array.mk
 [Go.Value.bool (Decidable.decide (m < (0 : Int))),
 Go.Value.int Go.IntKind.u64 (Int.ofNat (0 : Nat)),
 Go.Value.int Go.IntKind.u64 (Int.ofNat (Int.natAbs m)),
 Go.Value.int Go.IntKind.i64 (Int.ofNat (0 : Nat))]))]) =
 Go.Value.agg
 (Array.mk
 [Go.Value.iface (117 : Nat)
 (Go.Value.agg
 (Array.mk
 [Go.Value.bool (Decidable.decide (m < (0 : Int))),
 Go.Value.int Go.IntKind.u64 (Int.ofNat (0 : Nat)),
 Go.Value.int Go.IntKind.u64 (Int.ofNat (Int.natAbs m)),
 Go.Value.int Go.IntKind.i64 (Int.ofNat (0 : Nat))]))]) ∧
 Go.Proofs.YthcjocelokjifaaGreatDoor.rng m ∧
 Go.Proofs.YthcjocelokjifaaGreatDoor.rng d ∧
 Go.Value.agg
 (Array.mk
 [Go.Value.iface (117 : Nat)
 (Go.Value.agg
 (Array.mk
 [Go.Value.bool (Decidable.decide (d < (0 : Int))),
 Go.Value.int Go.IntKind.u64 (Int.ofNat (0 : Nat)),
 Go.Value.int Go.IntKind.u64 (Int.ofNat (Int.natAbs d)),
 Go.Value.int Go.IntKind.i64 (Int.ofNat (0 : Nat))]))]) =
 Go.Value.agg
 (Array.mk
 [Go.Value.iface (117 : Nat)
 (Go.Value.agg
 (Array.mk
 [Go.Value.bool (Decidable.decide (d < (0 : Int))),
 Go.Value.int Go.IntKind.u64 (Int.ofNat (0 : Nat)),
 Go.Value.int Go.IntKind.u64 (Int.ofNat (Int.natAbs d)),
 Go.Value.int Go.IntKind.i64 (Int.ofNat (0 : Nat))]))]) ∧
 Go.Proofs.YthcjocelokjifaaGreatDoor.rng d ∧
 Go.Proofs.YthcjocelokjifaaGreatDoor.Same
 [Go.Value.agg
 (Array.mk
 [Go.Value.int Go.IntKind.i64 y, Go.Value.int Go.IntKind.i64 m,
 Go.Value.int Go.IntKind.i64 d])]
 [Go.Value.agg
 (Array.mk
 [Go.Value.int Go.IntKind.i64 y, Go.Value.int Go.IntKind.i64 m,
 Go.Value.int Go.IntKind.i64 d])] ∧
 Go.Proofs.YthcjocelokjifaaGreatDoor.rng w ∧
 Go.Proofs.YthcjocelokjifaaGreatDoor.Same
 [Go.Value.agg
 (Array.mk
 [Go.Value.int Go.IntKind.i64 y, Go.Value.int Go.IntKind.i64 m,
 Go.Value.int Go.IntKind.i64 d])]
 [Go.Value.agg
 (Array.mk
 [Go.Value.int Go.IntKind.i64 y, Go.Value.int Go.IntKind.i64 m,
 Go.Value.int Go.IntKind.i64 d])] ∧
 Go.Value.agg
 (Array.mk
 [Go.Value.iface (117 : Nat)
 (Go.Value.agg
 (Array.mk
 [Go.Value.bool (Decidable.decide (w < (0 : Int))),
 Go.Value.int Go.IntKind.u64 (Int.ofNat (0 : Nat)),
 Go.Value.int Go.IntKind.u64 (Int.ofNat (Int.natAbs w)),
 Go.Value.int Go.IntKind.i64 (Int.ofNat (0 : Nat))]))]) =
 Go.Value.agg
 (Array.mk
 [Go.Value.iface (117 : Nat)
 (Go.Value.agg
 (Array.mk
 [Go.Value.bool (Decidable.decide (w < (0 : Int))),
 Go.Value.int Go.IntKind.u64 (Int.ofNat (0 : Nat)),
 Go.Value.int Go.IntKind.u64 (Int.ofNat (Int.natAbs w)),
 Go.Value.int Go.IntKind.i64 (Int.ofNat (0 : Nat))]))]) ∧
 Go.Proofs.YthcjocelokjifaaGreatDoor.rng w ∧
 Go.Proofs.YthcjocelokjifaaGreatDoor.Same
 [Go.Value.agg
 (Array.mk
 [Go.Value.int Go.IntKind.i64 y, Go.Value.int Go.IntKind.i64 m,
 Go.Value.int Go.IntKind.i64 d])]
 [Go.Value.agg
 (Array.mk
 [Go.Value.int Go.IntKind.i64 y, Go.Value.int Go.IntKind.i64 m,
 Go.Value.int Go.IntKind.i64 d])] ∧
 Go.Proofs.YthcjocelokjifaaGreatDoor.rng j ∧
 Go.Proofs.YthcjocelokjifaaGreatDoor.Same
 [Go.Value.agg
 (Array.mk
 [Go.Value.int Go.IntKind.i64 y, Go.Value.int Go.IntKind.i64 m,
 Go.Value.int Go.IntKind.i64 d])]
 [Go.Value.agg
 (Array.mk
 [Go.Value.int Go.IntKind.i64 y, Go.Value.int Go.IntKind.i64 m,
 Go.Value.int Go.IntKind.i64 d])] ∧
 Go.Value.agg
 (Array.mk
 [Go.Value.iface (117 : Nat)
 (Go.Value.agg
 (Array.mk
 [Go.Value.bool (Decidable.decide (j < (0 : Int))),
 Go.Value.int Go.IntKind.u64 (Int.ofNat (0 : Nat)),
 Go.Value.int Go.IntKind.u64 (Int.ofNat (Int.natAbs j)),
 Go.Value.int Go.IntKind.i64 (Int.ofNat (0 : Nat))]))]) =
 Go.Value.agg
 (Array.mk
 [Go.Value.iface (117 : Nat)
 (Go.Value.agg
 (Array.mk
 [Go.Value.bool (Decidable.decide (j < (0 : Int))),
 Go.Value.int Go.IntKind.u64 (Int.ofNat (0 : Nat)),
 Go.Value.int Go.IntKind.u64 (Int.ofNat (Int.natAbs j)),
 Go.Value.int Go.IntKind.i64 (Int.ofNat (0 : Nat))]))]) ∧
 Go.Proofs.YthcjocelokjifaaGreatDoor.rng j ∧
 Go.Proofs.YthcjocelokjifaaGreatDoor.Same
 [Go.Value.agg
 (Array.mk
 [Go.Value.int Go.IntKind.i64 y,
 Go.Value.int Go.IntKind.i64 m,
 Go.Value.int Go.IntKind.i64 d])]
 [Go.Value.agg
 (Array.mk
 [Go.Value.int Go.IntKind.i64 y,
 Go.Value.int Go.IntKind.i64 m,
 Go.Value.int Go.IntKind.i64 d])] ∧
 Go.Proofs.YthcjocelokjifaaGreatDoor.rng k ∧
 Go.Proofs.YthcjocelokjifaaGreatDoor.Same
 [Go.Value.agg
 (Array.mk
 [Go.Value.int Go.IntKind.i64 y,
 Go.Value.int Go.IntKind.i64 m,
 Go.Value.int Go.IntKind.i64 d])]
 [Go.Value.agg
 (Array.mk
 [Go.Value.int Go.IntKind.i64 y,
 Go.Value.int Go.IntKind.i64 m,
 Go.Value.int Go.IntKind.i64 d])] ∧
 Go.Value.agg
 (Array.mk
 [Go.Value.iface (117 : Nat)
 (Go.Value.agg
 (Array.mk
 [Go.Value.bool
 (Decidable.decide (k < (0 : Int))),
 Go.Value.int Go.IntKind.u64
 (Int.ofNat (0 : Nat)),
 Go.Value.int Go.IntKind.u64
 (Int.ofNat (Int.natAbs k)),
 Go.Value.int Go.IntKind.i64
 (Int.ofNat (0 : Nat))]))]) =
 Go.Value.agg
 (Array.mk
 [Go.Value.iface (117 : Nat)
 (Go.Value.agg
 (Array.mk
 [Go.Value.bool
 (Decidable.decide (k < (0 : Int))),
 Go.Value.int Go.IntKind.u64
 (Int.ofNat (0 : Nat)),
 Go.Value.int Go.IntKind.u64
 (Int.ofNat (Int.natAbs k)),
 Go.Value.int Go.IntKind.i64
 (Int.ofNat (0 : Nat))]))]) ∧
 Go.Proofs.YthcjocelokjifaaGreatDoor.rng k ∧
 Go.Proofs.YthcjocelokjifaaGreatDoor.Same
 [Go.Value.agg
 (Array.mk
 [Go.Value.int Go.IntKind.i64 y,
 Go.Value.int Go.IntKind.i64 m,
 Go.Value.int Go.IntKind.i64 d])]
 [Go.Value.agg
 (Array.mk
 [Go.Value.int Go.IntKind.i64 y,
 Go.Value.int Go.IntKind.i64 m,
 Go.Value.int Go.IntKind.i64 d])] ∧
 Go.Pe.bsel
 (Decidable.decide
 ((0 : Int) ≤
 Go.IntKind.wrap Go.IntKind.i64 (w - (1 : Int))) &&
 Decidable.decide
 (Go.IntKind.wrap Go.IntKind.i64 (w - (1 : Int)) <
 ↑(7 : Nat)))
 (Go.Pe.bsel
 (Nat.blt
 ((0 : Nat) +
 Int.toNat
 (Go.IntKind.wrap Go.IntKind.i64
 (w - (1 : Int))) *
 (1 : Nat))
 (List.length
 [Option.some
 (Go.Value.string
 (ByteArray.mk
 #[(77 : UInt8), (111 : UInt8),
 (110 : UInt8), (100 : UInt8),
 (97 : UInt8), (121 : UInt8)])),
 Option.some
 (Go.Value.string
 (ByteArray.mk
 #[(84 : UInt8), (117 : UInt8),
 (101 : UInt8), (115 : UInt8),
 (100 : UInt8), (97 : UInt8),
 (121 : UInt8)])),
 Option.some
 (Go.Value.string
 (ByteArray.mk
 #[(87 : UInt8), (101 : UInt8),
 (100 : UInt8), (110 : UInt8),
 (101 : UInt8), (115 : UInt8),
 (100 : UInt8), (97 : UInt8),
 (121 : UInt8)])),
 Option.some
 (Go.Value.string
 (ByteArray.mk
 #[(84 : UInt8), (104 : UInt8),
 (117 : UInt8), (114 : UInt8),
 (115 : UInt8), (100 : UInt8),
 (97 : UInt8), (121 : UInt8)])),
 Option.some
 (Go.Value.string
 (ByteArray.mk
 #[(70 : UInt8), (114 : UInt8),
 (105 : UInt8), (100 : UInt8),
 (97 : UInt8), (121 : UInt8)])),
 Option.some
 (Go.Value.string
 (ByteArray.mk
 #[(83 : UInt8), (97 : UInt8),
 (116 : UInt8), (117 : UInt8),
 (114 : UInt8), (100 : UInt8),
 (97 : UInt8), (121 : UInt8)])),
 Option.some
 (Go.Value.string
 (ByteArray.mk
 #[(83 : UInt8), (117 : UInt8),
 (110 : UInt8), (100 : UInt8),
 (97 : UInt8), (121 : UInt8)]))]))
 (Go.Proofs.YthcjocelokjifaaGreatDoor.Texty
 (S
 [Option.some
 (Go.Value.string
 (ByteArray.mk
 #[(77 : UInt8), (111 : UInt8),
 (110 : UInt8), (100 : UInt8),
 (97 : UInt8), (121 : UInt8)])),
 Option.some
 (Go.Value.string
 (ByteArray.mk
 #[(84 : UInt8), (117 : UInt8),
 (101 : UInt8), (115 : UInt8),
 (100 : UInt8), (97 : UInt8),
 (121 : UInt8)])),
 Option.some
 (Go.Value.string
 (ByteArray.mk
 #[(87 : UInt8), (101 : UInt8),
 (100 : UInt8), (110 : UInt8),
 (101 : UInt8), (115 : UInt8),
 (100 : UInt8), (97 : UInt8),
 (121 : UInt8)])),
 Option.some
 (Go.Value.string
 (ByteArray.mk
 #[(84 : UInt8), (104 : UInt8),
 (117 : UInt8), (114 : UInt8),
 (115 : UInt8), (100 : UInt8),
 (97 : UInt8), (121 : UInt8)])),
 Option.some
 (Go.Value.string
 (ByteArray.mk
 #[(70 : UInt8), (114 : UInt8),
 (105 : UInt8), (100 : UInt8),
 (97 : UInt8), (121 : UInt8)])),
 Option.some
 (Go.Value.string
 (ByteArray.mk
 #[(83 : UInt8), (97 : UInt8),
 (116 : UInt8), (117 : UInt8),
 (114 : UInt8), (100 : UInt8),
 (97 : UInt8), (121 : UInt8)])),
 Option.some
 (Go.Value.string
 (ByteArray.mk
 #[(83 : UInt8), (117 : UInt8),
 (110 : UInt8), (100 : UInt8),
 (97 : UInt8), (121 : UInt8)]))]
 ((0 : Nat) +
 Int.toNat
 (Go.IntKind.wrap Go.IntKind.i64
 (w - (1 : Int))) *
 (1 : Nat))) ∧
 Go.Proofs.YthcjocelokjifaaGreatDoor.Same
 [Go.Value.agg
 (Array.mk
 [Go.Value.int Go.IntKind.i64 y,
 Go.Value.int Go.IntKind.i64 m,
 Go.Value.int Go.IntKind.i64 d])]
 [Go.Value.agg
 (Array.mk
 [Go.Value.int Go.IntKind.i64 y,
 Go.Value.int Go.IntKind.i64 m,
 Go.Value.int Go.IntKind.i64 d])] ∧
 Go.Pe.bsel
 (Decidable.decide
 ((0 : Int) ≤
 Go.IntKind.wrap Go.IntKind.i64
 (w - (1 : Int))) &&
 Decidable.decide
 (Go.IntKind.wrap Go.IntKind.i64
 (w - (1 : Int)) <
 ↑(7 : Nat)))
 (Go.Pe.bsel
 (Nat.blt
 ((0 : Nat) +
 Int.toNat
 (Go.IntKind.wrap Go.IntKind.i64
 (w - (1 : Int))) *
 (1 : Nat))
 (List.length
 [Option.some
 (Go.Value.string
 (ByteArray.mk
 #[(77 : UInt8), (111 : UInt8),
 (110 : UInt8), (100 : UInt8),
 (97 : UInt8), (121 : UInt8)])),
 Option.some
 (Go.Value.string
 (ByteArray.mk
 #[(84 : UInt8), (117 : UInt8),
 (101 : UInt8), (115 : UInt8),
 (100 : UInt8), (97 : UInt8),
 (121 : UInt8)])),
 Option.some
 (Go.Value.string
 (ByteArray.mk
 #[(87 : UInt8), (101 : UInt8),
 (100 : UInt8), (110 : UInt8),
 (101 : UInt8), (115 : UInt8),
 (100 : UInt8), (97 : UInt8),
 (121 : UInt8)])),
 Option.some
 (Go.Value.string
 (ByteArray.mk
 #[(84 : UInt8), (104 : UInt8),
 (117 : UInt8), (114 : UInt8),
 (115 : UInt8), (100 : UInt8),
 (97 : UInt8), (121 : UInt8)])),
 Option.some
 (Go.Value.string
 (ByteArray.mk
 #[(70 : UInt8), (114 : UInt8),
 (105 : UInt8), (100 : UInt8),
 (97 : UInt8), (121 : UInt8)])),
 Option.some
 (Go.Value.string
 (ByteArray.mk
 #[(83 : UInt8), (97 : UInt8),
 (116 : UInt8), (117 : UInt8),
 (114 : UInt8), (100 : UInt8),
 (97 : UInt8), (121 : UInt8)])),
 Option.some
 (Go.Value.string
 (ByteArray.mk
 #[(83 : UInt8), (117 : UInt8),
 (110 : UInt8), (100 : UInt8),
 (97 : UInt8),
 (121 : UInt8)]))]))
 (Go.Value.agg
 (Array.mk
 [Go.Value.iface (131 : Nat)
 (Go.Value.string
 (S
 [Option.some
 (Go.Value.string
 (ByteArray.mk
 #[(77 : UInt8),
 (111 : UInt8),
 (110 : UInt8),
 (100 : UInt8),
 (97 : UInt8),
 (121 : UInt8)])),
 Option.some
 (Go.Value.string
 (ByteArray.mk
 #[(84 : UInt8),
 (117 : UInt8),
 (101 : UInt8),
 (115 : UInt8),
 (100 : UInt8),
 (97 : UInt8),
 (121 : UInt8)])),
 Option.some
 (Go.Value.string
 (ByteArray.mk
 #[(87 : UInt8),
 (101 : UInt8),
 (100 : UInt8),
 (110 : UInt8),
 (101 : UInt8),
 (115 : UInt8),
 (100 : UInt8),
 (97 : UInt8),
 (121 : UInt8)])),
 Option.some
 (Go.Value.string
 (ByteArray.mk
 #[(84 : UInt8),
 (104 : UInt8),
 (117 : UInt8),
 (114 : UInt8),
 (115 : UInt8),
 (100 : UInt8),
 (97 : UInt8),
 (121 : UInt8)])),
 Option.some
 (Go.Value.string
 (ByteArray.mk
 #[(70 : UInt8),
 (114 : UInt8),
 (105 : UInt8),
 (100 : UInt8),
 (97 : UInt8),
 (121 : UInt8)])),
 Option.some
 (Go.Value.string
 (ByteArray.mk
 #[(83 : UInt8),
 (97 : UInt8),
 (116 : UInt8),
 (117 : UInt8),
 (114 : UInt8),
 (100 : UInt8),
 (97 : UInt8),
 (121 : UInt8)])),
 Option.some
 (Go.Value.string
 (ByteArray.mk
 #[(83 : UInt8),
 (117 : UInt8),
 (110 : UInt8),
 (100 : UInt8),
 (97 : UInt8),
 (121 : UInt8)]))]
 ((0 : Nat) +
 Int.toNat
 (Go.IntKind.wrap
 Go.IntKind.i64
 (w - (1 : Int))) *
 (1 : Nat))))]) =
 Go.Value.agg
 (Array.mk
 [Go.Value.iface (131 : Nat)
 (Go.Value.string
 (S
 [Option.some
 (Go.Value.string
 (ByteArray.mk
 #[(77 : UInt8),
 (111 : UInt8),
 (110 : UInt8),
 (100 : UInt8),
 (97 : UInt8),
 (121 : UInt8)])),
 Option.some
 (Go.Value.string
 (ByteArray.mk
 #[(84 : UInt8),
 (117 : UInt8),
 (101 : UInt8),
 (115 : UInt8),
 (100 : UInt8),
 (97 : UInt8),
 (121 : UInt8)])),
 Option.some
 (Go.Value.string
 (ByteArray.mk
 #[(87 : UInt8),
 (101 : UInt8),
 (100 : UInt8),
 (110 : UInt8),
 (101 : UInt8),
 (115 : UInt8),
 (100 : UInt8),
 (97 : UInt8),
 (121 : UInt8)])),
 Option.some
 (Go.Value.string
 (ByteArray.mk
 #[(84 : UInt8),
 (104 : UInt8),
 (117 : UInt8),
 (114 : UInt8),
 (115 : UInt8),
 (100 : UInt8),
 (97 : UInt8),
 (121 : UInt8)])),
 Option.some
 (Go.Value.string
 (ByteArray.mk
 #[(70 : UInt8),
 (114 : UInt8),
 (105 : UInt8),
 (100 : UInt8),
 (97 : UInt8),
 (121 : UInt8)])),
 Option.some
 (Go.Value.string
 (ByteArray.mk
 #[(83 : UInt8),
 (97 : UInt8),
 (116 : UInt8),
 (117 : UInt8),
 (114 : UInt8),
 (100 : UInt8),
 (97 : UInt8),
 (121 : UInt8)])),
 Option.some
 (Go.Value.string
 (ByteArray.mk
 #[(83 : UInt8),
 (117 : UInt8),
 (110 : UInt8),
 (100 : UInt8),
 (97 : UInt8),
 (121 : UInt8)]))]
 ((0 : Nat) +
 Int.toNat
 (Go.IntKind.wrap
 Go.IntKind.i64
 (w - (1 : Int))) *
 (1 : Nat))))]) ∧
 Int.ofNat (4 : Nat) = Int.ofNat (4 : Nat) ∧
 Go.Pe.bsel
 (Decidable.decide
 ((0 : Int) ≤
 Go.IntKind.wrap Go.IntKind.i64
 (m - (1 : Int))) &&
 Decidable.decide
 (Go.IntKind.wrap Go.IntKind.i64
 (m - (1 : Int)) <
 ↑(12 : Nat)))
 (Go.Pe.bsel
 (Nat.blt
 ((0 : Nat) +
 Int.toNat
 (Go.IntKind.wrap
 Go.IntKind.i64
 (m - (1 : Int))) *
 (1 : Nat))
 (List.length
 [Option.some
 (Go.Value.string
 (ByteArray.mk
 #[(74 : UInt8),
 (97 : UInt8),
 (110 : UInt8),
 (117 : UInt8),
 (97 : UInt8),
 (114 : UInt8),
 (121 : UInt8)])),
 Option.some
 (Go.Value.string
 (ByteArray.mk
 #[(70 : UInt8),
 (101 : UInt8),
 (98 : UInt8),
 (114 : UInt8),
 (117 : UInt8),
 (97 : UInt8),
 (114 : UInt8),
 (121 : UInt8)])),
 Option.some
 (Go.Value.string
 (ByteArray.mk
 #[(77 : UInt8),
 (97 : UInt8),
 (114 : UInt8),
 (99 : UInt8),
 (104 : UInt8)])),
 Option.some
 (Go.Value.string
 (ByteArray.mk
 #[(65 : UInt8),
 (112 : UInt8),
 (114 : UInt8),
 (105 : UInt8),
 (108 : UInt8)])),
 Option.some
 (Go.Value.string
 (ByteArray.mk
 #[(77 : UInt8),
 (97 : UInt8),
 (121 : UInt8)])),
 Option.some
 (Go.Value.string
 (ByteArray.mk
 #[(74 : UInt8),
 (117 : UInt8),
 (110 : UInt8),
 (101 : UInt8)])),
 Option.some
 (Go.Value.string
 (ByteArray.mk
 #[(74 : UInt8),
 (117 : UInt8),
 (108 : UInt8),
 (121 : UInt8)])),
 Option.some
 (Go.Value.string
 (ByteArray.mk
 #[(65 : UInt8),
 (117 : UInt8),
 (103 : UInt8),
 (117 : UInt8),
 (115 : UInt8),
 (116 : UInt8)])),
 Option.some
 (Go.Value.string
 (ByteArray.mk
 #[(83 : UInt8),
 (101 : UInt8),
 (112 : UInt8),
 (116 : UInt8),
 (101 : UInt8),
 (109 : UInt8),
 (98 : UInt8),
 (101 : UInt8),
 (114 : UInt8)])),
 Option.some
 (Go.Value.string
 (ByteArray.mk
 #[(79 : UInt8),
 (99 : UInt8),
 (116 : UInt8),
 (111 : UInt8),
 (98 : UInt8),
 (101 : UInt8),
 (114 : UInt8)])),
 Option.some
 (Go.Value.string
 (ByteArray.mk
 #[(78 : UInt8),
 (111 : UInt8),
 (118 : UInt8),
 (101 : UInt8),
 (109 : UInt8),
 (98 : UInt8),
 (101 : UInt8),
 (114 : UInt8)])),
 Option.some
 (Go.Value.string
 (ByteArray.mk
 #[(68 : UInt8),
 (101 : UInt8),
 (99 : UInt8),
 (101 : UInt8),
 (109 : UInt8),
 (98 : UInt8),
 (101 : UInt8),
 (114 : UInt8)]))]))
 (Go.Proofs.YthcjocelokjifaaGreatDoor.Texty
 (S
 [Option.some
 (Go.Value.string
 (ByteArray.mk
 #[(74 : UInt8),
 (97 : UInt8),
 (110 : UInt8),
 (117 : UInt8),
 (97 : UInt8),
 (114 : UInt8),
 (121 : UInt8)])),
 Option.some
 (Go.Value.string
 (ByteArray.mk
 #[(70 : UInt8),
 (101 : UInt8),
 (98 : UInt8),
 (114 : UInt8),
 (117 : UInt8),
 (97 : UInt8),
 (114 : UInt8),
 (121 : UInt8)])),
 Option.some
 (Go.Value.string
 (ByteArray.mk
 #[(77 : UInt8),
 (97 : UInt8),
 (114 : UInt8),
 (99 : UInt8),
 (104 : UInt8)])),
 Option.some
 (Go.Value.string
 (ByteArray.mk
 #[(65 : UInt8),
 (112 : UInt8),
 (114 : UInt8),
 (105 : UInt8),
 (108 : UInt8)])),
 Option.some
 (Go.Value.string
 (ByteArray.mk
 #[(77 : UInt8),
 (97 : UInt8),
 (121 : UInt8)])),
 Option.some
 (Go.Value.string
 (ByteArray.mk
 #[(74 : UInt8),
 (117 : UInt8),
 (110 : UInt8),
 (101 : UInt8)])),
 Option.some
 (Go.Value.string
 (ByteArray.mk
 #[(74 : UInt8),
 (117 : UInt8),
 (108 : UInt8),
 (121 : UInt8)])),
 Option.some
 (Go.Value.string
 (ByteArray.mk
 #[(65 : UInt8),
 (117 : UInt8),
 (103 : UInt8),
 (117 : UInt8),
 (115 : UInt8),
 (116 : UInt8)])),
 Option.some
 (Go.Value.string
 (ByteArray.mk
 #[(83 : UInt8),
 (101 : UInt8),
 (112 : UInt8),
 (116 : UInt8),
 (101 : UInt8),
 (109 : UInt8),
 (98 : UInt8),
 (101 : UInt8),
 (114 : UInt8)])),
 Option.some
 (Go.Value.string
 (ByteArray.mk
 #[(79 : UInt8),
 (99 : UInt8),
 (116 : UInt8),
 (111 : UInt8),
 (98 : UInt8),
 (101 : UInt8),
 (114 : UInt8)])),
 Option.some
 (Go.Value.string
 (ByteArray.mk
 #[(78 : UInt8),
 (111 : UInt8),
 (118 : UInt8),
 (101 : UInt8),
 (109 : UInt8),
 (98 : UInt8),
 (101 : UInt8),
 (114 : UInt8)])),
 Option.some
 (Go.Value.string
 (ByteArray.mk
 #[(68 : UInt8),
 (101 : UInt8),
 (99 : UInt8),
 (101 : UInt8),
 (109 : UInt8),
 (98 : UInt8),
 (101 : UInt8),
 (114 : UInt8)]))]
 ((0 : Nat) +
 Int.toNat
 (Go.IntKind.wrap
 Go.IntKind.i64
 (m - (1 : Int))) *
 (1 : Nat))) ∧
 Go.Pe.bsel
 (Decidable.decide
 ((0 : Int) ≤
 Go.IntKind.wrap
 Go.IntKind.i64
 (m - (1 : Int))) &&
 Decidable.decide
 (Go.IntKind.wrap
 Go.IntKind.i64
 (m - (1 : Int)) <
 ↑(12 : Nat)))
 (Go.Pe.bsel
 (Nat.blt
 ((0 : Nat) +
 Int.toNat
 (Go.IntKind.wrap
 Go.IntKind.i64
 (m - (1 : Int))) *
 (1 : Nat))
 (List.length
 [Option.some
 (Go.Value.string
 (ByteArray.mk
 #[(74 : UInt8),
 (97 : UInt8),
 (110 : UInt8),
 (117 : UInt8),
 (97 : UInt8),
 (114 : UInt8),
 (121 : UInt8)])),
 Option.some
 (Go.Value.string
 (ByteArray.mk
 #[(70 : UInt8),
 (101 : UInt8),
 (98 : UInt8),
 (114 : UInt8),
 (117 : UInt8),
 (97 : UInt8),
 (114 : UInt8),
 (121 : UInt8)])),
 Option.some
 (Go.Value.string
 (ByteArray.mk
 #[(77 : UInt8),
 (97 : UInt8),
 (114 : UInt8),
 (99 : UInt8),
 (104 : UInt8)])),
 Option.some
 (Go.Value.string
 (ByteArray.mk
 #[(65 : UInt8),
 (112 : UInt8),
 (114 : UInt8),
 (105 : UInt8),
 (108 : UInt8)])),
 Option.some
 (Go.Value.string
 (ByteArray.mk
 #[(77 : UInt8),
 (97 : UInt8),
 (121 : UInt8)])),
 Option.some
 (Go.Value.string
 (ByteArray.mk
 #[(74 : UInt8),
 (117 : UInt8),
 (110 : UInt8),
 (101 : UInt8)])),
 Option.some
 (Go.Value.string
 (ByteArray.mk
 #[(74 : UInt8),
 (117 : UInt8),
 (108 : UInt8),
 (121 : UInt8)])),
 Option.some
 (Go.Value.string
 (ByteArray.mk
 #[(65 : UInt8),
 (117 : UInt8),
 (103 : UInt8),
 (117 : UInt8),
 (115 : UInt8),
 (116 : UInt8)])),
 Option.some
 (Go.Value.string
 (ByteArray.mk
 #[(83 : UInt8),
 (101 : UInt8),
 (112 : UInt8),
 (116 : UInt8),
 (101 : UInt8),
 (109 : UInt8),
 (98 : UInt8),
 (101 : UInt8),
 (114 : UInt8)])),
 Option.some
 (Go.Value.string
 (ByteArray.mk
 #[(79 : UInt8),
 (99 : UInt8),
 (116 : UInt8),
 (111 : UInt8),
 (98 : UInt8),
 (101 : UInt8),
 (114 : UInt8)])),
 Option.some
 (Go.Value.string
 (ByteArray.mk
 #[(78 : UInt8),
 (111 : UInt8),
 (118 : UInt8),
 (101 : UInt8),
 (109 : UInt8),
 (98 : UInt8),
 (101 : UInt8),
 (114 : UInt8)])),
 Option.some
 (Go.Value.string
 (ByteArray.mk
 #[(68 : UInt8),
 (101 : UInt8),
 (99 : UInt8),
 (101 : UInt8),
 (109 : UInt8),
 (98 : UInt8),
 (101 : UInt8),
 (114 :
 UInt8)]))]))
 (Go.Value.agg
 (Array.mk
 [Go.Value.iface
 (131 : Nat)
 (Go.Value.string
 (S
 [Option.some
 (Go.Value.string
 (ByteArray.mk
 #[(74 :
 UInt8),
 (97 :
 UInt8),
 (110 :
 UInt8),
 (117 :
 UInt8),
 (97 :
 UInt8),
 (114 :
 UInt8),
 (121 :
 UInt8)])),
 Option.some
 (Go.Value.string
 (ByteArray.mk
 #[(70 :
 UInt8),
 (101 :
 UInt8),
 (98 :
 UInt8),
 (114 :
 UInt8),
 (117 :
 UInt8),
 (97 :
 UInt8),
 (114 :
 UInt8),
 (121 :
 UInt8)])),
 Option.some
 (Go.Value.string
 (ByteArray.mk
 #[(77 :
 UInt8),
 (97 :
 UInt8),
 (114 :
 UInt8),
 (99 :
 UInt8),
 (104 :
 UInt8)])),
 Option.some
 (Go.Value.string
 (ByteArray.mk
 #[(65 :
 UInt8),
 (112 :
 UInt8),
 (114 :
 UInt8),
 (105 :
 UInt8),
 (108 :
 UInt8)])),
 Option.some
 (Go.Value.string
 (ByteArray.mk
 #[(77 :
 UInt8),
 (97 :
 UInt8),
 (121 :
 UInt8)])),
 Option.some
 (Go.Value.string
 (ByteArray.mk
 #[(74 :
 UInt8),
 (117 :
 UInt8),
 (110 :
 UInt8),
 (101 :
 UInt8)])),
 Option.some
 (Go.Value.string
 (ByteArray.mk
 #[(74 :
 UInt8),
 (117 :
 UInt8),
 (108 :
 UInt8),
 (121 :
 UInt8)])),
 Option.some
 (Go.Value.string
 (ByteArray.mk
 #[(65 :
 UInt8),
 (117 :
 UInt8),
 (103 :
 UInt8),
 (117 :
 UInt8),
 (115 :
 UInt8),
 (116 :
 UInt8)])),
 Option.some
 (Go.Value.string
 (ByteArray.mk
 #[(83 :
 UInt8),
 (101 :
 UInt8),
 (112 :
 UInt8),
 (116 :
 UInt8),
 (101 :
 UInt8),
 (109 :
 UInt8),
 (98 :
 UInt8),
 (101 :
 UInt8),
 (114 :
 UInt8)])),
 Option.some
 (Go.Value.string
 (ByteArray.mk
 #[(79 :
 UInt8),
 (99 :
 UInt8),
 (116 :
 UInt8),
 (111 :
 UInt8),
 (98 :
 UInt8),
 (101 :
 UInt8),
 (114 :
 UInt8)])),
 Option.some
 (Go.Value.string
 (ByteArray.mk
 #[(78 :
 UInt8),
 (111 :
 UInt8),
 (118 :
 UInt8),
 (101 :
 UInt8),
 (109 :
 UInt8),
 (98 :
 UInt8),
 (101 :
 UInt8),
 (114 :
 UInt8)])),
 Option.some
 (Go.Value.string
 (ByteArray.mk
 #[(68 :
 UInt8),
 (101 :
 UInt8),
 (99 :
 UInt8),
 (101 :
 UInt8),
 (109 :
 UInt8),
 (98 :
 UInt8),
 (101 :
 UInt8),
 (114 :
 UInt8)]))]
 ((0 : Nat) +
 Int.toNat
 (Go.IntKind.wrap
 Go.IntKind.i64
 (m -
 (1 :
 Int))) *
 (1 :
 Nat))))]) =
 Go.Value.agg
 (Array.mk
 [Go.Value.iface
 (131 : Nat)
 (Go.Value.string
 (S
 [Option.some
 (Go.Value.string
 (ByteArray.mk
 #[(74 :
 UInt8),
 (97 :
 UInt8),
 (110 :
 UInt8),
 (117 :
 UInt8),
 (97 :
 UInt8),
 (114 :
 UInt8),
 (121 :
 UInt8)])),
 Option.some
 (Go.Value.string
 (ByteArray.mk
 #[(70 :
 UInt8),
 (101 :
 UInt8),
 (98 :
 UInt8),
 (114 :
 UInt8),
 (117 :
 UInt8),
 (97 :
 UInt8),
 (114 :
 UInt8),
 (121 :
 UInt8)])),
 Option.some
 (Go.Value.string
 (ByteArray.mk
 #[(77 :
 UInt8),
 (97 :
 UInt8),
 (114 :
 UInt8),
 (99 :
 UInt8),
 (104 :
 UInt8)])),
 Option.some
 (Go.Value.string
 (ByteArray.mk
 #[(65 :
 UInt8),
 (112 :
 UInt8),
 (114 :
 UInt8),
 (105 :
 UInt8),
 (108 :
 UInt8)])),
 Option.some
 (Go.Value.string
 (ByteArray.mk
 #[(77 :
 UInt8),
 (97 :
 UInt8),
 (121 :
 UInt8)])),
 Option.some
 (Go.Value.string
 (ByteArray.mk
 #[(74 :
 UInt8),
 (117 :
 UInt8),
 (110 :
 UInt8),
 (101 :
 UInt8)])),
 Option.some
 (Go.Value.string
 (ByteArray.mk
 #[(74 :
 UInt8),
 (117 :
 UInt8),
 (108 :
 UInt8),
 (121 :
 UInt8)])),
 Option.some
 (Go.Value.string
 (ByteArray.mk
 #[(65 :
 UInt8),
 (117 :
 UInt8),
 (103 :
 UInt8),
 (117 :
 UInt8),
 (115 :
 UInt8),
 (116 :
 UInt8)])),
 Option.some
 (Go.Value.string
 (ByteArray.mk
 #[(83 :
 UInt8),
 (101 :
 UInt8),
 (112 :
 UInt8),
 (116 :
 UInt8),
 (101 :
 UInt8),
 (109 :
 UInt8),
 (98 :
 UInt8),
 (101 :
 UInt8),
 (114 :
 UInt8)])),
 Option.some
 (Go.Value.string
 (ByteArray.mk
 #[(79 :
 UInt8),
 (99 :
 UInt8),
 (116 :
 UInt8),
 (111 :
 UInt8),
 (98 :
 UInt8),
 (101 :
 UInt8),
 (114 :
 UInt8)])),
 Option.some
 (Go.Value.string
 (ByteArray.mk
 #[(78 :
 UInt8),
 (111 :
 UInt8),
 (118 :
 UInt8),
 (101 :
 UInt8),
 (109 :
 UInt8),
 (98 :
 UInt8),
 (101 :
 UInt8),
 (114 :
 UInt8)])),
 Option.some
 (Go.Value.string
 (ByteArray.mk
 #[(68 :
 UInt8),
 (101 :
 UInt8),
 (99 :
 UInt8),
 (101 :
 UInt8),
 (109 :
 UInt8),
 (98 :
 UInt8),
 (101 :
 UInt8),
 (114 :
 UInt8)]))]
 ((0 : Nat) +
 Int.toNat
 (Go.IntKind.wrap
 Go.IntKind.i64
 (m -
 (1 :
 Int))) *
 (1 :
 Nat))))]) ∧
 Int.ofNat (4 : Nat) =
 Int.ofNat (4 : Nat) ∧
 Go.Proofs.YthcjocelokjifaaGreatDoor.rng
 (Go.IntKind.wrap
 Go.IntKind.i64
 (Int.tdiv s
 (3600 : Int))) ∧
 Go.Value.agg
 (Array.mk
 [Go.Value.iface
 (117 : Nat)
 (Go.Value.agg
 (Array.mk
 [Go.Value.bool
 (Decidable.decide
 (Go.IntKind.wrap
 Go.IntKind.i64
 (Int.tdiv
 s
 (3600 :
 Int)) <
 (0 :
 Int))),
 Go.Value.int
 Go.IntKind.u64
 (Int.ofNat
 (0 :
 Nat)),
 Go.Value.int
 Go.IntKind.u64
 (Int.ofNat
 (Int.natAbs
 (Go.IntKind.wrap
 Go.IntKind.i64
 (Int.tdiv
 s
 (3600 :
 Int))))),
 Go.Value.int
 Go.IntKind.i64
 (Int.ofNat
 (0 :
 Nat))]))]) =
 Go.Value.agg
 (Array.mk
 [Go.Value.iface
 (117 : Nat)
 (Go.Value.agg
 (Array.mk
 [Go.Value.bool
 (Decidable.decide
 (Go.IntKind.wrap
 Go.IntKind.i64
 (Int.tdiv
 s
 (3600 :
 Int)) <
 (0 :
 Int))),
 Go.Value.int
 Go.IntKind.u64
 (Int.ofNat
 (0 :
 Nat)),
 Go.Value.int
 Go.IntKind.u64
 (Int.ofNat
 (Int.natAbs
 (Go.IntKind.wrap
 Go.IntKind.i64
 (Int.tdiv
 s
 (3600 :
 Int))))),
 Go.Value.int
 Go.IntKind.i64
 (Int.ofNat
 (0 :
 Nat))]))]) ∧
 Go.Proofs.YthcjocelokjifaaGreatDoor.rng
 (Go.IntKind.wrap
 Go.IntKind.i64
 (Int.tdiv s
 (3600 : Int))) ∧
 Go.Proofs.YthcjocelokjifaaGreatDoor.rng
 (Int.tmod
 (Go.IntKind.wrap
 Go.IntKind.i64
 (Int.tdiv s
 (60 : Int)))
 (60 : Int)) ∧
 Go.Value.agg
 (Array.mk
 [Go.Value.iface
 (117 :
 Nat)
 (Go.Value.agg
 (Array.mk
 [Go.Value.bool
 (Decidable.decide
 (Int.tmod
 (Go.IntKind.wrap
 Go.IntKind.i64
 (Int.tdiv
 s
 (60 :
 Int)))
 (60 :
 Int) <
 (0 :
 Int))),
 Go.Value.int
 Go.IntKind.u64
 (Int.ofNat
 (0 :
 Nat)),
 Go.Value.int
 Go.IntKind.u64
 (Int.ofNat
 (Int.natAbs
 (Int.tmod
 (Go.IntKind.wrap
 Go.IntKind.i64
 (Int.tdiv
 s
 (60 :
 Int)))
 (60 :
 Int)))),
 Go.Value.int
 Go.IntKind.i64
 (Int.ofNat
 (0 :
 Nat))]))]) =
 Go.Value.agg
 (Array.mk
 [Go.Value.iface
 (117 :
 Nat)
 (Go.Value.agg
 (Array.mk
 [Go.Value.bool
 (Decidable.decide
 (Int.tmod
 (Go.IntKind.wrap
 Go.IntKind.i64
 (Int.tdiv
 s
 (60 :
 Int)))
 (60 :
 Int) <
 (0 :
 Int))),
 Go.Value.int
 Go.IntKind.u64
 (Int.ofNat
 (0 :
 Nat)),
 Go.Value.int
 Go.IntKind.u64
 (Int.ofNat
 (Int.natAbs
 (Int.tmod
 (Go.IntKind.wrap
 Go.IntKind.i64
 (Int.tdiv
 s
 (60 :
 Int)))
 (60 :
 Int)))),
 Go.Value.int
 Go.IntKind.i64
 (Int.ofNat
 (0 :
 Nat))]))]) ∧
 Go.Proofs.YthcjocelokjifaaGreatDoor.rng
 (Int.tmod
 (Go.IntKind.wrap
 Go.IntKind.i64
 (Int.tdiv
 s
 (60 :
 Int)))
 (60 :
 Int)) ∧
 Go.Proofs.YthcjocelokjifaaGreatDoor.rng
 (Int.tmod s
 (60 :
 Int)) ∧
 Go.Value.agg
 (Array.mk
 [Go.Value.iface
 (117 :
 Nat)
 (Go.Value.agg
 (Array.mk
 [Go.Value.bool
 (Decidable.decide
 (Int.tmod
 s
 (60 :
 Int) <
 (0 :
 Int))),
 Go.Value.int
 Go.IntKind.u64
 (Int.ofNat
 (0 :
 Nat)),
 Go.Value.int
 Go.IntKind.u64
 (Int.ofNat
 (Int.natAbs
 (Int.tmod
 s
 (60 :
 Int)))),
 Go.Value.int
 Go.IntKind.i64
 (Int.ofNat
 (0 :
 Nat))]))]) =
 Go.Value.agg
 (Array.mk
 [Go.Value.iface
 (117 :
 Nat)
 (Go.Value.agg
 (Array.mk
 [Go.Value.bool
 (Decidable.decide
 (Int.tmod
 s
 (60 :
 Int) <
 (0 :
 Int))),
 Go.Value.int
 Go.IntKind.u64
 (Int.ofNat
 (0 :
 Nat)),
 Go.Value.int
 Go.IntKind.u64
 (Int.ofNat
 (Int.natAbs
 (Int.tmod
 s
 (60 :
 Int)))),
 Go.Value.int
 Go.IntKind.i64
 (Int.ofNat
 (0 :
 Nat))]))]) ∧
 Go.Proofs.YthcjocelokjifaaGreatDoor.rng
 (Int.tmod
 s
 (60 :
 Int)) ∧
 Go.Proofs.YthcjocelokjifaaGreatDoor.rng
 (Go.IntKind.wrap
 Go.IntKind.i64
 (Int.tdiv
 s
 (3600 :
 Int))) ∧
 Go.Value.agg
 (Array.mk
 [Go.Value.iface
 (117 :
 Nat)
 (Go.Value.agg
 (Array.mk
 [Go.Value.bool
 (Decidable.decide
 (Go.IntKind.wrap
 Go.IntKind.i64
 (Int.tdiv
 s
 (3600 :
 Int)) <
 (0 :
 Int))),
 Go.Value.int
 Go.IntKind.u64
 (Int.ofNat
 (0 :
 Nat)),
 Go.Value.int
 Go.IntKind.u64
 (Int.ofNat
 (Int.natAbs
 (Go.IntKind.wrap
 Go.IntKind.i64
 (Int.tdiv
 s
 (3600 :
 Int))))),
 Go.Value.int
 Go.IntKind.i64
 (Int.ofNat
 (0 :
 Nat))]))]) =
 Go.Value.agg
 (Array.mk
 [Go.Value.iface
 (117 :
 Nat)
 (Go.Value.agg
 (Array.mk
 [Go.Value.bool
 (Decidable.decide
 (Go.IntKind.wrap
 Go.IntKind.i64
 (Int.tdiv
 s
 (3600 :
 Int)) <
 (0 :
 Int))),
 Go.Value.int
 Go.IntKind.u64
 (Int.ofNat
 (0 :
 Nat)),
 Go.Value.int
 Go.IntKind.u64
 (Int.ofNat
 (Int.natAbs
 (Go.IntKind.wrap
 Go.IntKind.i64
 (Int.tdiv
 s
 (3600 :
 Int))))),
 Go.Value.int
 Go.IntKind.i64
 (Int.ofNat
 (0 :
 Nat))]))]) ∧
 Go.Proofs.YthcjocelokjifaaGreatDoor.rng
 (Go.IntKind.wrap
 Go.IntKind.i64
 (Int.tdiv
 s
 (3600 :
 Int))) ∧
 Go.Proofs.YthcjocelokjifaaGreatDoor.rng
 (Int.tmod
 (Go.IntKind.wrap
 Go.IntKind.i64
 (Int.tdiv
 s
 (60 :
 Int)))
 (60 :
 Int)) ∧
 Go.Value.agg
 (Array.mk
 [Go.Value.iface
 (117 :
 Nat)
 (Go.Value.agg
 (Array.mk
 [Go.Value.bool
 (Decidable.decide
 (Int.tmod
 (Go.IntKind.wrap
 Go.IntKind.i64
 (Int.tdiv
 s
 (60 :
 Int)))
 (60 :
 Int) <
 (0 :
 Int))),
 Go.Value.int
 Go.IntKind.u64
 (Int.ofNat
 (0 :
 Nat)),
 Go.Value.int
 Go.IntKind.u64
 (Int.ofNat
 (Int.natAbs
 (Int.tmod
 (Go.IntKind.wrap
 Go.IntKind.i64
 (Int.tdiv
 s
 (60 :
 Int)))
 (60 :
 Int)))),
 Go.Value.int
 Go.IntKind.i64
 (Int.ofNat
 (0 :
 Nat))]))]) =
 Go.Value.agg
 (Array.mk
 [Go.Value.iface
 (117 :
 Nat)
 (Go.Value.agg
 (Array.mk
 [Go.Value.bool
 (Decidable.decide
 (Int.tmod
 (Go.IntKind.wrap
 Go.IntKind.i64
 (Int.tdiv
 s
 (60 :
 Int)))
 (60 :
 Int) <
 (0 :
 Int))),
 Go.Value.int
 Go.IntKind.u64
 (Int.ofNat
 (0 :
 Nat)),
 Go.Value.int
 Go.IntKind.u64
 (Int.ofNat
 (Int.natAbs
 (Int.tmod
 (Go.IntKind.wrap
 Go.IntKind.i64
 (Int.tdiv
 s
 (60 :
 Int)))
 (60 :
 Int)))),
 Go.Value.int
 Go.IntKind.i64
 (Int.ofNat
 (0 :
 Nat))]))]) ∧
 Go.Proofs.YthcjocelokjifaaGreatDoor.rng
 (Int.tmod
 (Go.IntKind.wrap
 Go.IntKind.i64
 (Int.tdiv
 s
 (60 :
 Int)))
 (60 :
 Int)) ∧
 Go.Proofs.YthcjocelokjifaaGreatDoor.rng
 (Int.tmod
 s
 (60 :
 Int)) ∧
 Go.Value.agg
 (Array.mk
 [Go.Value.iface
 (117 :
 Nat)
 (Go.Value.agg
 (Array.mk
 [Go.Value.bool
 (Decidable.decide
 (Int.tmod
 s
 (60 :
 Int) <
 (0 :
 Int))),
 Go.Value.int
 Go.IntKind.u64
 (Int.ofNat
 (0 :
 Nat)),
 Go.Value.int
 Go.IntKind.u64
 (Int.ofNat
 (Int.natAbs
 (Int.tmod
 s
 (60 :
 Int)))),
 Go.Value.int
 Go.IntKind.i64
 (Int.ofNat
 (0 :
 Nat))]))]) =
 Go.Value.agg
 (Array.mk
 [Go.Value.iface
 (117 :
 Nat)
 (Go.Value.agg
 (Array.mk
 [Go.Value.bool
 (Decidable.decide
 (Int.tmod
 s
 (60 :
 Int) <
 (0 :
 Int))),
 Go.Value.int
 Go.IntKind.u64
 (Int.ofNat
 (0 :
 Nat)),
 Go.Value.int
 Go.IntKind.u64
 (Int.ofNat
 (Int.natAbs
 (Int.tmod
 s
 (60 :
 Int)))),
 Go.Value.int
 Go.IntKind.i64
 (Int.ofNat
 (0 :
 Nat))]))]) ∧
 Go.Proofs.YthcjocelokjifaaGreatDoor.rng
 (Int.tmod
 s
 (60 :
 Int)) ∧
 Go.Pe.bsel
 (Go.Pe.strEq
 t
 (ByteArray.mk
 #[(100 :
 UInt8),
 (97 :
 UInt8),
 (121 :
 UInt8),
 (32 :
 UInt8),
 (111 :
 UInt8),
 (102 :
 UInt8),
 (32 :
 UInt8),
 (121 :
 UInt8),
 (101 :
 UInt8),
 (97 :
 UInt8),
 (114 :
 UInt8)]))
 (K
 (Go.Value.bool
 Bool.true)
 (11 :
 Nat))
 (Go.Pe.bsel
 (Go.Pe.strEq
 t
 (ByteArray.mk
 #[(100 :
 UInt8),
 (97 :
 UInt8),
 (121 :
 UInt8),
 (32 :
 UInt8),
 (111 :
 UInt8),
 (102 :
 UInt8),
 (32 :
 UInt8),
 (119 :
 UInt8),
 (101 :
 UInt8),
 (101 :
 UInt8),
 (107 :
 UInt8)]))
 (K
 (Go.Value.bool
 Bool.true)
 (11 :
 Nat))
 (Go.Pe.bsel
 (Go.Pe.strEq
 t
 (ByteArray.mk
 #[(109 :
 UInt8),
 (111 :
 UInt8),
 (110 :
 UInt8),
 (116 :
 UInt8),
 (104 :
 UInt8),
 (32 :
 UInt8),
 (111 :
 UInt8),
 (102 :
 UInt8),
 (32 :
 UInt8),
 (121 :
 UInt8),
 (101 :
 UInt8),
 (97 :
 UInt8),
 (114 :
 UInt8)]))
 (K
 (Go.Value.bool
 Bool.true)
 (11 :
 Nat))
 (Go.Pe.bsel
 (Go.Pe.strEq
 t
 (ByteArray.mk
 #[(119 :
 UInt8),
 (101 :
 UInt8),
 (101 :
 UInt8),
 (107 :
 UInt8),
 (32 :
 UInt8),
 (111 :
 UInt8),
 (102 :
 UInt8),
 (32 :
 UInt8),
 (121 :
 UInt8),
 (101 :
 UInt8),
 (97 :
 UInt8),
 (114 :
 UInt8)]))
 (K
 (Go.Value.bool
 Bool.true)
 (11 :
 Nat))
 (Go.Pe.bsel
 (Go.Pe.strEq
 t
 (ByteArray.mk
 #[(100 :
 UInt8),
 (97 :
 UInt8),
 (121 :
 UInt8),
 (32 :
 UInt8),
 (111 :
 UInt8),
 (102 :
 UInt8),
 (32 :
 UInt8),
 (121 :
 UInt8),
 (101 :
 UInt8),
 (97 :
 UInt8),
 (114 :
 UInt8)]))
 (Go.Proofs.YthcjocelokjifaaGreatDoor.Same
 [Go.Value.agg
 (Array.mk
 [Go.Value.int
 Go.IntKind.i64
 y,
 Go.Value.int
 Go.IntKind.i64
 m,
 Go.Value.int
 Go.IntKind.i64
 d])]
 [Go.Value.agg
 (Array.mk
 [Go.Value.int
 Go.IntKind.i64
 y,
 Go.Value.int
 Go.IntKind.i64
 m,
 Go.Value.int
 Go.IntKind.i64
 d])] ∧
 Go.Proofs.YthcjocelokjifaaGreatDoor.rng
 j ∧
 K
 (Go.Value.bool
 Bool.false)
 (11 :
 Nat))
 (Go.Pe.bsel
 (Go.Pe.strEq
 t
 (ByteArray.mk
 #[(100 :
 UInt8),
 (97 :
 UInt8),
 (121 :
 UInt8),
 (32 :
 UInt8),
 (111 :
 UInt8),
 (102 :
 UInt8),
 (32 :
 UInt8),
 (119 :
 UInt8),
 (101 :
 UInt8),
 (101 :
 UInt8),
 (107 :
 UInt8)]))
 (Go.Proofs.YthcjocelokjifaaGreatDoor.Same
 [Go.Value.agg
 (Array.mk
 [Go.Value.int
 Go.IntKind.i64
 y,
 Go.Value.int
 Go.IntKind.i64
 m,
 Go.Value.int
 Go.IntKind.i64
 d])]
 [Go.Value.agg
 (Array.mk
 [Go.Value.int
 Go.IntKind.i64
 y,
 Go.Value.int
 Go.IntKind.i64
 m,
 Go.Value.int
 Go.IntKind.i64
 d])] ∧
 Go.Pe.bsel
 (Decidable.decide
 ((0 :
 Int) ≤
 Go.IntKind.wrap
 Go.IntKind.i64
 (w -
 (1 :
 Int))) &&
 Decidable.decide
 (Go.IntKind.wrap
 Go.IntKind.i64
 (w -
 (1 :
 Int)) <
 ↑(7 :
 Nat)))
 (Go.Pe.bsel
 (Nat.blt
 ((0 :
 Nat) +
 Int.toNat
 (Go.IntKind.wrap
 Go.IntKind.i64
 (w -
 (1 :
 Int))) *
 (1 :
 Nat))
 (List.length
 [Option.some
 (Go.Value.string
 (ByteArray.mk
 #[(77 :
 UInt8),
 (111 :
 UInt8),
 (110 :
 UInt8),
 (100 :
 UInt8),
 (97 :
 UInt8),
 (121 :
 UInt8)])),
 Option.some
 (Go.Value.string
 (ByteArray.mk
 #[(84 :
 UInt8),
 (117 :
 UInt8),
 (101 :
 UInt8),
 (115 :
 UInt8),
 (100 :
 UInt8),
 (97 :
 UInt8),
 (121 :
 UInt8)])),
 Option.some
 (Go.Value.string
 (ByteArray.mk
 #[(87 :
 UInt8),
 (101 :
 UInt8),
 (100 :
 UInt8),
 (110 :
 UInt8),
 (101 :
 UInt8),
 (115 :
 UInt8),
 (100 :
 UInt8),
 (97 :
 UInt8),
 (121 :
 UInt8)])),
 Option.some
 (Go.Value.string
 (ByteArray.mk
 #[(84 :
 UInt8),
 (104 :
 UInt8),
 (117 :
 UInt8),
 (114 :
 UInt8),
 (115 :
 UInt8),
 (100 :
 UInt8),
 (97 :
 UInt8),
 (121 :
 UInt8)])),
 Option.some
 (Go.Value.string
 (ByteArray.mk
 #[(70 :
 UInt8),
 (114 :
 UInt8),
 (105 :
 UInt8),
 (100 :
 UInt8),
 (97 :
 UInt8),
 (121 :
 UInt8)])),
 Option.some
 (Go.Value.string
 (ByteArray.mk
 #[(83 :
 UInt8),
 (97 :
 UInt8),
 (116 :
 UInt8),
 (117 :
 UInt8),
 (114 :
 UInt8),
 (100 :
 UInt8),
 (97 :
 UInt8),
 (121 :
 UInt8)])),
 Option.some
 (Go.Value.string
 (ByteArray.mk
 #[(83 :
 UInt8),
 (117 :
 UInt8),
 (110 :
 UInt8),
 (100 :
 UInt8),
 (97 :
 UInt8),
 (121 :
 UInt8)]))]))
 (Go.Proofs.YthcjocelokjifaaGreatDoor.Texty
 (S
 [Option.some
 (Go.Value.string
 (ByteArray.mk
 #[(77 :
 UInt8),
 (111 :
 UInt8),
 (110 :
 UInt8),
 (100 :
 UInt8),
 (97 :
 UInt8),
 (121 :
 UInt8)])),
 Option.some
 (Go.Value.string
 (ByteArray.mk
 #[(84 :
 UInt8),
 (117 :
 UInt8),
 (101 :
 UInt8),
 (115 :
 UInt8),
 (100 :
 UInt8),
 (97 :
 UInt8),
 (121 :
 UInt8)])),
 Option.some
 (Go.Value.string
 (ByteArray.mk
 #[(87 :
 UInt8),
 (101 :
 UInt8),
 (100 :
 UInt8),
 (110 :
 UInt8),
 (101 :
 UInt8),
 (115 :
 UInt8),
 (100 :
 UInt8),
 (97 :
 UInt8),
 (121 :
 UInt8)])),
 Option.some
 (Go.Value.string
 (ByteArray.mk
 #[(84 :
 UInt8),
 (104 :
 UInt8),
 (117 :
 UInt8),
 (114 :
 UInt8),
 (115 :
 UInt8),
 (100 :
 UInt8),
 (97 :
 UInt8),
 (121 :
 UInt8)])),
 Option.some
 (Go.Value.string
 (ByteArray.mk
 #[(70 :
 UInt8),
 (114 :
 UInt8),
 (105 :
 UInt8),
 (100 :
 UInt8),
 (97 :
 UInt8),
 (121 :
 UInt8)])),
 Option.some
 (Go.Value.string
 (ByteArray.mk
 #[(83 :
 UInt8),
 (97 :
 UInt8),
 (116 :
 UInt8),
 (117 :
 UInt8),
 (114 :
 UInt8),
 (100 :
 UInt8),
 (97 :
 UInt8),
 (121 :
 UInt8)])),
 Option.some
 (Go.Value.string
 (ByteArray.mk
 #[(83 :
 UInt8),
 (117 :
 UInt8),
 (110 :
 UInt8),
 (100 :
 UInt8),
 (97 :
 UInt8),
 (121 :
 UInt8)]))]
 ((0 :
 Nat) +
 Int.toNat
 (Go.IntKind.wrap
 Go.IntKind.i64
 (w -
 (1 :
 Int))) *
 (1 :
 Nat))) ∧
 K
 (Go.Value.bool
 Bool.false)
 (11 :
 Nat))
 False)
 False)
 (Go.Pe.bsel
 (Go.Pe.strEq
 t
 (ByteArray.mk
 #[(109 :
 UInt8),
 (111 :
 UInt8),
 (110 :
 UInt8),
 (116 :
 UInt8),
 (104 :
 UInt8),
 (32 :
 UInt8),
 (111 :
 UInt8),
 (102 :
 UInt8),
 (32 :
 UInt8),
 (121 :
 UInt8),
 (101 :
 UInt8),
 (97 :
 UInt8),
 (114 :
 UInt8)]))
 (Go.Pe.bsel
 (Decidable.decide
 ((0 :
 Int) ≤
 Go.IntKind.wrap
 Go.IntKind.i64
 (m -
 (1 :
 Int))) &&
 Decidable.decide
 (Go.IntKind.wrap
 Go.IntKind.i64
 (m -
 (1 :
 Int)) <
 ↑(12 :
 Nat)))
 (Go.Pe.bsel
 (Nat.blt
 ((0 :
 Nat) +
 Int.toNat
 (Go.IntKind.wrap
 Go.IntKind.i64
 (m -
 (1 :
 Int))) *
 (1 :
 Nat))
 (List.length
 [Option.some
 (Go.Value.string
 (ByteArray.mk
 #[(74 :
 UInt8),
 (97 :
 UInt8),
 (110 :
 UInt8),
 (117 :
 UInt8),
 (97 :
 UInt8),
 (114 :
 UInt8),
 (121 :
 UInt8)])),
 Option.some
 (Go.Value.string
 (ByteArray.mk
 #[(70 :
 UInt8),
 (101 :
 UInt8),
 (98 :
 UInt8),
 (114 :
 UInt8),
 (117 :
 UInt8),
 (97 :
 UInt8),
 (114 :
 UInt8),
 (121 :
 UInt8)])),
 Option.some
 (Go.Value.string
 (ByteArray.mk
 #[(77 :
 UInt8),
 (97 :
 UInt8),
 (114 :
 UInt8),
 (99 :
 UInt8),
 (104 :
 UInt8)])),
 Option.some
 (Go.Value.string
 (ByteArray.mk
 #[(65 :
 UInt8),
 (112 :
 UInt8),
 (114 :
 UInt8),
 (105 :
 UInt8),
 (108 :
 UInt8)])),
 Option.some
 (Go.Value.string
 (ByteArray.mk
 #[(77 :
 UInt8),
 (97 :
 UInt8),
 (121 :
 UInt8)])),
 Option.some
 (Go.Value.string
 (ByteArray.mk
 #[(74 :
 UInt8),
 (117 :
 UInt8),
 (110 :
 UInt8),
 (101 :
 UInt8)])),
 Option.some
 (Go.Value.string
 (ByteArray.mk
 #[(74 :
 UInt8),
 (117 :
 UInt8),
 (108 :
 UInt8),
 (121 :
 UInt8)])),
 Option.some
 (Go.Value.string
 (ByteArray.mk
 #[(65 :
 UInt8),
 (117 :
 UInt8),
 (103 :
 UInt8),
 (117 :
 UInt8),
 (115 :
 UInt8),
 (116 :
 UInt8)])),
 Option.some
 (Go.Value.string
 (ByteArray.mk
 #[(83 :
 UInt8),
 (101 :
 UInt8),
 (112 :
 UInt8),
 (116 :
 UInt8),
 (101 :
 UInt8),
 (109 :
 UInt8),
 (98 :
 UInt8),
 (101 :
 UInt8),
 (114 :
 UInt8)])),
 Option.some
 (Go.Value.string
 (ByteArray.mk
 #[(79 :
 UInt8),
 (99 :
 UInt8),
 (116 :
 UInt8),
 (111 :
 UInt8),
 (98 :
 UInt8),
 (101 :
 UInt8),
 (114 :
 UInt8)])),
 Option.some
 (Go.Value.string
 (ByteArray.mk
 #[(78 :
 UInt8),
 (111 :
 UInt8),
 (118 :
 UInt8),
 (101 :
 UInt8),
 (109 :
 UInt8),
 (98 :
 UInt8),
 (101 :
 UInt8),
 (114 :
 UInt8)])),
 Option.some
 (Go.Value.string
 (ByteArray.mk
 #[(68 :
 UInt8),
 (101 :
 UInt8),
 (99 :
 UInt8),
 (101 :
 UInt8),
 (109 :
 UInt8),
 (98 :
 UInt8),
 (101 :
 UInt8),
 (114 :
 UInt8)]))]))
 (Go.Proofs.YthcjocelokjifaaGreatDoor.Texty
 (S
 [Option.some
 (Go.Value.string
 (ByteArray.mk
 #[(74 :
 UInt8),
 (97 :
 UInt8),
 (110 :
 UInt8),
 (117 :
 UInt8),
 (97 :
 UInt8),
 (114 :
 UInt8),
 (121 :
 UInt8)])),
 Option.some
 (Go.Value.string
 (ByteArray.mk
 #[(70 :
 UInt8),
 (101 :
 UInt8),
 (98 :
 UInt8),
 (114 :
 UInt8),
 (117 :
 UInt8),
 (97 :
 UInt8),
 (114 :
 UInt8),
 (121 :
 UInt8)])),
 Option.some
 (Go.Value.string
 (ByteArray.mk
 #[(77 :
 UInt8),
 (97 :
 UInt8),
 (114 :
 UInt8),
 (99 :
 UInt8),
 (104 :
 UInt8)])),
 Option.some
 (Go.Value.string
 (ByteArray.mk
 #[(65 :
 UInt8),
 (112 :
 UInt8),
 (114 :
 UInt8),
 (105 :
 UInt8),
 (108 :
 UInt8)])),
 Option.some
 (Go.Value.string
 (ByteArray.mk
 #[(77 :
 UInt8),
 (97 :
 UInt8),
 (121 :
 UInt8)])),
 Option.some
 (Go.Value.string
 (ByteArray.mk
 #[(74 :
 UInt8),
 (117 :
 UInt8),
 (110 :
 UInt8),
 (101 :
 UInt8)])),
 Option.some
 (Go.Value.string
 (ByteArray.mk
 #[(74 :
 UInt8),
 (117 :
 UInt8),
 (108 :
 UInt8),
 (121 :
 UInt8)])),
 Option.some
 (Go.Value.string
 (ByteArray.mk
 #[(65 :
 UInt8),
 (117 :
 UInt8),
 (103 :
 UInt8),
 (117 :
 UInt8),
 (115 :
 UInt8),
 (116 :
 UInt8)])),
 Option.some
 (Go.Value.string
 (ByteArray.mk
 #[(83 :
 UInt8),
 (101 :
 UInt8),
 (112 :
 UInt8),
 (116 :
 UInt8),
 (101 :
 UInt8),
 (109 :
 UInt8),
 (98 :
 UInt8),
 (101 :
 UInt8),
 (114 :
 UInt8)])),
 Option.some
 (Go.Value.string
 (ByteArray.mk
 #[(79 :
 UInt8),
 (99 :
 UInt8),
 (116 :
 UInt8),
 (111 :
 UInt8),
 (98 :
 UInt8),
 (101 :
 UInt8),
 (114 :
 UInt8)])),
 Option.some
 (Go.Value.string
 (ByteArray.mk
 #[(78 :
 UInt8),
 (111 :
 UInt8),
 (118 :
 UInt8),
 (101 :
 UInt8),
 (109 :
 UInt8),
 (98 :
 UInt8),
 (101 :
 UInt8),
 (114 :
 UInt8)])),
 Option.some
 (Go.Value.string
 (ByteArray.mk
 #[(68 :
 UInt8),
 (101 :
 UInt8),
 (99 :
 UInt8),
 (101 :
 UInt8),
 (109 :
 UInt8),
 (98 :
 UInt8),
 (101 :
 UInt8),
 (114 :
 UInt8)]))]
 ((0 :
 Nat) +
 Int.toNat
 (Go.IntKind.wrap
 Go.IntKind.i64
 (m -
 (1 :
 Int))) *
 (1 :
 Nat))) ∧
 K
 (Go.Value.bool
 Bool.false)
 (11 :
 Nat))
 False)
 False)
 (Go.Pe.bsel
 (Go.Pe.strEq
 t
 (ByteArray.mk
 #[(119 :
 UInt8),
 (101 :
 UInt8),
 (101 :
 UInt8),
 (107 :
 UInt8),
 (32 :
 UInt8),
 (111 :
 UInt8),
 (102 :
 UInt8),
 (32 :
 UInt8),
 (121 :
 UInt8),
 (101 :
 UInt8),
 (97 :
 UInt8),
 (114 :
 UInt8)]))
 (Go.Proofs.YthcjocelokjifaaGreatDoor.Same
 [Go.Value.agg
 (Array.mk
 [Go.Value.int
 Go.IntKind.i64
 y,
 Go.Value.int
 Go.IntKind.i64
 m,
 Go.Value.int
 Go.IntKind.i64
 d])]
 [Go.Value.agg
 (Array.mk
 [Go.Value.int
 Go.IntKind.i64
 y,
 Go.Value.int
 Go.IntKind.i64
 m,
 Go.Value.int
 Go.IntKind.i64
 d])] ∧
 Go.Proofs.YthcjocelokjifaaGreatDoor.rng
 k ∧
 K
 (Go.Value.bool
 Bool.false)
 (11 :
 Nat))
 (K
 (Go.Value.bool
 Bool.true)
 (11 :
 Nat))))))))))
 False)
 False)
 False)
 False)
 False)
 False)
 False)
 False)
 False)
 False)
 False)
 False)
 False)
 False)
 False)
 False) := by kernel_rfl

end Go.Proofs.YthcjocelokjifaaGreatDoor
