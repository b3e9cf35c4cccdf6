/-
  The law TimefunMakes: what it reckons.
-/
import Derived.Test.YteaebpmgbpnbeaaGreatDoorFe
import Derived.Test.YteaebpmgbpnbeaaGreatDoorFf
namespace Go.Proofs.YteaebpmgbpnbeaaGreatDoor
open Go Go.Pe Go.RowKit

def rulesMakes (base : World) (a b c f : Int) (vw : Value) (aw vu : Value) (may : Bool) : List (Nat × Rule) :=
  (10, ruleAt [] (.bool true)) :: (25, ruleMakeD) :: (18, ruleSame' base) ::
  (49, ruleEx base 49) :: (50, ruleEx base 50) :: (48, ruleEx base 48) ::
  (63, ruleEx base 63) :: (64, ruleEx base 64) :: (66, ruleEx base 66) ::
  (67, ruleAt [.int .i64 a, .int .i64 b, .int .i64 c] vw) :: (68, ruleAt [aw, .int .i64 f] vu) :: (69, ruleAt [.int .i64 f] (.bool may)) ::
  (39, ruleNull) :: rulesC opqK rules4

theorem makes_ttt (K : Value → Nat → Prop) (base : World) (r1 r2 r3 r4 r5 a b c f s o s2 o2 : Int) (r6 z z2 : Bool) :
    funcK (envB (rulesMakes base a b c f (.tuple #[timeC s z o, .bool true]) (timeC s z o) (.tuple #[timeC s2 z2 o2, .bool true]) true )) 30 7 [.agg ⟨[.int .i64 r1, .int .i64 r2, .int .i64 r3, .int .i64 r4, .int .i64 r5, .bool r6]⟩, .int .i64 a, .int .i64 b, .int .i64 c, .int .i64 f] tabs Tryz.prog.globals.size (fun u _ _ mw => K u mw) =
  (Go.Proofs.YteaebpmgbpnbeaaGreatDoor.Same [] [] ∧
 ∀ (y m d s_1 : Int) (z_1 : Bool) (o_1 : Int),
 Go.Proofs.YteaebpmgbpnbeaaGreatDoor.dateOk y m d →
 Go.Proofs.YteaebpmgbpnbeaaGreatDoor.timeOk s_1 z_1 o_1 →
 (List.all [Go.Value.int Go.IntKind.i64 y, Go.Value.int Go.IntKind.i64 m, Go.Value.int Go.IntKind.i64 d, Go.Value.int Go.IntKind.i64 s_1, Go.Value.bool z_1, Go.Value.int Go.IntKind.i64 o_1]
 fun (x : Go.Value) => Go.Value.oneCell' x) =
 Bool.true ∧
 ∀ (x : Go.Value),
 Go.Proofs.YteaebpmgbpnbeaaGreatDoor.isV (Go.Proofs.YteaebpmgbpnbeaaGreatDoor.dateOk y m d ∧ Go.Proofs.YteaebpmgbpnbeaaGreatDoor.timeOk s_1 z_1 o_1)
 (Go.Value.agg
 (Array.mk
 [Go.Value.iface (142 : Nat)
 (Go.Value.agg
 (Array.mk
 [Go.Value.int Go.IntKind.i64 y, Go.Value.int Go.IntKind.i64 m, Go.Value.int Go.IntKind.i64 d, Go.Value.int Go.IntKind.i64 s_1, Go.Value.bool z_1,
 Go.Value.int Go.IntKind.i64 o_1]))]))
 (Go.Value.agg (Array.mk [x])) →
 ∀ (x_1 : Go.Value),
 Go.Proofs.YteaebpmgbpnbeaaGreatDoor.isV (Go.Proofs.YteaebpmgbpnbeaaGreatDoor.dateOk y m d)
 (Go.Value.agg (Array.mk [Go.Value.iface (143 : Nat) (Go.Value.agg (Array.mk [Go.Value.int Go.IntKind.i64 y, Go.Value.int Go.IntKind.i64 m, Go.Value.int Go.IntKind.i64 d]))]))
 (Go.Value.agg (Array.mk [x_1])) →
 ∀ (x_2 : Go.Value),
 Go.Proofs.YteaebpmgbpnbeaaGreatDoor.isV (Go.Proofs.YteaebpmgbpnbeaaGreatDoor.timeOk s_1 z_1 o_1)
 (Go.Value.agg (Array.mk [Go.Value.iface (144 : Nat) (Go.Value.agg (Array.mk [Go.Value.int Go.IntKind.i64 s_1, Go.Value.bool z_1, Go.Value.int Go.IntKind.i64 o_1]))]))
 (Go.Value.agg (Array.mk [x_2])) →
 (List.all [x] fun (x : Go.Value) => Go.Value.oneCell' x) = Bool.true ∧
 (List.all [x_1] fun (x : Go.Value) => Go.Value.oneCell' x) = Bool.true ∧
 (List.all [x_2] fun (x : Go.Value) => Go.Value.oneCell' x) = Bool.true ∧
 (List.all
 [Go.Value.int Go.IntKind.i64 y, Go.Value.int Go.IntKind.i64 m, Go.Value.int Go.IntKind.i64 d, Go.Value.int Go.IntKind.i64 (Int.ofNat (0 : Nat)),
 Go.Value.bool Bool.true, Go.Value.int Go.IntKind.i64 (Int.ofNat (0 : Nat))]
 fun (x : Go.Value) => Go.Value.oneCell' x) =
 Bool.true ∧
 ∃ (x_3 : Go.Value),
 Go.Proofs.YteaebpmgbpnbeaaGreatDoor.Tot base (49 : Nat) [Go.Value.agg (Array.mk [x])] (Go.Value.agg (Array.mk [x_3])) ∧
 x_3 = x_1 ∧
 Go.Proofs.YteaebpmgbpnbeaaGreatDoor.Plainly base (Go.Value.agg (Array.mk [x_3])) ∧
 ∃ (x_4 : Go.Value),
 Go.Proofs.YteaebpmgbpnbeaaGreatDoor.Tot base (49 : Nat) [Go.Value.agg (Array.mk [x_1])] (Go.Value.agg (Array.mk [x_4])) ∧
 x_4 = x_1 ∧
 Go.Proofs.YteaebpmgbpnbeaaGreatDoor.Plainly base (Go.Value.agg (Array.mk [x_4])) ∧
 ∃ (x_5 : Go.Value),
 Go.Proofs.YteaebpmgbpnbeaaGreatDoor.Tot base (50 : Nat) [Go.Value.agg (Array.mk [x])] (Go.Value.agg (Array.mk [x_5])) ∧
 x_5 = x_2 ∧
 Go.Proofs.YteaebpmgbpnbeaaGreatDoor.Plainly base (Go.Value.agg (Array.mk [x_5])) ∧
 ∃ (x_6 : Go.Value),
 Go.Proofs.YteaebpmgbpnbeaaGreatDoor.Tot base (50 : Nat) [Go.Value.agg (Array.mk [x_2])] (Go.Value.agg (Array.mk [x_6])) ∧
 x_6 = x_2 ∧
 Go.Proofs.YteaebpmgbpnbeaaGreatDoor.Plainly base (Go.Value.agg (Array.mk [x_6])) ∧
 ∃ (x_7 : Go.Value),
 Go.Proofs.YteaebpmgbpnbeaaGreatDoor.Tot base (50 : Nat) [Go.Value.agg (Array.mk [x_1])] (Go.Value.agg (Array.mk [x_7])) ∧
 ∀ (x_8 : Go.Value),
 Go.Proofs.YteaebpmgbpnbeaaGreatDoor.isV (Go.Proofs.YteaebpmgbpnbeaaGreatDoor.timeOk (0 : Int) Bool.true (0 : Int))
 (Go.Value.agg
 (Array.mk
 [Go.Value.iface (144 : Nat)
 (Go.Value.agg
 (Array.mk
 [Go.Value.int Go.IntKind.i64 (Int.ofNat (0 : Nat)), Go.Value.bool Bool.true,
 Go.Value.int Go.IntKind.i64 (Int.ofNat (0 : Nat))]))]))
 (Go.Value.agg (Array.mk [x_8])) →
 x_7 = x_8 ∧
 Go.Proofs.YteaebpmgbpnbeaaGreatDoor.Plainly base (Go.Value.agg (Array.mk [x_7])) ∧
 ∃ (x_9 : Go.Value),
 Go.Proofs.YteaebpmgbpnbeaaGreatDoor.Tot base (48 : Nat) [Go.Value.agg (Array.mk [x])] (Go.Value.agg (Array.mk [x_9])) ∧
 x_9 = x ∧
 Go.Proofs.YteaebpmgbpnbeaaGreatDoor.Plainly base (Go.Value.agg (Array.mk [x_9])) ∧
 ∃ (x_10 : Go.Value),
 Go.Proofs.YteaebpmgbpnbeaaGreatDoor.Tot base (48 : Nat) [Go.Value.agg (Array.mk [x_1])]
 (Go.Value.agg (Array.mk [x_10])) ∧
 ∀ (x_11 : Go.Value),
 Go.Proofs.YteaebpmgbpnbeaaGreatDoor.isV
 (Go.Proofs.YteaebpmgbpnbeaaGreatDoor.dateOk y m d ∧
 Go.Proofs.YteaebpmgbpnbeaaGreatDoor.timeOk (0 : Int) Bool.true (0 : Int))
 (Go.Value.agg
 (Array.mk
 [Go.Value.iface (142 : Nat)
 (Go.Value.agg
 (Array.mk
 [Go.Value.int Go.IntKind.i64 y, Go.Value.int Go.IntKind.i64 m, Go.Value.int Go.IntKind.i64 d,
 Go.Value.int Go.IntKind.i64 (Int.ofNat (0 : Nat)), Go.Value.bool Bool.true,
 Go.Value.int Go.IntKind.i64 (Int.ofNat (0 : Nat))]))]))
 (Go.Value.agg (Array.mk [x_11])) →
 x_10 = x_11 ∧
 Go.Proofs.YteaebpmgbpnbeaaGreatDoor.Plainly base (Go.Value.agg (Array.mk [x_10])) ∧
 ∃ (x_12 : Go.Value),
 Go.Proofs.YteaebpmgbpnbeaaGreatDoor.Tot base (63 : Nat)
 [Go.Value.agg (Array.mk [x]), Go.Value.agg (Array.mk [x_2])] (Go.Value.agg (Array.mk [x_12])) ∧
 x_12 = x ∧
 Go.Proofs.YteaebpmgbpnbeaaGreatDoor.Plainly base (Go.Value.agg (Array.mk [x_12])) ∧
 ∃ (x_13 : Go.Value),
 Go.Proofs.YteaebpmgbpnbeaaGreatDoor.Tot base (63 : Nat)
 [Go.Value.agg (Array.mk [x_1]), Go.Value.agg (Array.mk [x_2])]
 (Go.Value.agg (Array.mk [x_13])) ∧
 x_13 = x ∧
 Go.Proofs.YteaebpmgbpnbeaaGreatDoor.Plainly base (Go.Value.agg (Array.mk [x_13])) ∧
 Go.Proofs.YteaebpmgbpnbeaaGreatDoor.rng a ∧
 Go.Proofs.YteaebpmgbpnbeaaGreatDoor.rng b ∧
 Go.Proofs.YteaebpmgbpnbeaaGreatDoor.rng c ∧
 ∃ (x_14 : Go.Value),
 Go.Proofs.YteaebpmgbpnbeaaGreatDoor.Tot base (64 : Nat)
 [Go.Value.agg
 (Array.mk
 [Go.Value.iface (130 : Nat)
 (Go.Value.agg
 (Array.mk
 [Go.Value.bool (Decidable.decide (a < (0 : Int))),
 Go.Value.int Go.IntKind.u64 (Int.ofNat (0 : Nat)),
 Go.Value.int Go.IntKind.u64 (Int.ofNat (Int.natAbs a)),
 Go.Value.int Go.IntKind.i64 (Int.ofNat (0 : Nat))]))]),
 Go.Value.agg
 (Array.mk
 [Go.Value.iface (130 : Nat)
 (Go.Value.agg
 (Array.mk
 [Go.Value.bool (Decidable.decide (b < (0 : Int))),
 Go.Value.int Go.IntKind.u64 (Int.ofNat (0 : Nat)),
 Go.Value.int Go.IntKind.u64 (Int.ofNat (Int.natAbs b)),
 Go.Value.int Go.IntKind.i64 (Int.ofNat (0 : Nat))]))]),
 Go.Value.agg
 (Array.mk
 [Go.Value.iface (130 : Nat)
 (Go.Value.agg
 (Array.mk
 [Go.Value.bool (Decidable.decide (c < (0 : Int))),
 Go.Value.int Go.IntKind.u64 (Int.ofNat (0 : Nat)),
 Go.Value.int Go.IntKind.u64 (Int.ofNat (Int.natAbs c)),
 Go.Value.int Go.IntKind.i64 (Int.ofNat (0 : Nat))]))])]
 (Go.Value.agg (Array.mk [x_14])) ∧
 (List.all [x_14] fun (x : Go.Value) => Go.Value.oneCell' x) = Bool.true ∧
 Go.Proofs.YteaebpmgbpnbeaaGreatDoor.rng a ∧
 Go.Proofs.YteaebpmgbpnbeaaGreatDoor.rng b ∧
 Go.Proofs.YteaebpmgbpnbeaaGreatDoor.rng c ∧
 ∃ (x_15 : Go.Value),
 Go.Proofs.YteaebpmgbpnbeaaGreatDoor.Tot base (66 : Nat)
 [Go.Value.agg
 (Array.mk
 [Go.Value.iface (130 : Nat)
 (Go.Value.agg
 (Array.mk
 [Go.Value.bool (Decidable.decide (a < (0 : Int))),
 Go.Value.int Go.IntKind.u64 (Int.ofNat (0 : Nat)),
 Go.Value.int Go.IntKind.u64
 (Int.ofNat (Int.natAbs a)),
 Go.Value.int Go.IntKind.i64
 (Int.ofNat (0 : Nat))]))]),
 Go.Value.agg
 (Array.mk
 [Go.Value.iface (130 : Nat)
 (Go.Value.agg
 (Array.mk
 [Go.Value.bool (Decidable.decide (b < (0 : Int))),
 Go.Value.int Go.IntKind.u64 (Int.ofNat (0 : Nat)),
 Go.Value.int Go.IntKind.u64
 (Int.ofNat (Int.natAbs b)),
 Go.Value.int Go.IntKind.i64
 (Int.ofNat (0 : Nat))]))]),
 Go.Value.agg
 (Array.mk
 [Go.Value.iface (130 : Nat)
 (Go.Value.agg
 (Array.mk
 [Go.Value.bool (Decidable.decide (c < (0 : Int))),
 Go.Value.int Go.IntKind.u64 (Int.ofNat (0 : Nat)),
 Go.Value.int Go.IntKind.u64
 (Int.ofNat (Int.natAbs c)),
 Go.Value.int Go.IntKind.i64
 (Int.ofNat (0 : Nat))]))]),
 Go.Value.agg (Array.mk [Go.Value.nilIface])]
 (Go.Value.agg (Array.mk [x_15])) ∧
 (List.all [x_15] fun (x : Go.Value) => Go.Value.oneCell' x) =
 Bool.true ∧
 Go.Proofs.YteaebpmgbpnbeaaGreatDoor.rng a ∧
 Go.Proofs.YteaebpmgbpnbeaaGreatDoor.rng b ∧
 Go.Proofs.YteaebpmgbpnbeaaGreatDoor.rng c ∧
 ∀ (x_16 : Go.Value),
 Go.Proofs.YteaebpmgbpnbeaaGreatDoor.isV
 (Go.Proofs.YteaebpmgbpnbeaaGreatDoor.spanOk f)
 (Go.Value.agg
 (Array.mk
 [Go.Value.iface (131 : Nat)
 (Go.Value.int Go.IntKind.i64 f)]))
 (Go.Value.agg (Array.mk [x_16])) →
 ∃ (x_17 : Go.Value),
 Go.Proofs.YteaebpmgbpnbeaaGreatDoor.Tot base
 (66 : Nat)
 [Go.Value.agg
 (Array.mk
 [Go.Value.iface (130 : Nat)
 (Go.Value.agg
 (Array.mk
 [Go.Value.bool
 (Decidable.decide
 (a < (0 : Int))),
 Go.Value.int Go.IntKind.u64
 (Int.ofNat (0 : Nat)),
 Go.Value.int Go.IntKind.u64
 (Int.ofNat (Int.natAbs a)),
 Go.Value.int Go.IntKind.i64
 (Int.ofNat (0 : Nat))]))]),
 Go.Value.agg
 (Array.mk
 [Go.Value.iface (130 : Nat)
 (Go.Value.agg
 (Array.mk
 [Go.Value.bool
 (Decidable.decide
 (b < (0 : Int))),
 Go.Value.int Go.IntKind.u64
 (Int.ofNat (0 : Nat)),
 Go.Value.int Go.IntKind.u64
 (Int.ofNat (Int.natAbs b)),
 Go.Value.int Go.IntKind.i64
 (Int.ofNat (0 : Nat))]))]),
 Go.Value.agg
 (Array.mk
 [Go.Value.iface (130 : Nat)
 (Go.Value.agg
 (Array.mk
 [Go.Value.bool
 (Decidable.decide
 (c < (0 : Int))),
 Go.Value.int Go.IntKind.u64
 (Int.ofNat (0 : Nat)),
 Go.Value.int Go.IntKind.u64
 (Int.ofNat (Int.natAbs c)),
 Go.Value.int Go.IntKind.i64
 (Int.ofNat (0 : Nat))]))]),
 Go.Value.agg (Array.mk [x_16])]
 (Go.Value.agg (Array.mk [x_17])) ∧
 (List.all [x_17] fun (x : Go.Value) =>
 Go.Value.oneCell' x) =
 Bool.true ∧
 Go.Proofs.YteaebpmgbpnbeaaGreatDoor.Same
 [Go.Value.int Go.IntKind.i64 a,
 Go.Value.int Go.IntKind.i64 b,
 Go.Value.int Go.IntKind.i64 c]
 [Go.Value.int Go.IntKind.i64 a,
 Go.Value.int Go.IntKind.i64 b,
 Go.Value.int Go.IntKind.i64 c] ∧
 (List.all
 [Go.Value.int Go.IntKind.i64 s,
 Go.Value.bool z,
 Go.Value.int Go.IntKind.i64 o]
 fun (x : Go.Value) =>
 Go.Value.oneCell' x) =
 Bool.true ∧
 Go.Proofs.YteaebpmgbpnbeaaGreatDoor.Same
 [Go.Value.agg
 (Array.mk
 [Go.Value.int Go.IntKind.i64 s,
 Go.Value.bool z,
 Go.Value.int Go.IntKind.i64 o]),
 Go.Value.int Go.IntKind.i64 f]
 [Go.Value.agg
 (Array.mk
 [Go.Value.int Go.IntKind.i64 s,
 Go.Value.bool z,
 Go.Value.int Go.IntKind.i64 o]),
 Go.Value.int Go.IntKind.i64 f] ∧
 (List.all
 [Go.Value.int Go.IntKind.i64 s2,
 Go.Value.bool z2,
 Go.Value.int Go.IntKind.i64 o2]
 fun (x : Go.Value) =>
 Go.Value.oneCell' x) =
 Bool.true ∧
 ∀ (x_18 : Go.Value),
 Go.Proofs.YteaebpmgbpnbeaaGreatDoor.isV
 (Go.Proofs.YteaebpmgbpnbeaaGreatDoor.timeOk
 s z o)
 (Go.Value.agg
 (Array.mk
 [Go.Value.iface (144 : Nat)
 (Go.Value.agg
 (Array.mk
 [Go.Value.int
 Go.IntKind.i64 s,
 Go.Value.bool z,
 Go.Value.int
 Go.IntKind.i64
 o]))]))
 (Go.Value.agg (Array.mk [x_18])) →
 (List.all [x_18] fun (x : Go.Value) =>
 Go.Value.oneCell' x) =
 Bool.true ∧
 ∀ (x_19 : Go.Value),
 Go.Proofs.YteaebpmgbpnbeaaGreatDoor.isV
 (Go.Proofs.YteaebpmgbpnbeaaGreatDoor.timeOk
 s2 z2 o2)
 (Go.Value.agg
 (Array.mk
 [Go.Value.iface
 (144 : Nat)
 (Go.Value.agg
 (Array.mk
 [Go.Value.int
 Go.IntKind.i64
 s2,
 Go.Value.bool
 z2,
 Go.Value.int
 Go.IntKind.i64
 o2]))]))
 (Go.Value.agg
 (Array.mk [x_19])) →
 (List.all [x_19]
 fun (x : Go.Value) =>
 Go.Value.oneCell' x) =
 Bool.true ∧
 Go.Proofs.YteaebpmgbpnbeaaGreatDoor.Same
 [Go.Value.int
 Go.IntKind.i64 f]
 [Go.Value.int
 Go.IntKind.i64 f] ∧
 ∀ (x_20 : Go.Value),
 Go.Proofs.YteaebpmgbpnbeaaGreatDoor.isV
 (Go.Proofs.YteaebpmgbpnbeaaGreatDoor.dateOk
 a b c)
 (Go.Value.agg
 (Array.mk
 [Go.Value.iface
 (143 : Nat)
 (Go.Value.agg
 (Array.mk
 [Go.Value.int
 Go.IntKind.i64
 a,
 Go.Value.int
 Go.IntKind.i64
 b,
 Go.Value.int
 Go.IntKind.i64
 c]))]))
 (Go.Value.agg
 (Array.mk [x_20])) →
 x_14 = x_20 ∧
 Go.Proofs.YteaebpmgbpnbeaaGreatDoor.Plainly
 base
 (Go.Value.agg
 (Array.mk
 [x_14])) ∧
 x_15 = x_18 ∧
 Go.Proofs.YteaebpmgbpnbeaaGreatDoor.Plainly
 base
 (Go.Value.agg
 (Array.mk
 [x_15])) ∧
 x_17 = x_19 ∧
 Go.Proofs.YteaebpmgbpnbeaaGreatDoor.Plainly
 base
 (Go.Value.agg
 (Array.mk
 [x_17])) ∧
 ∃ (x_21 :
 Go.Value),
 Go.Proofs.YteaebpmgbpnbeaaGreatDoor.Tot
 base
 (64 :
 Nat)
 [Go.Value.agg
 (Array.mk
 [x]),
 Go.Value.agg
 (Array.mk
 [x_1]),
 Go.Value.agg
 (Array.mk
 [x_2])]
 (Go.Value.agg
 (Array.mk
 [x_21])) ∧
 ((Go.Value.agg
 (Array.mk
 [x_21]) =
 Go.Value.agg
 (Array.mk
 [Go.Value.nilIface]) ∧
 ∃ (x
 :
 Go.Value),
 Go.Proofs.YteaebpmgbpnbeaaGreatDoor.Tot
 base
 (63 :
 Nat)
 [Go.Value.agg
 (Array.mk
 [x_2]),
 Go.Value.agg
 (Array.mk
 [x_1])]
 (Go.Value.agg
 (Array.mk
 [x])) ∧
 (Go.Value.agg
 (Array.mk
 [x]) =
 Go.Value.agg
 (Array.mk
 [Go.Value.nilIface]) ∧
 K
 (Go.Value.bool
 Bool.true)
 (11 :
 Nat) ∨
 (∃
 (x_22
 :
 Go.TypeId),
 ∃
 (x_23
 :
 Go.Value),
 Go.Value.agg
 (Array.mk
 [x]) =
 Go.Value.agg
 (Array.mk
 [Go.Value.iface
 x_22
 x_23]) ∧
 Go.Pe.pureV
 (6 :
 Nat)
 (Go.Value.agg
 (Array.mk
 [x])) =
 Bool.true) ∧
 K
 (Go.Value.bool
 Bool.false)
 (11 :
 Nat))) ∨
 (∃ (x
 :
 Go.TypeId),
 ∃
 (x_22
 :
 Go.Value),
 Go.Value.agg
 (Array.mk
 [x_21]) =
 Go.Value.agg
 (Array.mk
 [Go.Value.iface
 x
 x_22]) ∧
 Go.Pe.pureV
 (6 :
 Nat)
 (Go.Value.agg
 (Array.mk
 [x_21])) =
 Bool.true) ∧
 K
 (Go.Value.bool
 Bool.false)
 (11 :
 Nat))) := by kernel_rfl
theorem makes_ttf (K : Value → Nat → Prop) (base : World) (r1 r2 r3 r4 r5 a b c f s o s2 o2 : Int) (r6 z z2 : Bool) :
    funcK (envB (rulesMakes base a b c f (.tuple #[timeC s z o, .bool true]) (timeC s z o) (.tuple #[timeC s2 z2 o2, .bool true]) false )) 30 7 [.agg ⟨[.int .i64 r1, .int .i64 r2, .int .i64 r3, .int .i64 r4, .int .i64 r5, .bool r6]⟩, .int .i64 a, .int .i64 b, .int .i64 c, .int .i64 f] tabs Tryz.prog.globals.size (fun u _ _ mw => K u mw) =
  (Go.Proofs.YteaebpmgbpnbeaaGreatDoor.Same [] [] ∧
 ∀ (y m d s_1 : Int) (z_1 : Bool) (o_1 : Int),
 Go.Proofs.YteaebpmgbpnbeaaGreatDoor.dateOk y m d →
 Go.Proofs.YteaebpmgbpnbeaaGreatDoor.timeOk s_1 z_1 o_1 →
 (List.all [Go.Value.int Go.IntKind.i64 y, Go.Value.int Go.IntKind.i64 m, Go.Value.int Go.IntKind.i64 d, Go.Value.int Go.IntKind.i64 s_1, Go.Value.bool z_1, Go.Value.int Go.IntKind.i64 o_1]
 fun (x : Go.Value) => Go.Value.oneCell' x) =
 Bool.true ∧
 ∀ (x : Go.Value),
 Go.Proofs.YteaebpmgbpnbeaaGreatDoor.isV (Go.Proofs.YteaebpmgbpnbeaaGreatDoor.dateOk y m d ∧ Go.Proofs.YteaebpmgbpnbeaaGreatDoor.timeOk s_1 z_1 o_1)
 (Go.Value.agg
 (Array.mk
 [Go.Value.iface (142 : Nat)
 (Go.Value.agg
 (Array.mk
 [Go.Value.int Go.IntKind.i64 y, Go.Value.int Go.IntKind.i64 m, Go.Value.int Go.IntKind.i64 d, Go.Value.int Go.IntKind.i64 s_1, Go.Value.bool z_1,
 Go.Value.int Go.IntKind.i64 o_1]))]))
 (Go.Value.agg (Array.mk [x])) →
 ∀ (x_1 : Go.Value),
 Go.Proofs.YteaebpmgbpnbeaaGreatDoor.isV (Go.Proofs.YteaebpmgbpnbeaaGreatDoor.dateOk y m d)
 (Go.Value.agg (Array.mk [Go.Value.iface (143 : Nat) (Go.Value.agg (Array.mk [Go.Value.int Go.IntKind.i64 y, Go.Value.int Go.IntKind.i64 m, Go.Value.int Go.IntKind.i64 d]))]))
 (Go.Value.agg (Array.mk [x_1])) →
 ∀ (x_2 : Go.Value),
 Go.Proofs.YteaebpmgbpnbeaaGreatDoor.isV (Go.Proofs.YteaebpmgbpnbeaaGreatDoor.timeOk s_1 z_1 o_1)
 (Go.Value.agg (Array.mk [Go.Value.iface (144 : Nat) (Go.Value.agg (Array.mk [Go.Value.int Go.IntKind.i64 s_1, Go.Value.bool z_1, Go.Value.int Go.IntKind.i64 o_1]))]))
 (Go.Value.agg (Array.mk [x_2])) →
 (List.all [x] fun (x : Go.Value) => Go.Value.oneCell' x) = Bool.true ∧
 (List.all [x_1] fun (x : Go.Value) => Go.Value.oneCell' x) = Bool.true ∧
 (List.all [x_2] fun (x : Go.Value) => Go.Value.oneCell' x) = Bool.true ∧
 (List.all
 [Go.Value.int Go.IntKind.i64 y, Go.Value.int Go.IntKind.i64 m, Go.Value.int Go.IntKind.i64 d, Go.Value.int Go.IntKind.i64 (Int.ofNat (0 : Nat)),
 Go.Value.bool Bool.true, Go.Value.int Go.IntKind.i64 (Int.ofNat (0 : Nat))]
 fun (x : Go.Value) => Go.Value.oneCell' x) =
 Bool.true ∧
 ∃ (x_3 : Go.Value),
 Go.Proofs.YteaebpmgbpnbeaaGreatDoor.Tot base (49 : Nat) [Go.Value.agg (Array.mk [x])] (Go.Value.agg (Array.mk [x_3])) ∧
 x_3 = x_1 ∧
 Go.Proofs.YteaebpmgbpnbeaaGreatDoor.Plainly base (Go.Value.agg (Array.mk [x_3])) ∧
 ∃ (x_4 : Go.Value),
 Go.Proofs.YteaebpmgbpnbeaaGreatDoor.Tot base (49 : Nat) [Go.Value.agg (Array.mk [x_1])] (Go.Value.agg (Array.mk [x_4])) ∧
 x_4 = x_1 ∧
 Go.Proofs.YteaebpmgbpnbeaaGreatDoor.Plainly base (Go.Value.agg (Array.mk [x_4])) ∧
 ∃ (x_5 : Go.Value),
 Go.Proofs.YteaebpmgbpnbeaaGreatDoor.Tot base (50 : Nat) [Go.Value.agg (Array.mk [x])] (Go.Value.agg (Array.mk [x_5])) ∧
 x_5 = x_2 ∧
 Go.Proofs.YteaebpmgbpnbeaaGreatDoor.Plainly base (Go.Value.agg (Array.mk [x_5])) ∧
 ∃ (x_6 : Go.Value),
 Go.Proofs.YteaebpmgbpnbeaaGreatDoor.Tot base (50 : Nat) [Go.Value.agg (Array.mk [x_2])] (Go.Value.agg (Array.mk [x_6])) ∧
 x_6 = x_2 ∧
 Go.Proofs.YteaebpmgbpnbeaaGreatDoor.Plainly base (Go.Value.agg (Array.mk [x_6])) ∧
 ∃ (x_7 : Go.Value),
 Go.Proofs.YteaebpmgbpnbeaaGreatDoor.Tot base (50 : Nat) [Go.Value.agg (Array.mk [x_1])] (Go.Value.agg (Array.mk [x_7])) ∧
 ∀ (x_8 : Go.Value),
 Go.Proofs.YteaebpmgbpnbeaaGreatDoor.isV (Go.Proofs.YteaebpmgbpnbeaaGreatDoor.timeOk (0 : Int) Bool.true (0 : Int))
 (Go.Value.agg
 (Array.mk
 [Go.Value.iface (144 : Nat)
 (Go.Value.agg
 (Array.mk
 [Go.Value.int Go.IntKind.i64 (Int.ofNat (0 : Nat)), Go.Value.bool Bool.true,
 Go.Value.int Go.IntKind.i64 (Int.ofNat (0 : Nat))]))]))
 (Go.Value.agg (Array.mk [x_8])) →
 x_7 = x_8 ∧
 Go.Proofs.YteaebpmgbpnbeaaGreatDoor.Plainly base (Go.Value.agg (Array.mk [x_7])) ∧
 ∃ (x_9 : Go.Value),
 Go.Proofs.YteaebpmgbpnbeaaGreatDoor.Tot base (48 : Nat) [Go.Value.agg (Array.mk [x])] (Go.Value.agg (Array.mk [x_9])) ∧
 x_9 = x ∧
 Go.Proofs.YteaebpmgbpnbeaaGreatDoor.Plainly base (Go.Value.agg (Array.mk [x_9])) ∧
 ∃ (x_10 : Go.Value),
 Go.Proofs.YteaebpmgbpnbeaaGreatDoor.Tot base (48 : Nat) [Go.Value.agg (Array.mk [x_1])]
 (Go.Value.agg (Array.mk [x_10])) ∧
 ∀ (x_11 : Go.Value),
 Go.Proofs.YteaebpmgbpnbeaaGreatDoor.isV
 (Go.Proofs.YteaebpmgbpnbeaaGreatDoor.dateOk y m d ∧
 Go.Proofs.YteaebpmgbpnbeaaGreatDoor.timeOk (0 : Int) Bool.true (0 : Int))
 (Go.Value.agg
 (Array.mk
 [Go.Value.iface (142 : Nat)
 (Go.Value.agg
 (Array.mk
 [Go.Value.int Go.IntKind.i64 y, Go.Value.int Go.IntKind.i64 m, Go.Value.int Go.IntKind.i64 d,
 Go.Value.int Go.IntKind.i64 (Int.ofNat (0 : Nat)), Go.Value.bool Bool.true,
 Go.Value.int Go.IntKind.i64 (Int.ofNat (0 : Nat))]))]))
 (Go.Value.agg (Array.mk [x_11])) →
 x_10 = x_11 ∧
 Go.Proofs.YteaebpmgbpnbeaaGreatDoor.Plainly base (Go.Value.agg (Array.mk [x_10])) ∧
 ∃ (x_12 : Go.Value),
 Go.Proofs.YteaebpmgbpnbeaaGreatDoor.Tot base (63 : Nat)
 [Go.Value.agg (Array.mk [x]), Go.Value.agg (Array.mk [x_2])] (Go.Value.agg (Array.mk [x_12])) ∧
 x_12 = x ∧
 Go.Proofs.YteaebpmgbpnbeaaGreatDoor.Plainly base (Go.Value.agg (Array.mk [x_12])) ∧
 ∃ (x_13 : Go.Value),
 Go.Proofs.YteaebpmgbpnbeaaGreatDoor.Tot base (63 : Nat)
 [Go.Value.agg (Array.mk [x_1]), Go.Value.agg (Array.mk [x_2])]
 (Go.Value.agg (Array.mk [x_13])) ∧
 x_13 = x ∧
 Go.Proofs.YteaebpmgbpnbeaaGreatDoor.Plainly base (Go.Value.agg (Array.mk [x_13])) ∧
 Go.Proofs.YteaebpmgbpnbeaaGreatDoor.rng a ∧
 Go.Proofs.YteaebpmgbpnbeaaGreatDoor.rng b ∧
 Go.Proofs.YteaebpmgbpnbeaaGreatDoor.rng c ∧
 ∃ (x_14 : Go.Value),
 Go.Proofs.YteaebpmgbpnbeaaGreatDoor.Tot base (64 : Nat)
 [Go.Value.agg
 (Array.mk
 [Go.Value.iface (130 : Nat)
 (Go.Value.agg
 (Array.mk
 [Go.Value.bool (Decidable.decide (a < (0 : Int))),
 Go.Value.int Go.IntKind.u64 (Int.ofNat (0 : Nat)),
 Go.Value.int Go.IntKind.u64 (Int.ofNat (Int.natAbs a)),
 Go.Value.int Go.IntKind.i64 (Int.ofNat (0 : Nat))]))]),
 Go.Value.agg
 (Array.mk
 [Go.Value.iface (130 : Nat)
 (Go.Value.agg
 (Array.mk
 [Go.Value.bool (Decidable.decide (b < (0 : Int))),
 Go.Value.int Go.IntKind.u64 (Int.ofNat (0 : Nat)),
 Go.Value.int Go.IntKind.u64 (Int.ofNat (Int.natAbs b)),
 Go.Value.int Go.IntKind.i64 (Int.ofNat (0 : Nat))]))]),
 Go.Value.agg
 (Array.mk
 [Go.Value.iface (130 : Nat)
 (Go.Value.agg
 (Array.mk
 [Go.Value.bool (Decidable.decide (c < (0 : Int))),
 Go.Value.int Go.IntKind.u64 (Int.ofNat (0 : Nat)),
 Go.Value.int Go.IntKind.u64 (Int.ofNat (Int.natAbs c)),
 Go.Value.int Go.IntKind.i64 (Int.ofNat (0 : Nat))]))])]
 (Go.Value.agg (Array.mk [x_14])) ∧
 (List.all [x_14] fun (x : Go.Value) => Go.Value.oneCell' x) = Bool.true ∧
 Go.Proofs.YteaebpmgbpnbeaaGreatDoor.rng a ∧
 Go.Proofs.YteaebpmgbpnbeaaGreatDoor.rng b ∧
 Go.Proofs.YteaebpmgbpnbeaaGreatDoor.rng c ∧
 ∃ (x_15 : Go.Value),
 Go.Proofs.YteaebpmgbpnbeaaGreatDoor.Tot base (66 : Nat)
 [Go.Value.agg
 (Array.mk
 [Go.Value.iface (130 : Nat)
 (Go.Value.agg
 (Array.mk
 [Go.Value.bool (Decidable.decide (a < (0 : Int))),
 Go.Value.int Go.IntKind.u64 (Int.ofNat (0 : Nat)),
 Go.Value.int Go.IntKind.u64
 (Int.ofNat (Int.natAbs a)),
 Go.Value.int Go.IntKind.i64
 (Int.ofNat (0 : Nat))]))]),
 Go.Value.agg
 (Array.mk
 [Go.Value.iface (130 : Nat)
 (Go.Value.agg
 (Array.mk
 [Go.Value.bool (Decidable.decide (b < (0 : Int))),
 Go.Value.int Go.IntKind.u64 (Int.ofNat (0 : Nat)),
 Go.Value.int Go.IntKind.u64
 (Int.ofNat (Int.natAbs b)),
 Go.Value.int Go.IntKind.i64
 (Int.ofNat (0 : Nat))]))]),
 Go.Value.agg
 (Array.mk
 [Go.Value.iface (130 : Nat)
 (Go.Value.agg
 (Array.mk
 [Go.Value.bool (Decidable.decide (c < (0 : Int))),
 Go.Value.int Go.IntKind.u64 (Int.ofNat (0 : Nat)),
 Go.Value.int Go.IntKind.u64
 (Int.ofNat (Int.natAbs c)),
 Go.Value.int Go.IntKind.i64
 (Int.ofNat (0 : Nat))]))]),
 Go.Value.agg (Array.mk [Go.Value.nilIface])]
 (Go.Value.agg (Array.mk [x_15])) ∧
 (List.all [x_15] fun (x : Go.Value) => Go.Value.oneCell' x) =
 Bool.true ∧
 Go.Proofs.YteaebpmgbpnbeaaGreatDoor.rng a ∧
 Go.Proofs.YteaebpmgbpnbeaaGreatDoor.rng b ∧
 Go.Proofs.YteaebpmgbpnbeaaGreatDoor.rng c ∧
 ∀ (x_16 : Go.Value),
 Go.Proofs.YteaebpmgbpnbeaaGreatDoor.isV
 (Go.Proofs.YteaebpmgbpnbeaaGreatDoor.spanOk f)
 (Go.Value.agg
 (Array.mk
 [Go.Value.iface (131 : Nat)
 (Go.Value.int Go.IntKind.i64 f)]))
 (Go.Value.agg (Array.mk [x_16])) →
 ∃ (x_17 : Go.Value),
 Go.Proofs.YteaebpmgbpnbeaaGreatDoor.Tot base
 (66 : Nat)
 [Go.Value.agg
 (Array.mk
 [Go.Value.iface (130 : Nat)
 (Go.Value.agg
 (Array.mk
 [Go.Value.bool
 (Decidable.decide
 (a < (0 : Int))),
 Go.Value.int Go.IntKind.u64
 (Int.ofNat (0 : Nat)),
 Go.Value.int Go.IntKind.u64
 (Int.ofNat (Int.natAbs a)),
 Go.Value.int Go.IntKind.i64
 (Int.ofNat (0 : Nat))]))]),
 Go.Value.agg
 (Array.mk
 [Go.Value.iface (130 : Nat)
 (Go.Value.agg
 (Array.mk
 [Go.Value.bool
 (Decidable.decide
 (b < (0 : Int))),
 Go.Value.int Go.IntKind.u64
 (Int.ofNat (0 : Nat)),
 Go.Value.int Go.IntKind.u64
 (Int.ofNat (Int.natAbs b)),
 Go.Value.int Go.IntKind.i64
 (Int.ofNat (0 : Nat))]))]),
 Go.Value.agg
 (Array.mk
 [Go.Value.iface (130 : Nat)
 (Go.Value.agg
 (Array.mk
 [Go.Value.bool
 (Decidable.decide
 (c < (0 : Int))),
 Go.Value.int Go.IntKind.u64
 (Int.ofNat (0 : Nat)),
 Go.Value.int Go.IntKind.u64
 (Int.ofNat (Int.natAbs c)),
 Go.Value.int Go.IntKind.i64
 (Int.ofNat (0 : Nat))]))]),
 Go.Value.agg (Array.mk [x_16])]
 (Go.Value.agg (Array.mk [x_17])) ∧
 (List.all [x_17] fun (x : Go.Value) =>
 Go.Value.oneCell' x) =
 Bool.true ∧
 Go.Proofs.YteaebpmgbpnbeaaGreatDoor.Same
 [Go.Value.int Go.IntKind.i64 a,
 Go.Value.int Go.IntKind.i64 b,
 Go.Value.int Go.IntKind.i64 c]
 [Go.Value.int Go.IntKind.i64 a,
 Go.Value.int Go.IntKind.i64 b,
 Go.Value.int Go.IntKind.i64 c] ∧
 (List.all
 [Go.Value.int Go.IntKind.i64 s,
 Go.Value.bool z,
 Go.Value.int Go.IntKind.i64 o]
 fun (x : Go.Value) =>
 Go.Value.oneCell' x) =
 Bool.true ∧
 Go.Proofs.YteaebpmgbpnbeaaGreatDoor.Same
 [Go.Value.agg
 (Array.mk
 [Go.Value.int Go.IntKind.i64 s,
 Go.Value.bool z,
 Go.Value.int Go.IntKind.i64 o]),
 Go.Value.int Go.IntKind.i64 f]
 [Go.Value.agg
 (Array.mk
 [Go.Value.int Go.IntKind.i64 s,
 Go.Value.bool z,
 Go.Value.int Go.IntKind.i64 o]),
 Go.Value.int Go.IntKind.i64 f] ∧
 (List.all
 [Go.Value.int Go.IntKind.i64 s2,
 Go.Value.bool z2,
 Go.Value.int Go.IntKind.i64 o2]
 fun (x : Go.Value) =>
 Go.Value.oneCell' x) =
 Bool.true ∧
 ∀ (x_18 : Go.Value),
 Go.Proofs.YteaebpmgbpnbeaaGreatDoor.isV
 (Go.Proofs.YteaebpmgbpnbeaaGreatDoor.timeOk
 s z o)
 (Go.Value.agg
 (Array.mk
 [Go.Value.iface (144 : Nat)
 (Go.Value.agg
 (Array.mk
 [Go.Value.int
 Go.IntKind.i64 s,
 Go.Value.bool z,
 Go.Value.int
 Go.IntKind.i64
 o]))]))
 (Go.Value.agg (Array.mk [x_18])) →
 (List.all [x_18] fun (x : Go.Value) =>
 Go.Value.oneCell' x) =
 Bool.true ∧
 ∀ (x_19 : Go.Value),
 Go.Proofs.YteaebpmgbpnbeaaGreatDoor.isV
 (Go.Proofs.YteaebpmgbpnbeaaGreatDoor.timeOk
 s2 z2 o2)
 (Go.Value.agg
 (Array.mk
 [Go.Value.iface
 (144 : Nat)
 (Go.Value.agg
 (Array.mk
 [Go.Value.int
 Go.IntKind.i64
 s2,
 Go.Value.bool
 z2,
 Go.Value.int
 Go.IntKind.i64
 o2]))]))
 (Go.Value.agg
 (Array.mk [x_19])) →
 (List.all [x_19]
 fun (x : Go.Value) =>
 Go.Value.oneCell' x) =
 Bool.true ∧
 Go.Proofs.YteaebpmgbpnbeaaGreatDoor.Same
 [Go.Value.int
 Go.IntKind.i64 f]
 [Go.Value.int
 Go.IntKind.i64 f] ∧
 (List.all [x_18]
 fun (x : Go.Value) =>
 Go.Value.oneCell' x) =
 Bool.true ∧
 ∀ (x_20 : Go.Value),
 Go.Proofs.YteaebpmgbpnbeaaGreatDoor.isV
 (Go.Proofs.YteaebpmgbpnbeaaGreatDoor.dateOk
 a b c)
 (Go.Value.agg
 (Array.mk
 [Go.Value.iface
 (143 : Nat)
 (Go.Value.agg
 (Array.mk
 [Go.Value.int
 Go.IntKind.i64
 a,
 Go.Value.int
 Go.IntKind.i64
 b,
 Go.Value.int
 Go.IntKind.i64
 c]))]))
 (Go.Value.agg
 (Array.mk
 [x_20])) →
 x_14 = x_20 ∧
 Go.Proofs.YteaebpmgbpnbeaaGreatDoor.Plainly
 base
 (Go.Value.agg
 (Array.mk
 [x_14])) ∧
 x_15 = x_18 ∧
 Go.Proofs.YteaebpmgbpnbeaaGreatDoor.Plainly
 base
 (Go.Value.agg
 (Array.mk
 [x_15])) ∧
 x_17 = x_18 ∧
 Go.Proofs.YteaebpmgbpnbeaaGreatDoor.Plainly
 base
 (Go.Value.agg
 (Array.mk
 [x_17])) ∧
 ∃ (x_21 :
 Go.Value),
 Go.Proofs.YteaebpmgbpnbeaaGreatDoor.Tot
 base
 (64 :
 Nat)
 [Go.Value.agg
 (Array.mk
 [x]),
 Go.Value.agg
 (Array.mk
 [x_1]),
 Go.Value.agg
 (Array.mk
 [x_2])]
 (Go.Value.agg
 (Array.mk
 [x_21])) ∧
 ((Go.Value.agg
 (Array.mk
 [x_21]) =
 Go.Value.agg
 (Array.mk
 [Go.Value.nilIface]) ∧
 ∃
 (x
 :
 Go.Value),
 Go.Proofs.YteaebpmgbpnbeaaGreatDoor.Tot
 base
 (63 :
 Nat)
 [Go.Value.agg
 (Array.mk
 [x_2]),
 Go.Value.agg
 (Array.mk
 [x_1])]
 (Go.Value.agg
 (Array.mk
 [x])) ∧
 (Go.Value.agg
 (Array.mk
 [x]) =
 Go.Value.agg
 (Array.mk
 [Go.Value.nilIface]) ∧
 K
 (Go.Value.bool
 Bool.true)
 (11 :
 Nat) ∨
 (∃
 (x_22
 :
 Go.TypeId),
 ∃
 (x_23
 :
 Go.Value),
 Go.Value.agg
 (Array.mk
 [x]) =
 Go.Value.agg
 (Array.mk
 [Go.Value.iface
 x_22
 x_23]) ∧
 Go.Pe.pureV
 (6 :
 Nat)
 (Go.Value.agg
 (Array.mk
 [x])) =
 Bool.true) ∧
 K
 (Go.Value.bool
 Bool.false)
 (11 :
 Nat))) ∨
 (∃
 (x
 :
 Go.TypeId),
 ∃
 (x_22
 :
 Go.Value),
 Go.Value.agg
 (Array.mk
 [x_21]) =
 Go.Value.agg
 (Array.mk
 [Go.Value.iface
 x
 x_22]) ∧
 Go.Pe.pureV
 (6 :
 Nat)
 (Go.Value.agg
 (Array.mk
 [x_21])) =
 Bool.true) ∧
 K
 (Go.Value.bool
 Bool.false)
 (11 :
 Nat))) := by kernel_rfl
theorem makes_tft (K : Value → Nat → Prop) (base : World) (r1 r2 r3 r4 r5 a b c f s o s2 o2 : Int) (r6 z z2 : Bool) :
    funcK (envB (rulesMakes base a b c f (.tuple #[timeC s z o, .bool true]) (timeC s z o) (.tuple #[timeC s2 z2 o2, .bool false]) true )) 30 7 [.agg ⟨[.int .i64 r1, .int .i64 r2, .int .i64 r3, .int .i64 r4, .int .i64 r5, .bool r6]⟩, .int .i64 a, .int .i64 b, .int .i64 c, .int .i64 f] tabs Tryz.prog.globals.size (fun u _ _ mw => K u mw) =
  (Go.Proofs.YteaebpmgbpnbeaaGreatDoor.Same [] [] ∧
 ∀ (y m d s_1 : Int) (z_1 : Bool) (o_1 : Int),
 Go.Proofs.YteaebpmgbpnbeaaGreatDoor.dateOk y m d →
 Go.Proofs.YteaebpmgbpnbeaaGreatDoor.timeOk s_1 z_1 o_1 →
 (List.all [Go.Value.int Go.IntKind.i64 y, Go.Value.int Go.IntKind.i64 m, Go.Value.int Go.IntKind.i64 d, Go.Value.int Go.IntKind.i64 s_1, Go.Value.bool z_1, Go.Value.int Go.IntKind.i64 o_1]
 fun (x : Go.Value) => Go.Value.oneCell' x) =
 Bool.true ∧
 ∀ (x : Go.Value),
 Go.Proofs.YteaebpmgbpnbeaaGreatDoor.isV (Go.Proofs.YteaebpmgbpnbeaaGreatDoor.dateOk y m d ∧ Go.Proofs.YteaebpmgbpnbeaaGreatDoor.timeOk s_1 z_1 o_1)
 (Go.Value.agg
 (Array.mk
 [Go.Value.iface (142 : Nat)
 (Go.Value.agg
 (Array.mk
 [Go.Value.int Go.IntKind.i64 y, Go.Value.int Go.IntKind.i64 m, Go.Value.int Go.IntKind.i64 d, Go.Value.int Go.IntKind.i64 s_1, Go.Value.bool z_1,
 Go.Value.int Go.IntKind.i64 o_1]))]))
 (Go.Value.agg (Array.mk [x])) →
 ∀ (x_1 : Go.Value),
 Go.Proofs.YteaebpmgbpnbeaaGreatDoor.isV (Go.Proofs.YteaebpmgbpnbeaaGreatDoor.dateOk y m d)
 (Go.Value.agg (Array.mk [Go.Value.iface (143 : Nat) (Go.Value.agg (Array.mk [Go.Value.int Go.IntKind.i64 y, Go.Value.int Go.IntKind.i64 m, Go.Value.int Go.IntKind.i64 d]))]))
 (Go.Value.agg (Array.mk [x_1])) →
 ∀ (x_2 : Go.Value),
 Go.Proofs.YteaebpmgbpnbeaaGreatDoor.isV (Go.Proofs.YteaebpmgbpnbeaaGreatDoor.timeOk s_1 z_1 o_1)
 (Go.Value.agg (Array.mk [Go.Value.iface (144 : Nat) (Go.Value.agg (Array.mk [Go.Value.int Go.IntKind.i64 s_1, Go.Value.bool z_1, Go.Value.int Go.IntKind.i64 o_1]))]))
 (Go.Value.agg (Array.mk [x_2])) →
 (List.all [x] fun (x : Go.Value) => Go.Value.oneCell' x) = Bool.true ∧
 (List.all [x_1] fun (x : Go.Value) => Go.Value.oneCell' x) = Bool.true ∧
 (List.all [x_2] fun (x : Go.Value) => Go.Value.oneCell' x) = Bool.true ∧
 (List.all
 [Go.Value.int Go.IntKind.i64 y, Go.Value.int Go.IntKind.i64 m, Go.Value.int Go.IntKind.i64 d, Go.Value.int Go.IntKind.i64 (Int.ofNat (0 : Nat)),
 Go.Value.bool Bool.true, Go.Value.int Go.IntKind.i64 (Int.ofNat (0 : Nat))]
 fun (x : Go.Value) => Go.Value.oneCell' x) =
 Bool.true ∧
 ∃ (x_3 : Go.Value),
 Go.Proofs.YteaebpmgbpnbeaaGreatDoor.Tot base (49 : Nat) [Go.Value.agg (Array.mk [x])] (Go.Value.agg (Array.mk [x_3])) ∧
 x_3 = x_1 ∧
 Go.Proofs.YteaebpmgbpnbeaaGreatDoor.Plainly base (Go.Value.agg (Array.mk [x_3])) ∧
 ∃ (x_4 : Go.Value),
 Go.Proofs.YteaebpmgbpnbeaaGreatDoor.Tot base (49 : Nat) [Go.Value.agg (Array.mk [x_1])] (Go.Value.agg (Array.mk [x_4])) ∧
 x_4 = x_1 ∧
 Go.Proofs.YteaebpmgbpnbeaaGreatDoor.Plainly base (Go.Value.agg (Array.mk [x_4])) ∧
 ∃ (x_5 : Go.Value),
 Go.Proofs.YteaebpmgbpnbeaaGreatDoor.Tot base (50 : Nat) [Go.Value.agg (Array.mk [x])] (Go.Value.agg (Array.mk [x_5])) ∧
 x_5 = x_2 ∧
 Go.Proofs.YteaebpmgbpnbeaaGreatDoor.Plainly base (Go.Value.agg (Array.mk [x_5])) ∧
 ∃ (x_6 : Go.Value),
 Go.Proofs.YteaebpmgbpnbeaaGreatDoor.Tot base (50 : Nat) [Go.Value.agg (Array.mk [x_2])] (Go.Value.agg (Array.mk [x_6])) ∧
 x_6 = x_2 ∧
 Go.Proofs.YteaebpmgbpnbeaaGreatDoor.Plainly base (Go.Value.agg (Array.mk [x_6])) ∧
 ∃ (x_7 : Go.Value),
 Go.Proofs.YteaebpmgbpnbeaaGreatDoor.Tot base (50 : Nat) [Go.Value.agg (Array.mk [x_1])] (Go.Value.agg (Array.mk [x_7])) ∧
 ∀ (x_8 : Go.Value),
 Go.Proofs.YteaebpmgbpnbeaaGreatDoor.isV (Go.Proofs.YteaebpmgbpnbeaaGreatDoor.timeOk (0 : Int) Bool.true (0 : Int))
 (Go.Value.agg
 (Array.mk
 [Go.Value.iface (144 : Nat)
 (Go.Value.agg
 (Array.mk
 [Go.Value.int Go.IntKind.i64 (Int.ofNat (0 : Nat)), Go.Value.bool Bool.true,
 Go.Value.int Go.IntKind.i64 (Int.ofNat (0 : Nat))]))]))
 (Go.Value.agg (Array.mk [x_8])) →
 x_7 = x_8 ∧
 Go.Proofs.YteaebpmgbpnbeaaGreatDoor.Plainly base (Go.Value.agg (Array.mk [x_7])) ∧
 ∃ (x_9 : Go.Value),
 Go.Proofs.YteaebpmgbpnbeaaGreatDoor.Tot base (48 : Nat) [Go.Value.agg (Array.mk [x])] (Go.Value.agg (Array.mk [x_9])) ∧
 x_9 = x ∧
 Go.Proofs.YteaebpmgbpnbeaaGreatDoor.Plainly base (Go.Value.agg (Array.mk [x_9])) ∧
 ∃ (x_10 : Go.Value),
 Go.Proofs.YteaebpmgbpnbeaaGreatDoor.Tot base (48 : Nat) [Go.Value.agg (Array.mk [x_1])]
 (Go.Value.agg (Array.mk [x_10])) ∧
 ∀ (x_11 : Go.Value),
 Go.Proofs.YteaebpmgbpnbeaaGreatDoor.isV
 (Go.Proofs.YteaebpmgbpnbeaaGreatDoor.dateOk y m d ∧
 Go.Proofs.YteaebpmgbpnbeaaGreatDoor.timeOk (0 : Int) Bool.true (0 : Int))
 (Go.Value.agg
 (Array.mk
 [Go.Value.iface (142 : Nat)
 (Go.Value.agg
 (Array.mk
 [Go.Value.int Go.IntKind.i64 y, Go.Value.int Go.IntKind.i64 m, Go.Value.int Go.IntKind.i64 d,
 Go.Value.int Go.IntKind.i64 (Int.ofNat (0 : Nat)), Go.Value.bool Bool.true,
 Go.Value.int Go.IntKind.i64 (Int.ofNat (0 : Nat))]))]))
 (Go.Value.agg (Array.mk [x_11])) →
 x_10 = x_11 ∧
 Go.Proofs.YteaebpmgbpnbeaaGreatDoor.Plainly base (Go.Value.agg (Array.mk [x_10])) ∧
 ∃ (x_12 : Go.Value),
 Go.Proofs.YteaebpmgbpnbeaaGreatDoor.Tot base (63 : Nat)
 [Go.Value.agg (Array.mk [x]), Go.Value.agg (Array.mk [x_2])] (Go.Value.agg (Array.mk [x_12])) ∧
 x_12 = x ∧
 Go.Proofs.YteaebpmgbpnbeaaGreatDoor.Plainly base (Go.Value.agg (Array.mk [x_12])) ∧
 ∃ (x_13 : Go.Value),
 Go.Proofs.YteaebpmgbpnbeaaGreatDoor.Tot base (63 : Nat)
 [Go.Value.agg (Array.mk [x_1]), Go.Value.agg (Array.mk [x_2])]
 (Go.Value.agg (Array.mk [x_13])) ∧
 x_13 = x ∧
 Go.Proofs.YteaebpmgbpnbeaaGreatDoor.Plainly base (Go.Value.agg (Array.mk [x_13])) ∧
 Go.Proofs.YteaebpmgbpnbeaaGreatDoor.rng a ∧
 Go.Proofs.YteaebpmgbpnbeaaGreatDoor.rng b ∧
 Go.Proofs.YteaebpmgbpnbeaaGreatDoor.rng c ∧
 ∃ (x_14 : Go.Value),
 Go.Proofs.YteaebpmgbpnbeaaGreatDoor.Tot base (64 : Nat)
 [Go.Value.agg
 (Array.mk
 [Go.Value.iface (130 : Nat)
 (Go.Value.agg
 (Array.mk
 [Go.Value.bool (Decidable.decide (a < (0 : Int))),
 Go.Value.int Go.IntKind.u64 (Int.ofNat (0 : Nat)),
 Go.Value.int Go.IntKind.u64 (Int.ofNat (Int.natAbs a)),
 Go.Value.int Go.IntKind.i64 (Int.ofNat (0 : Nat))]))]),
 Go.Value.agg
 (Array.mk
 [Go.Value.iface (130 : Nat)
 (Go.Value.agg
 (Array.mk
 [Go.Value.bool (Decidable.decide (b < (0 : Int))),
 Go.Value.int Go.IntKind.u64 (Int.ofNat (0 : Nat)),
 Go.Value.int Go.IntKind.u64 (Int.ofNat (Int.natAbs b)),
 Go.Value.int Go.IntKind.i64 (Int.ofNat (0 : Nat))]))]),
 Go.Value.agg
 (Array.mk
 [Go.Value.iface (130 : Nat)
 (Go.Value.agg
 (Array.mk
 [Go.Value.bool (Decidable.decide (c < (0 : Int))),
 Go.Value.int Go.IntKind.u64 (Int.ofNat (0 : Nat)),
 Go.Value.int Go.IntKind.u64 (Int.ofNat (Int.natAbs c)),
 Go.Value.int Go.IntKind.i64 (Int.ofNat (0 : Nat))]))])]
 (Go.Value.agg (Array.mk [x_14])) ∧
 (List.all [x_14] fun (x : Go.Value) => Go.Value.oneCell' x) = Bool.true ∧
 Go.Proofs.YteaebpmgbpnbeaaGreatDoor.rng a ∧
 Go.Proofs.YteaebpmgbpnbeaaGreatDoor.rng b ∧
 Go.Proofs.YteaebpmgbpnbeaaGreatDoor.rng c ∧
 ∃ (x_15 : Go.Value),
 Go.Proofs.YteaebpmgbpnbeaaGreatDoor.Tot base (66 : Nat)
 [Go.Value.agg
 (Array.mk
 [Go.Value.iface (130 : Nat)
 (Go.Value.agg
 (Array.mk
 [Go.Value.bool (Decidable.decide (a < (0 : Int))),
 Go.Value.int Go.IntKind.u64 (Int.ofNat (0 : Nat)),
 Go.Value.int Go.IntKind.u64
 (Int.ofNat (Int.natAbs a)),
 Go.Value.int Go.IntKind.i64
 (Int.ofNat (0 : Nat))]))]),
 Go.Value.agg
 (Array.mk
 [Go.Value.iface (130 : Nat)
 (Go.Value.agg
 (Array.mk
 [Go.Value.bool (Decidable.decide (b < (0 : Int))),
 Go.Value.int Go.IntKind.u64 (Int.ofNat (0 : Nat)),
 Go.Value.int Go.IntKind.u64
 (Int.ofNat (Int.natAbs b)),
 Go.Value.int Go.IntKind.i64
 (Int.ofNat (0 : Nat))]))]),
 Go.Value.agg
 (Array.mk
 [Go.Value.iface (130 : Nat)
 (Go.Value.agg
 (Array.mk
 [Go.Value.bool (Decidable.decide (c < (0 : Int))),
 Go.Value.int Go.IntKind.u64 (Int.ofNat (0 : Nat)),
 Go.Value.int Go.IntKind.u64
 (Int.ofNat (Int.natAbs c)),
 Go.Value.int Go.IntKind.i64
 (Int.ofNat (0 : Nat))]))]),
 Go.Value.agg (Array.mk [Go.Value.nilIface])]
 (Go.Value.agg (Array.mk [x_15])) ∧
 (List.all [x_15] fun (x : Go.Value) => Go.Value.oneCell' x) =
 Bool.true ∧
 Go.Proofs.YteaebpmgbpnbeaaGreatDoor.rng a ∧
 Go.Proofs.YteaebpmgbpnbeaaGreatDoor.rng b ∧
 Go.Proofs.YteaebpmgbpnbeaaGreatDoor.rng c ∧
 ∀ (x_16 : Go.Value),
 Go.Proofs.YteaebpmgbpnbeaaGreatDoor.isV
 (Go.Proofs.YteaebpmgbpnbeaaGreatDoor.spanOk f)
 (Go.Value.agg
 (Array.mk
 [Go.Value.iface (131 : Nat)
 (Go.Value.int Go.IntKind.i64 f)]))
 (Go.Value.agg (Array.mk [x_16])) →
 ∃ (x_17 : Go.Value),
 Go.Proofs.YteaebpmgbpnbeaaGreatDoor.Tot base
 (66 : Nat)
 [Go.Value.agg
 (Array.mk
 [Go.Value.iface (130 : Nat)
 (Go.Value.agg
 (Array.mk
 [Go.Value.bool
 (Decidable.decide
 (a < (0 : Int))),
 Go.Value.int Go.IntKind.u64
 (Int.ofNat (0 : Nat)),
 Go.Value.int Go.IntKind.u64
 (Int.ofNat (Int.natAbs a)),
 Go.Value.int Go.IntKind.i64
 (Int.ofNat (0 : Nat))]))]),
 Go.Value.agg
 (Array.mk
 [Go.Value.iface (130 : Nat)
 (Go.Value.agg
 (Array.mk
 [Go.Value.bool
 (Decidable.decide
 (b < (0 : Int))),
 Go.Value.int Go.IntKind.u64
 (Int.ofNat (0 : Nat)),
 Go.Value.int Go.IntKind.u64
 (Int.ofNat (Int.natAbs b)),
 Go.Value.int Go.IntKind.i64
 (Int.ofNat (0 : Nat))]))]),
 Go.Value.agg
 (Array.mk
 [Go.Value.iface (130 : Nat)
 (Go.Value.agg
 (Array.mk
 [Go.Value.bool
 (Decidable.decide
 (c < (0 : Int))),
 Go.Value.int Go.IntKind.u64
 (Int.ofNat (0 : Nat)),
 Go.Value.int Go.IntKind.u64
 (Int.ofNat (Int.natAbs c)),
 Go.Value.int Go.IntKind.i64
 (Int.ofNat (0 : Nat))]))]),
 Go.Value.agg (Array.mk [x_16])]
 (Go.Value.agg (Array.mk [x_17])) ∧
 (List.all [x_17] fun (x : Go.Value) =>
 Go.Value.oneCell' x) =
 Bool.true ∧
 Go.Proofs.YteaebpmgbpnbeaaGreatDoor.Same
 [Go.Value.int Go.IntKind.i64 a,
 Go.Value.int Go.IntKind.i64 b,
 Go.Value.int Go.IntKind.i64 c]
 [Go.Value.int Go.IntKind.i64 a,
 Go.Value.int Go.IntKind.i64 b,
 Go.Value.int Go.IntKind.i64 c] ∧
 (List.all
 [Go.Value.int Go.IntKind.i64 s,
 Go.Value.bool z,
 Go.Value.int Go.IntKind.i64 o]
 fun (x : Go.Value) =>
 Go.Value.oneCell' x) =
 Bool.true ∧
 Go.Proofs.YteaebpmgbpnbeaaGreatDoor.Same
 [Go.Value.agg
 (Array.mk
 [Go.Value.int Go.IntKind.i64 s,
 Go.Value.bool z,
 Go.Value.int Go.IntKind.i64 o]),
 Go.Value.int Go.IntKind.i64 f]
 [Go.Value.agg
 (Array.mk
 [Go.Value.int Go.IntKind.i64 s,
 Go.Value.bool z,
 Go.Value.int Go.IntKind.i64 o]),
 Go.Value.int Go.IntKind.i64 f] ∧
 (List.all
 [Go.Value.int Go.IntKind.i64 s2,
 Go.Value.bool z2,
 Go.Value.int Go.IntKind.i64 o2]
 fun (x : Go.Value) =>
 Go.Value.oneCell' x) =
 Bool.true ∧
 ∀ (x_18 : Go.Value),
 Go.Proofs.YteaebpmgbpnbeaaGreatDoor.isV
 (Go.Proofs.YteaebpmgbpnbeaaGreatDoor.timeOk
 s z o)
 (Go.Value.agg
 (Array.mk
 [Go.Value.iface (144 : Nat)
 (Go.Value.agg
 (Array.mk
 [Go.Value.int
 Go.IntKind.i64 s,
 Go.Value.bool z,
 Go.Value.int
 Go.IntKind.i64
 o]))]))
 (Go.Value.agg (Array.mk [x_18])) →
 (List.all [x_18] fun (x : Go.Value) =>
 Go.Value.oneCell' x) =
 Bool.true ∧
 ∀ (x_19 : Go.Value),
 Go.Proofs.YteaebpmgbpnbeaaGreatDoor.isV
 (Go.Proofs.YteaebpmgbpnbeaaGreatDoor.timeOk
 s2 z2 o2)
 (Go.Value.agg
 (Array.mk
 [Go.Value.iface
 (144 : Nat)
 (Go.Value.agg
 (Array.mk
 [Go.Value.int
 Go.IntKind.i64
 s2,
 Go.Value.bool
 z2,
 Go.Value.int
 Go.IntKind.i64
 o2]))]))
 (Go.Value.agg
 (Array.mk [x_19])) →
 (List.all [x_19]
 fun (x : Go.Value) =>
 Go.Value.oneCell' x) =
 Bool.true ∧
 Go.Proofs.YteaebpmgbpnbeaaGreatDoor.Same
 [Go.Value.int
 Go.IntKind.i64 f]
 [Go.Value.int
 Go.IntKind.i64 f] ∧
 (List.all
 [Go.Value.nilIface]
 fun (x : Go.Value) =>
 Go.Value.oneCell' x) =
 Bool.true ∧
 Go.Proofs.YteaebpmgbpnbeaaGreatDoor.Same
 [Go.Value.int
 Go.IntKind.i64 f]
 [Go.Value.int
 Go.IntKind.i64
 f] ∧
 ∀ (x_20 : Go.Value),
 Go.Proofs.YteaebpmgbpnbeaaGreatDoor.isV
 (Go.Proofs.YteaebpmgbpnbeaaGreatDoor.dateOk
 a b c)
 (Go.Value.agg
 (Array.mk
 [Go.Value.iface
 (143 :
 Nat)
 (Go.Value.agg
 (Array.mk
 [Go.Value.int
 Go.IntKind.i64
 a,
 Go.Value.int
 Go.IntKind.i64
 b,
 Go.Value.int
 Go.IntKind.i64
 c]))]))
 (Go.Value.agg
 (Array.mk
 [x_20])) →
 x_14 = x_20 ∧
 Go.Proofs.YteaebpmgbpnbeaaGreatDoor.Plainly
 base
 (Go.Value.agg
 (Array.mk
 [x_14])) ∧
 x_15 = x_18 ∧
 Go.Proofs.YteaebpmgbpnbeaaGreatDoor.Plainly
 base
 (Go.Value.agg
 (Array.mk
 [x_15])) ∧
 x_17 =
 Go.Value.nilIface ∧
 Go.Proofs.YteaebpmgbpnbeaaGreatDoor.Plainly
 base
 (Go.Value.agg
 (Array.mk
 [x_17])) ∧
 ∃ (x_21
 :
 Go.Value),
 Go.Proofs.YteaebpmgbpnbeaaGreatDoor.Tot
 base
 (64 :
 Nat)
 [Go.Value.agg
 (Array.mk
 [x]),
 Go.Value.agg
 (Array.mk
 [x_1]),
 Go.Value.agg
 (Array.mk
 [x_2])]
 (Go.Value.agg
 (Array.mk
 [x_21])) ∧
 ((Go.Value.agg
 (Array.mk
 [x_21]) =
 Go.Value.agg
 (Array.mk
 [Go.Value.nilIface]) ∧
 ∃
 (x
 :
 Go.Value),
 Go.Proofs.YteaebpmgbpnbeaaGreatDoor.Tot
 base
 (63 :
 Nat)
 [Go.Value.agg
 (Array.mk
 [x_2]),
 Go.Value.agg
 (Array.mk
 [x_1])]
 (Go.Value.agg
 (Array.mk
 [x])) ∧
 (Go.Value.agg
 (Array.mk
 [x]) =
 Go.Value.agg
 (Array.mk
 [Go.Value.nilIface]) ∧
 K
 (Go.Value.bool
 Bool.true)
 (11 :
 Nat) ∨
 (∃
 (x_22
 :
 Go.TypeId),
 ∃
 (x_23
 :
 Go.Value),
 Go.Value.agg
 (Array.mk
 [x]) =
 Go.Value.agg
 (Array.mk
 [Go.Value.iface
 x_22
 x_23]) ∧
 Go.Pe.pureV
 (6 :
 Nat)
 (Go.Value.agg
 (Array.mk
 [x])) =
 Bool.true) ∧
 K
 (Go.Value.bool
 Bool.false)
 (11 :
 Nat))) ∨
 (∃
 (x
 :
 Go.TypeId),
 ∃
 (x_22
 :
 Go.Value),
 Go.Value.agg
 (Array.mk
 [x_21]) =
 Go.Value.agg
 (Array.mk
 [Go.Value.iface
 x
 x_22]) ∧
 Go.Pe.pureV
 (6 :
 Nat)
 (Go.Value.agg
 (Array.mk
 [x_21])) =
 Bool.true) ∧
 K
 (Go.Value.bool
 Bool.false)
 (11 :
 Nat))) := by kernel_rfl
theorem makes_tff (K : Value → Nat → Prop) (base : World) (r1 r2 r3 r4 r5 a b c f s o s2 o2 : Int) (r6 z z2 : Bool) :
    funcK (envB (rulesMakes base a b c f (.tuple #[timeC s z o, .bool true]) (timeC s z o) (.tuple #[timeC s2 z2 o2, .bool false]) false )) 30 7 [.agg ⟨[.int .i64 r1, .int .i64 r2, .int .i64 r3, .int .i64 r4, .int .i64 r5, .bool r6]⟩, .int .i64 a, .int .i64 b, .int .i64 c, .int .i64 f] tabs Tryz.prog.globals.size (fun u _ _ mw => K u mw) =
  (Go.Proofs.YteaebpmgbpnbeaaGreatDoor.Same [] [] ∧
 ∀ (y m d s_1 : Int) (z_1 : Bool) (o_1 : Int),
 Go.Proofs.YteaebpmgbpnbeaaGreatDoor.dateOk y m d →
 Go.Proofs.YteaebpmgbpnbeaaGreatDoor.timeOk s_1 z_1 o_1 →
 (List.all [Go.Value.int Go.IntKind.i64 y, Go.Value.int Go.IntKind.i64 m, Go.Value.int Go.IntKind.i64 d, Go.Value.int Go.IntKind.i64 s_1, Go.Value.bool z_1, Go.Value.int Go.IntKind.i64 o_1]
 fun (x : Go.Value) => Go.Value.oneCell' x) =
 Bool.true ∧
 ∀ (x : Go.Value),
 Go.Proofs.YteaebpmgbpnbeaaGreatDoor.isV (Go.Proofs.YteaebpmgbpnbeaaGreatDoor.dateOk y m d ∧ Go.Proofs.YteaebpmgbpnbeaaGreatDoor.timeOk s_1 z_1 o_1)
 (Go.Value.agg
 (Array.mk
 [Go.Value.iface (142 : Nat)
 (Go.Value.agg
 (Array.mk
 [Go.Value.int Go.IntKind.i64 y, Go.Value.int Go.IntKind.i64 m, Go.Value.int Go.IntKind.i64 d, Go.Value.int Go.IntKind.i64 s_1, Go.Value.bool z_1,
 Go.Value.int Go.IntKind.i64 o_1]))]))
 (Go.Value.agg (Array.mk [x])) →
 ∀ (x_1 : Go.Value),
 Go.Proofs.YteaebpmgbpnbeaaGreatDoor.isV (Go.Proofs.YteaebpmgbpnbeaaGreatDoor.dateOk y m d)
 (Go.Value.agg (Array.mk [Go.Value.iface (143 : Nat) (Go.Value.agg (Array.mk [Go.Value.int Go.IntKind.i64 y, Go.Value.int Go.IntKind.i64 m, Go.Value.int Go.IntKind.i64 d]))]))
 (Go.Value.agg (Array.mk [x_1])) →
 ∀ (x_2 : Go.Value),
 Go.Proofs.YteaebpmgbpnbeaaGreatDoor.isV (Go.Proofs.YteaebpmgbpnbeaaGreatDoor.timeOk s_1 z_1 o_1)
 (Go.Value.agg (Array.mk [Go.Value.iface (144 : Nat) (Go.Value.agg (Array.mk [Go.Value.int Go.IntKind.i64 s_1, Go.Value.bool z_1, Go.Value.int Go.IntKind.i64 o_1]))]))
 (Go.Value.agg (Array.mk [x_2])) →
 (List.all [x] fun (x : Go.Value) => Go.Value.oneCell' x) = Bool.true ∧
 (List.all [x_1] fun (x : Go.Value) => Go.Value.oneCell' x) = Bool.true ∧
 (List.all [x_2] fun (x : Go.Value) => Go.Value.oneCell' x) = Bool.true ∧
 (List.all
 [Go.Value.int Go.IntKind.i64 y, Go.Value.int Go.IntKind.i64 m, Go.Value.int Go.IntKind.i64 d, Go.Value.int Go.IntKind.i64 (Int.ofNat (0 : Nat)),
 Go.Value.bool Bool.true, Go.Value.int Go.IntKind.i64 (Int.ofNat (0 : Nat))]
 fun (x : Go.Value) => Go.Value.oneCell' x) =
 Bool.true ∧
 ∃ (x_3 : Go.Value),
 Go.Proofs.YteaebpmgbpnbeaaGreatDoor.Tot base (49 : Nat) [Go.Value.agg (Array.mk [x])] (Go.Value.agg (Array.mk [x_3])) ∧
 x_3 = x_1 ∧
 Go.Proofs.YteaebpmgbpnbeaaGreatDoor.Plainly base (Go.Value.agg (Array.mk [x_3])) ∧
 ∃ (x_4 : Go.Value),
 Go.Proofs.YteaebpmgbpnbeaaGreatDoor.Tot base (49 : Nat) [Go.Value.agg (Array.mk [x_1])] (Go.Value.agg (Array.mk [x_4])) ∧
 x_4 = x_1 ∧
 Go.Proofs.YteaebpmgbpnbeaaGreatDoor.Plainly base (Go.Value.agg (Array.mk [x_4])) ∧
 ∃ (x_5 : Go.Value),
 Go.Proofs.YteaebpmgbpnbeaaGreatDoor.Tot base (50 : Nat) [Go.Value.agg (Array.mk [x])] (Go.Value.agg (Array.mk [x_5])) ∧
 x_5 = x_2 ∧
 Go.Proofs.YteaebpmgbpnbeaaGreatDoor.Plainly base (Go.Value.agg (Array.mk [x_5])) ∧
 ∃ (x_6 : Go.Value),
 Go.Proofs.YteaebpmgbpnbeaaGreatDoor.Tot base (50 : Nat) [Go.Value.agg (Array.mk [x_2])] (Go.Value.agg (Array.mk [x_6])) ∧
 x_6 = x_2 ∧
 Go.Proofs.YteaebpmgbpnbeaaGreatDoor.Plainly base (Go.Value.agg (Array.mk [x_6])) ∧
 ∃ (x_7 : Go.Value),
 Go.Proofs.YteaebpmgbpnbeaaGreatDoor.Tot base (50 : Nat) [Go.Value.agg (Array.mk [x_1])] (Go.Value.agg (Array.mk [x_7])) ∧
 ∀ (x_8 : Go.Value),
 Go.Proofs.YteaebpmgbpnbeaaGreatDoor.isV (Go.Proofs.YteaebpmgbpnbeaaGreatDoor.timeOk (0 : Int) Bool.true (0 : Int))
 (Go.Value.agg
 (Array.mk
 [Go.Value.iface (144 : Nat)
 (Go.Value.agg
 (Array.mk
 [Go.Value.int Go.IntKind.i64 (Int.ofNat (0 : Nat)), Go.Value.bool Bool.true,
 Go.Value.int Go.IntKind.i64 (Int.ofNat (0 : Nat))]))]))
 (Go.Value.agg (Array.mk [x_8])) →
 x_7 = x_8 ∧
 Go.Proofs.YteaebpmgbpnbeaaGreatDoor.Plainly base (Go.Value.agg (Array.mk [x_7])) ∧
 ∃ (x_9 : Go.Value),
 Go.Proofs.YteaebpmgbpnbeaaGreatDoor.Tot base (48 : Nat) [Go.Value.agg (Array.mk [x])] (Go.Value.agg (Array.mk [x_9])) ∧
 x_9 = x ∧
 Go.Proofs.YteaebpmgbpnbeaaGreatDoor.Plainly base (Go.Value.agg (Array.mk [x_9])) ∧
 ∃ (x_10 : Go.Value),
 Go.Proofs.YteaebpmgbpnbeaaGreatDoor.Tot base (48 : Nat) [Go.Value.agg (Array.mk [x_1])]
 (Go.Value.agg (Array.mk [x_10])) ∧
 ∀ (x_11 : Go.Value),
 Go.Proofs.YteaebpmgbpnbeaaGreatDoor.isV
 (Go.Proofs.YteaebpmgbpnbeaaGreatDoor.dateOk y m d ∧
 Go.Proofs.YteaebpmgbpnbeaaGreatDoor.timeOk (0 : Int) Bool.true (0 : Int))
 (Go.Value.agg
 (Array.mk
 [Go.Value.iface (142 : Nat)
 (Go.Value.agg
 (Array.mk
 [Go.Value.int Go.IntKind.i64 y, Go.Value.int Go.IntKind.i64 m, Go.Value.int Go.IntKind.i64 d,
 Go.Value.int Go.IntKind.i64 (Int.ofNat (0 : Nat)), Go.Value.bool Bool.true,
 Go.Value.int Go.IntKind.i64 (Int.ofNat (0 : Nat))]))]))
 (Go.Value.agg (Array.mk [x_11])) →
 x_10 = x_11 ∧
 Go.Proofs.YteaebpmgbpnbeaaGreatDoor.Plainly base (Go.Value.agg (Array.mk [x_10])) ∧
 ∃ (x_12 : Go.Value),
 Go.Proofs.YteaebpmgbpnbeaaGreatDoor.Tot base (63 : Nat)
 [Go.Value.agg (Array.mk [x]), Go.Value.agg (Array.mk [x_2])] (Go.Value.agg (Array.mk [x_12])) ∧
 x_12 = x ∧
 Go.Proofs.YteaebpmgbpnbeaaGreatDoor.Plainly base (Go.Value.agg (Array.mk [x_12])) ∧
 ∃ (x_13 : Go.Value),
 Go.Proofs.YteaebpmgbpnbeaaGreatDoor.Tot base (63 : Nat)
 [Go.Value.agg (Array.mk [x_1]), Go.Value.agg (Array.mk [x_2])]
 (Go.Value.agg (Array.mk [x_13])) ∧
 x_13 = x ∧
 Go.Proofs.YteaebpmgbpnbeaaGreatDoor.Plainly base (Go.Value.agg (Array.mk [x_13])) ∧
 Go.Proofs.YteaebpmgbpnbeaaGreatDoor.rng a ∧
 Go.Proofs.YteaebpmgbpnbeaaGreatDoor.rng b ∧
 Go.Proofs.YteaebpmgbpnbeaaGreatDoor.rng c ∧
 ∃ (x_14 : Go.Value),
 Go.Proofs.YteaebpmgbpnbeaaGreatDoor.Tot base (64 : Nat)
 [Go.Value.agg
 (Array.mk
 [Go.Value.iface (130 : Nat)
 (Go.Value.agg
 (Array.mk
 [Go.Value.bool (Decidable.decide (a < (0 : Int))),
 Go.Value.int Go.IntKind.u64 (Int.ofNat (0 : Nat)),
 Go.Value.int Go.IntKind.u64 (Int.ofNat (Int.natAbs a)),
 Go.Value.int Go.IntKind.i64 (Int.ofNat (0 : Nat))]))]),
 Go.Value.agg
 (Array.mk
 [Go.Value.iface (130 : Nat)
 (Go.Value.agg
 (Array.mk
 [Go.Value.bool (Decidable.decide (b < (0 : Int))),
 Go.Value.int Go.IntKind.u64 (Int.ofNat (0 : Nat)),
 Go.Value.int Go.IntKind.u64 (Int.ofNat (Int.natAbs b)),
 Go.Value.int Go.IntKind.i64 (Int.ofNat (0 : Nat))]))]),
 Go.Value.agg
 (Array.mk
 [Go.Value.iface (130 : Nat)
 (Go.Value.agg
 (Array.mk
 [Go.Value.bool (Decidable.decide (c < (0 : Int))),
 Go.Value.int Go.IntKind.u64 (Int.ofNat (0 : Nat)),
 Go.Value.int Go.IntKind.u64 (Int.ofNat (Int.natAbs c)),
 Go.Value.int Go.IntKind.i64 (Int.ofNat (0 : Nat))]))])]
 (Go.Value.agg (Array.mk [x_14])) ∧
 (List.all [x_14] fun (x : Go.Value) => Go.Value.oneCell' x) = Bool.true ∧
 Go.Proofs.YteaebpmgbpnbeaaGreatDoor.rng a ∧
 Go.Proofs.YteaebpmgbpnbeaaGreatDoor.rng b ∧
 Go.Proofs.YteaebpmgbpnbeaaGreatDoor.rng c ∧
 ∃ (x_15 : Go.Value),
 Go.Proofs.YteaebpmgbpnbeaaGreatDoor.Tot base (66 : Nat)
 [Go.Value.agg
 (Array.mk
 [Go.Value.iface (130 : Nat)
 (Go.Value.agg
 (Array.mk
 [Go.Value.bool (Decidable.decide (a < (0 : Int))),
 Go.Value.int Go.IntKind.u64 (Int.ofNat (0 : Nat)),
 Go.Value.int Go.IntKind.u64
 (Int.ofNat (Int.natAbs a)),
 Go.Value.int Go.IntKind.i64
 (Int.ofNat (0 : Nat))]))]),
 Go.Value.agg
 (Array.mk
 [Go.Value.iface (130 : Nat)
 (Go.Value.agg
 (Array.mk
 [Go.Value.bool (Decidable.decide (b < (0 : Int))),
 Go.Value.int Go.IntKind.u64 (Int.ofNat (0 : Nat)),
 Go.Value.int Go.IntKind.u64
 (Int.ofNat (Int.natAbs b)),
 Go.Value.int Go.IntKind.i64
 (Int.ofNat (0 : Nat))]))]),
 Go.Value.agg
 (Array.mk
 [Go.Value.iface (130 : Nat)
 (Go.Value.agg
 (Array.mk
 [Go.Value.bool (Decidable.decide (c < (0 : Int))),
 Go.Value.int Go.IntKind.u64 (Int.ofNat (0 : Nat)),
 Go.Value.int Go.IntKind.u64
 (Int.ofNat (Int.natAbs c)),
 Go.Value.int Go.IntKind.i64
 (Int.ofNat (0 : Nat))]))]),
 Go.Value.agg (Array.mk [Go.Value.nilIface])]
 (Go.Value.agg (Array.mk [x_15])) ∧
 (List.all [x_15] fun (x : Go.Value) => Go.Value.oneCell' x) =
 Bool.true ∧
 Go.Proofs.YteaebpmgbpnbeaaGreatDoor.rng a ∧
 Go.Proofs.YteaebpmgbpnbeaaGreatDoor.rng b ∧
 Go.Proofs.YteaebpmgbpnbeaaGreatDoor.rng c ∧
 ∀ (x_16 : Go.Value),
 Go.Proofs.YteaebpmgbpnbeaaGreatDoor.isV
 (Go.Proofs.YteaebpmgbpnbeaaGreatDoor.spanOk f)
 (Go.Value.agg
 (Array.mk
 [Go.Value.iface (131 : Nat)
 (Go.Value.int Go.IntKind.i64 f)]))
 (Go.Value.agg (Array.mk [x_16])) →
 ∃ (x_17 : Go.Value),
 Go.Proofs.YteaebpmgbpnbeaaGreatDoor.Tot base
 (66 : Nat)
 [Go.Value.agg
 (Array.mk
 [Go.Value.iface (130 : Nat)
 (Go.Value.agg
 (Array.mk
 [Go.Value.bool
 (Decidable.decide
 (a < (0 : Int))),
 Go.Value.int Go.IntKind.u64
 (Int.ofNat (0 : Nat)),
 Go.Value.int Go.IntKind.u64
 (Int.ofNat (Int.natAbs a)),
 Go.Value.int Go.IntKind.i64
 (Int.ofNat (0 : Nat))]))]),
 Go.Value.agg
 (Array.mk
 [Go.Value.iface (130 : Nat)
 (Go.Value.agg
 (Array.mk
 [Go.Value.bool
 (Decidable.decide
 (b < (0 : Int))),
 Go.Value.int Go.IntKind.u64
 (Int.ofNat (0 : Nat)),
 Go.Value.int Go.IntKind.u64
 (Int.ofNat (Int.natAbs b)),
 Go.Value.int Go.IntKind.i64
 (Int.ofNat (0 : Nat))]))]),
 Go.Value.agg
 (Array.mk
 [Go.Value.iface (130 : Nat)
 (Go.Value.agg
 (Array.mk
 [Go.Value.bool
 (Decidable.decide
 (c < (0 : Int))),
 Go.Value.int Go.IntKind.u64
 (Int.ofNat (0 : Nat)),
 Go.Value.int Go.IntKind.u64
 (Int.ofNat (Int.natAbs c)),
 Go.Value.int Go.IntKind.i64
 (Int.ofNat (0 : Nat))]))]),
 Go.Value.agg (Array.mk [x_16])]
 (Go.Value.agg (Array.mk [x_17])) ∧
 (List.all [x_17] fun (x : Go.Value) =>
 Go.Value.oneCell' x) =
 Bool.true ∧
 Go.Proofs.YteaebpmgbpnbeaaGreatDoor.Same
 [Go.Value.int Go.IntKind.i64 a,
 Go.Value.int Go.IntKind.i64 b,
 Go.Value.int Go.IntKind.i64 c]
 [Go.Value.int Go.IntKind.i64 a,
 Go.Value.int Go.IntKind.i64 b,
 Go.Value.int Go.IntKind.i64 c] ∧
 (List.all
 [Go.Value.int Go.IntKind.i64 s,
 Go.Value.bool z,
 Go.Value.int Go.IntKind.i64 o]
 fun (x : Go.Value) =>
 Go.Value.oneCell' x) =
 Bool.true ∧
 Go.Proofs.YteaebpmgbpnbeaaGreatDoor.Same
 [Go.Value.agg
 (Array.mk
 [Go.Value.int Go.IntKind.i64 s,
 Go.Value.bool z,
 Go.Value.int Go.IntKind.i64 o]),
 Go.Value.int Go.IntKind.i64 f]
 [Go.Value.agg
 (Array.mk
 [Go.Value.int Go.IntKind.i64 s,
 Go.Value.bool z,
 Go.Value.int Go.IntKind.i64 o]),
 Go.Value.int Go.IntKind.i64 f] ∧
 (List.all
 [Go.Value.int Go.IntKind.i64 s2,
 Go.Value.bool z2,
 Go.Value.int Go.IntKind.i64 o2]
 fun (x : Go.Value) =>
 Go.Value.oneCell' x) =
 Bool.true ∧
 ∀ (x_18 : Go.Value),
 Go.Proofs.YteaebpmgbpnbeaaGreatDoor.isV
 (Go.Proofs.YteaebpmgbpnbeaaGreatDoor.timeOk
 s z o)
 (Go.Value.agg
 (Array.mk
 [Go.Value.iface (144 : Nat)
 (Go.Value.agg
 (Array.mk
 [Go.Value.int
 Go.IntKind.i64 s,
 Go.Value.bool z,
 Go.Value.int
 Go.IntKind.i64
 o]))]))
 (Go.Value.agg (Array.mk [x_18])) →
 (List.all [x_18] fun (x : Go.Value) =>
 Go.Value.oneCell' x) =
 Bool.true ∧
 ∀ (x_19 : Go.Value),
 Go.Proofs.YteaebpmgbpnbeaaGreatDoor.isV
 (Go.Proofs.YteaebpmgbpnbeaaGreatDoor.timeOk
 s2 z2 o2)
 (Go.Value.agg
 (Array.mk
 [Go.Value.iface
 (144 : Nat)
 (Go.Value.agg
 (Array.mk
 [Go.Value.int
 Go.IntKind.i64
 s2,
 Go.Value.bool
 z2,
 Go.Value.int
 Go.IntKind.i64
 o2]))]))
 (Go.Value.agg
 (Array.mk [x_19])) →
 (List.all [x_19]
 fun (x : Go.Value) =>
 Go.Value.oneCell' x) =
 Bool.true ∧
 Go.Proofs.YteaebpmgbpnbeaaGreatDoor.Same
 [Go.Value.int
 Go.IntKind.i64 f]
 [Go.Value.int
 Go.IntKind.i64 f] ∧
 Go.Proofs.YteaebpmgbpnbeaaGreatDoor.Same
 [Go.Value.int
 Go.IntKind.i64 f]
 [Go.Value.int
 Go.IntKind.i64 f] ∧
 (List.all [x_18]
 fun
 (x : Go.Value) =>
 Go.Value.oneCell'
 x) =
 Bool.true ∧
 ∀ (x_20 : Go.Value),
 Go.Proofs.YteaebpmgbpnbeaaGreatDoor.isV
 (Go.Proofs.YteaebpmgbpnbeaaGreatDoor.dateOk
 a b c)
 (Go.Value.agg
 (Array.mk
 [Go.Value.iface
 (143 :
 Nat)
 (Go.Value.agg
 (Array.mk
 [Go.Value.int
 Go.IntKind.i64
 a,
 Go.Value.int
 Go.IntKind.i64
 b,
 Go.Value.int
 Go.IntKind.i64
 c]))]))
 (Go.Value.agg
 (Array.mk
 [x_20])) →
 x_14 = x_20 ∧
 Go.Proofs.YteaebpmgbpnbeaaGreatDoor.Plainly
 base
 (Go.Value.agg
 (Array.mk
 [x_14])) ∧
 x_15 = x_18 ∧
 Go.Proofs.YteaebpmgbpnbeaaGreatDoor.Plainly
 base
 (Go.Value.agg
 (Array.mk
 [x_15])) ∧
 x_17 =
 x_18 ∧
 Go.Proofs.YteaebpmgbpnbeaaGreatDoor.Plainly
 base
 (Go.Value.agg
 (Array.mk
 [x_17])) ∧
 ∃ (x_21
 :
 Go.Value),
 Go.Proofs.YteaebpmgbpnbeaaGreatDoor.Tot
 base
 (64 :
 Nat)
 [Go.Value.agg
 (Array.mk
 [x]),
 Go.Value.agg
 (Array.mk
 [x_1]),
 Go.Value.agg
 (Array.mk
 [x_2])]
 (Go.Value.agg
 (Array.mk
 [x_21])) ∧
 ((Go.Value.agg
 (Array.mk
 [x_21]) =
 Go.Value.agg
 (Array.mk
 [Go.Value.nilIface]) ∧
 ∃
 (x
 :
 Go.Value),
 Go.Proofs.YteaebpmgbpnbeaaGreatDoor.Tot
 base
 (63 :
 Nat)
 [Go.Value.agg
 (Array.mk
 [x_2]),
 Go.Value.agg
 (Array.mk
 [x_1])]
 (Go.Value.agg
 (Array.mk
 [x])) ∧
 (Go.Value.agg
 (Array.mk
 [x]) =
 Go.Value.agg
 (Array.mk
 [Go.Value.nilIface]) ∧
 K
 (Go.Value.bool
 Bool.true)
 (11 :
 Nat) ∨
 (∃
 (x_22
 :
 Go.TypeId),
 ∃
 (x_23
 :
 Go.Value),
 Go.Value.agg
 (Array.mk
 [x]) =
 Go.Value.agg
 (Array.mk
 [Go.Value.iface
 x_22
 x_23]) ∧
 Go.Pe.pureV
 (6 :
 Nat)
 (Go.Value.agg
 (Array.mk
 [x])) =
 Bool.true) ∧
 K
 (Go.Value.bool
 Bool.false)
 (11 :
 Nat))) ∨
 (∃
 (x
 :
 Go.TypeId),
 ∃
 (x_22
 :
 Go.Value),
 Go.Value.agg
 (Array.mk
 [x_21]) =
 Go.Value.agg
 (Array.mk
 [Go.Value.iface
 x
 x_22]) ∧
 Go.Pe.pureV
 (6 :
 Nat)
 (Go.Value.agg
 (Array.mk
 [x_21])) =
 Bool.true) ∧
 K
 (Go.Value.bool
 Bool.false)
 (11 :
 Nat))) := by kernel_rfl
theorem makes_ftt (K : Value → Nat → Prop) (base : World) (r1 r2 r3 r4 r5 a b c f s o s2 o2 : Int) (r6 z z2 : Bool) :
    funcK (envB (rulesMakes base a b c f (.tuple #[timeC s z o, .bool false]) (timeC s z o) (.tuple #[timeC s2 z2 o2, .bool true]) true )) 30 7 [.agg ⟨[.int .i64 r1, .int .i64 r2, .int .i64 r3, .int .i64 r4, .int .i64 r5, .bool r6]⟩, .int .i64 a, .int .i64 b, .int .i64 c, .int .i64 f] tabs Tryz.prog.globals.size (fun u _ _ mw => K u mw) =
  (Go.Proofs.YteaebpmgbpnbeaaGreatDoor.Same [] [] ∧
 ∀ (y m d s_1 : Int) (z_1 : Bool) (o_1 : Int),
 Go.Proofs.YteaebpmgbpnbeaaGreatDoor.dateOk y m d →
 Go.Proofs.YteaebpmgbpnbeaaGreatDoor.timeOk s_1 z_1 o_1 →
 (List.all [Go.Value.int Go.IntKind.i64 y, Go.Value.int Go.IntKind.i64 m, Go.Value.int Go.IntKind.i64 d, Go.Value.int Go.IntKind.i64 s_1, Go.Value.bool z_1, Go.Value.int Go.IntKind.i64 o_1]
 fun (x : Go.Value) => Go.Value.oneCell' x) =
 Bool.true ∧
 ∀ (x : Go.Value),
 Go.Proofs.YteaebpmgbpnbeaaGreatDoor.isV (Go.Proofs.YteaebpmgbpnbeaaGreatDoor.dateOk y m d ∧ Go.Proofs.YteaebpmgbpnbeaaGreatDoor.timeOk s_1 z_1 o_1)
 (Go.Value.agg
 (Array.mk
 [Go.Value.iface (142 : Nat)
 (Go.Value.agg
 (Array.mk
 [Go.Value.int Go.IntKind.i64 y, Go.Value.int Go.IntKind.i64 m, Go.Value.int Go.IntKind.i64 d, Go.Value.int Go.IntKind.i64 s_1, Go.Value.bool z_1,
 Go.Value.int Go.IntKind.i64 o_1]))]))
 (Go.Value.agg (Array.mk [x])) →
 ∀ (x_1 : Go.Value),
 Go.Proofs.YteaebpmgbpnbeaaGreatDoor.isV (Go.Proofs.YteaebpmgbpnbeaaGreatDoor.dateOk y m d)
 (Go.Value.agg (Array.mk [Go.Value.iface (143 : Nat) (Go.Value.agg (Array.mk [Go.Value.int Go.IntKind.i64 y, Go.Value.int Go.IntKind.i64 m, Go.Value.int Go.IntKind.i64 d]))]))
 (Go.Value.agg (Array.mk [x_1])) →
 ∀ (x_2 : Go.Value),
 Go.Proofs.YteaebpmgbpnbeaaGreatDoor.isV (Go.Proofs.YteaebpmgbpnbeaaGreatDoor.timeOk s_1 z_1 o_1)
 (Go.Value.agg (Array.mk [Go.Value.iface (144 : Nat) (Go.Value.agg (Array.mk [Go.Value.int Go.IntKind.i64 s_1, Go.Value.bool z_1, Go.Value.int Go.IntKind.i64 o_1]))]))
 (Go.Value.agg (Array.mk [x_2])) →
 (List.all [x] fun (x : Go.Value) => Go.Value.oneCell' x) = Bool.true ∧
 (List.all [x_1] fun (x : Go.Value) => Go.Value.oneCell' x) = Bool.true ∧
 (List.all [x_2] fun (x : Go.Value) => Go.Value.oneCell' x) = Bool.true ∧
 (List.all
 [Go.Value.int Go.IntKind.i64 y, Go.Value.int Go.IntKind.i64 m, Go.Value.int Go.IntKind.i64 d, Go.Value.int Go.IntKind.i64 (Int.ofNat (0 : Nat)),
 Go.Value.bool Bool.true, Go.Value.int Go.IntKind.i64 (Int.ofNat (0 : Nat))]
 fun (x : Go.Value) => Go.Value.oneCell' x) =
 Bool.true ∧
 ∃ (x_3 : Go.Value),
 Go.Proofs.YteaebpmgbpnbeaaGreatDoor.Tot base (49 : Nat) [Go.Value.agg (Array.mk [x])] (Go.Value.agg (Array.mk [x_3])) ∧
 x_3 = x_1 ∧
 Go.Proofs.YteaebpmgbpnbeaaGreatDoor.Plainly base (Go.Value.agg (Array.mk [x_3])) ∧
 ∃ (x_4 : Go.Value),
 Go.Proofs.YteaebpmgbpnbeaaGreatDoor.Tot base (49 : Nat) [Go.Value.agg (Array.mk [x_1])] (Go.Value.agg (Array.mk [x_4])) ∧
 x_4 = x_1 ∧
 Go.Proofs.YteaebpmgbpnbeaaGreatDoor.Plainly base (Go.Value.agg (Array.mk [x_4])) ∧
 ∃ (x_5 : Go.Value),
 Go.Proofs.YteaebpmgbpnbeaaGreatDoor.Tot base (50 : Nat) [Go.Value.agg (Array.mk [x])] (Go.Value.agg (Array.mk [x_5])) ∧
 x_5 = x_2 ∧
 Go.Proofs.YteaebpmgbpnbeaaGreatDoor.Plainly base (Go.Value.agg (Array.mk [x_5])) ∧
 ∃ (x_6 : Go.Value),
 Go.Proofs.YteaebpmgbpnbeaaGreatDoor.Tot base (50 : Nat) [Go.Value.agg (Array.mk [x_2])] (Go.Value.agg (Array.mk [x_6])) ∧
 x_6 = x_2 ∧
 Go.Proofs.YteaebpmgbpnbeaaGreatDoor.Plainly base (Go.Value.agg (Array.mk [x_6])) ∧
 ∃ (x_7 : Go.Value),
 Go.Proofs.YteaebpmgbpnbeaaGreatDoor.Tot base (50 : Nat) [Go.Value.agg (Array.mk [x_1])] (Go.Value.agg (Array.mk [x_7])) ∧
 ∀ (x_8 : Go.Value),
 Go.Proofs.YteaebpmgbpnbeaaGreatDoor.isV (Go.Proofs.YteaebpmgbpnbeaaGreatDoor.timeOk (0 : Int) Bool.true (0 : Int))
 (Go.Value.agg
 (Array.mk
 [Go.Value.iface (144 : Nat)
 (Go.Value.agg
 (Array.mk
 [Go.Value.int Go.IntKind.i64 (Int.ofNat (0 : Nat)), Go.Value.bool Bool.true,
 Go.Value.int Go.IntKind.i64 (Int.ofNat (0 : Nat))]))]))
 (Go.Value.agg (Array.mk [x_8])) →
 x_7 = x_8 ∧
 Go.Proofs.YteaebpmgbpnbeaaGreatDoor.Plainly base (Go.Value.agg (Array.mk [x_7])) ∧
 ∃ (x_9 : Go.Value),
 Go.Proofs.YteaebpmgbpnbeaaGreatDoor.Tot base (48 : Nat) [Go.Value.agg (Array.mk [x])] (Go.Value.agg (Array.mk [x_9])) ∧
 x_9 = x ∧
 Go.Proofs.YteaebpmgbpnbeaaGreatDoor.Plainly base (Go.Value.agg (Array.mk [x_9])) ∧
 ∃ (x_10 : Go.Value),
 Go.Proofs.YteaebpmgbpnbeaaGreatDoor.Tot base (48 : Nat) [Go.Value.agg (Array.mk [x_1])]
 (Go.Value.agg (Array.mk [x_10])) ∧
 ∀ (x_11 : Go.Value),
 Go.Proofs.YteaebpmgbpnbeaaGreatDoor.isV
 (Go.Proofs.YteaebpmgbpnbeaaGreatDoor.dateOk y m d ∧
 Go.Proofs.YteaebpmgbpnbeaaGreatDoor.timeOk (0 : Int) Bool.true (0 : Int))
 (Go.Value.agg
 (Array.mk
 [Go.Value.iface (142 : Nat)
 (Go.Value.agg
 (Array.mk
 [Go.Value.int Go.IntKind.i64 y, Go.Value.int Go.IntKind.i64 m, Go.Value.int Go.IntKind.i64 d,
 Go.Value.int Go.IntKind.i64 (Int.ofNat (0 : Nat)), Go.Value.bool Bool.true,
 Go.Value.int Go.IntKind.i64 (Int.ofNat (0 : Nat))]))]))
 (Go.Value.agg (Array.mk [x_11])) →
 x_10 = x_11 ∧
 Go.Proofs.YteaebpmgbpnbeaaGreatDoor.Plainly base (Go.Value.agg (Array.mk [x_10])) ∧
 ∃ (x_12 : Go.Value),
 Go.Proofs.YteaebpmgbpnbeaaGreatDoor.Tot base (63 : Nat)
 [Go.Value.agg (Array.mk [x]), Go.Value.agg (Array.mk [x_2])] (Go.Value.agg (Array.mk [x_12])) ∧
 x_12 = x ∧
 Go.Proofs.YteaebpmgbpnbeaaGreatDoor.Plainly base (Go.Value.agg (Array.mk [x_12])) ∧
 ∃ (x_13 : Go.Value),
 Go.Proofs.YteaebpmgbpnbeaaGreatDoor.Tot base (63 : Nat)
 [Go.Value.agg (Array.mk [x_1]), Go.Value.agg (Array.mk [x_2])]
 (Go.Value.agg (Array.mk [x_13])) ∧
 x_13 = x ∧
 Go.Proofs.YteaebpmgbpnbeaaGreatDoor.Plainly base (Go.Value.agg (Array.mk [x_13])) ∧
 Go.Proofs.YteaebpmgbpnbeaaGreatDoor.rng a ∧
 Go.Proofs.YteaebpmgbpnbeaaGreatDoor.rng b ∧
 Go.Proofs.YteaebpmgbpnbeaaGreatDoor.rng c ∧
 ∃ (x_14 : Go.Value),
 Go.Proofs.YteaebpmgbpnbeaaGreatDoor.Tot base (64 : Nat)
 [Go.Value.agg
 (Array.mk
 [Go.Value.iface (130 : Nat)
 (Go.Value.agg
 (Array.mk
 [Go.Value.bool (Decidable.decide (a < (0 : Int))),
 Go.Value.int Go.IntKind.u64 (Int.ofNat (0 : Nat)),
 Go.Value.int Go.IntKind.u64 (Int.ofNat (Int.natAbs a)),
 Go.Value.int Go.IntKind.i64 (Int.ofNat (0 : Nat))]))]),
 Go.Value.agg
 (Array.mk
 [Go.Value.iface (130 : Nat)
 (Go.Value.agg
 (Array.mk
 [Go.Value.bool (Decidable.decide (b < (0 : Int))),
 Go.Value.int Go.IntKind.u64 (Int.ofNat (0 : Nat)),
 Go.Value.int Go.IntKind.u64 (Int.ofNat (Int.natAbs b)),
 Go.Value.int Go.IntKind.i64 (Int.ofNat (0 : Nat))]))]),
 Go.Value.agg
 (Array.mk
 [Go.Value.iface (130 : Nat)
 (Go.Value.agg
 (Array.mk
 [Go.Value.bool (Decidable.decide (c < (0 : Int))),
 Go.Value.int Go.IntKind.u64 (Int.ofNat (0 : Nat)),
 Go.Value.int Go.IntKind.u64 (Int.ofNat (Int.natAbs c)),
 Go.Value.int Go.IntKind.i64 (Int.ofNat (0 : Nat))]))])]
 (Go.Value.agg (Array.mk [x_14])) ∧
 (List.all [x_14] fun (x : Go.Value) => Go.Value.oneCell' x) = Bool.true ∧
 Go.Proofs.YteaebpmgbpnbeaaGreatDoor.rng a ∧
 Go.Proofs.YteaebpmgbpnbeaaGreatDoor.rng b ∧
 Go.Proofs.YteaebpmgbpnbeaaGreatDoor.rng c ∧
 ∃ (x_15 : Go.Value),
 Go.Proofs.YteaebpmgbpnbeaaGreatDoor.Tot base (66 : Nat)
 [Go.Value.agg
 (Array.mk
 [Go.Value.iface (130 : Nat)
 (Go.Value.agg
 (Array.mk
 [Go.Value.bool (Decidable.decide (a < (0 : Int))),
 Go.Value.int Go.IntKind.u64 (Int.ofNat (0 : Nat)),
 Go.Value.int Go.IntKind.u64
 (Int.ofNat (Int.natAbs a)),
 Go.Value.int Go.IntKind.i64
 (Int.ofNat (0 : Nat))]))]),
 Go.Value.agg
 (Array.mk
 [Go.Value.iface (130 : Nat)
 (Go.Value.agg
 (Array.mk
 [Go.Value.bool (Decidable.decide (b < (0 : Int))),
 Go.Value.int Go.IntKind.u64 (Int.ofNat (0 : Nat)),
 Go.Value.int Go.IntKind.u64
 (Int.ofNat (Int.natAbs b)),
 Go.Value.int Go.IntKind.i64
 (Int.ofNat (0 : Nat))]))]),
 Go.Value.agg
 (Array.mk
 [Go.Value.iface (130 : Nat)
 (Go.Value.agg
 (Array.mk
 [Go.Value.bool (Decidable.decide (c < (0 : Int))),
 Go.Value.int Go.IntKind.u64 (Int.ofNat (0 : Nat)),
 Go.Value.int Go.IntKind.u64
 (Int.ofNat (Int.natAbs c)),
 Go.Value.int Go.IntKind.i64
 (Int.ofNat (0 : Nat))]))]),
 Go.Value.agg (Array.mk [Go.Value.nilIface])]
 (Go.Value.agg (Array.mk [x_15])) ∧
 (List.all [x_15] fun (x : Go.Value) => Go.Value.oneCell' x) =
 Bool.true ∧
 Go.Proofs.YteaebpmgbpnbeaaGreatDoor.rng a ∧
 Go.Proofs.YteaebpmgbpnbeaaGreatDoor.rng b ∧
 Go.Proofs.YteaebpmgbpnbeaaGreatDoor.rng c ∧
 ∀ (x_16 : Go.Value),
 Go.Proofs.YteaebpmgbpnbeaaGreatDoor.isV
 (Go.Proofs.YteaebpmgbpnbeaaGreatDoor.spanOk f)
 (Go.Value.agg
 (Array.mk
 [Go.Value.iface (131 : Nat)
 (Go.Value.int Go.IntKind.i64 f)]))
 (Go.Value.agg (Array.mk [x_16])) →
 ∃ (x_17 : Go.Value),
 Go.Proofs.YteaebpmgbpnbeaaGreatDoor.Tot base
 (66 : Nat)
 [Go.Value.agg
 (Array.mk
 [Go.Value.iface (130 : Nat)
 (Go.Value.agg
 (Array.mk
 [Go.Value.bool
 (Decidable.decide
 (a < (0 : Int))),
 Go.Value.int Go.IntKind.u64
 (Int.ofNat (0 : Nat)),
 Go.Value.int Go.IntKind.u64
 (Int.ofNat (Int.natAbs a)),
 Go.Value.int Go.IntKind.i64
 (Int.ofNat (0 : Nat))]))]),
 Go.Value.agg
 (Array.mk
 [Go.Value.iface (130 : Nat)
 (Go.Value.agg
 (Array.mk
 [Go.Value.bool
 (Decidable.decide
 (b < (0 : Int))),
 Go.Value.int Go.IntKind.u64
 (Int.ofNat (0 : Nat)),
 Go.Value.int Go.IntKind.u64
 (Int.ofNat (Int.natAbs b)),
 Go.Value.int Go.IntKind.i64
 (Int.ofNat (0 : Nat))]))]),
 Go.Value.agg
 (Array.mk
 [Go.Value.iface (130 : Nat)
 (Go.Value.agg
 (Array.mk
 [Go.Value.bool
 (Decidable.decide
 (c < (0 : Int))),
 Go.Value.int Go.IntKind.u64
 (Int.ofNat (0 : Nat)),
 Go.Value.int Go.IntKind.u64
 (Int.ofNat (Int.natAbs c)),
 Go.Value.int Go.IntKind.i64
 (Int.ofNat (0 : Nat))]))]),
 Go.Value.agg (Array.mk [x_16])]
 (Go.Value.agg (Array.mk [x_17])) ∧
 (List.all [x_17] fun (x : Go.Value) =>
 Go.Value.oneCell' x) =
 Bool.true ∧
 Go.Proofs.YteaebpmgbpnbeaaGreatDoor.Same
 [Go.Value.int Go.IntKind.i64 a,
 Go.Value.int Go.IntKind.i64 b,
 Go.Value.int Go.IntKind.i64 c]
 [Go.Value.int Go.IntKind.i64 a,
 Go.Value.int Go.IntKind.i64 b,
 Go.Value.int Go.IntKind.i64 c] ∧
 (List.all
 [Go.Value.int Go.IntKind.i64 s,
 Go.Value.bool z,
 Go.Value.int Go.IntKind.i64 o]
 fun (x : Go.Value) =>
 Go.Value.oneCell' x) =
 Bool.true ∧
 Go.Proofs.YteaebpmgbpnbeaaGreatDoor.Same
 [Go.Value.agg
 (Array.mk
 [Go.Value.int Go.IntKind.i64 s,
 Go.Value.bool z,
 Go.Value.int Go.IntKind.i64 o]),
 Go.Value.int Go.IntKind.i64 f]
 [Go.Value.agg
 (Array.mk
 [Go.Value.int Go.IntKind.i64 s,
 Go.Value.bool z,
 Go.Value.int Go.IntKind.i64 o]),
 Go.Value.int Go.IntKind.i64 f] ∧
 (List.all
 [Go.Value.int Go.IntKind.i64 s2,
 Go.Value.bool z2,
 Go.Value.int Go.IntKind.i64 o2]
 fun (x : Go.Value) =>
 Go.Value.oneCell' x) =
 Bool.true ∧
 ∀ (x_18 : Go.Value),
 Go.Proofs.YteaebpmgbpnbeaaGreatDoor.isV
 (Go.Proofs.YteaebpmgbpnbeaaGreatDoor.timeOk
 s z o)
 (Go.Value.agg
 (Array.mk
 [Go.Value.iface (144 : Nat)
 (Go.Value.agg
 (Array.mk
 [Go.Value.int
 Go.IntKind.i64 s,
 Go.Value.bool z,
 Go.Value.int
 Go.IntKind.i64
 o]))]))
 (Go.Value.agg (Array.mk [x_18])) →
 (List.all [x_18] fun (x : Go.Value) =>
 Go.Value.oneCell' x) =
 Bool.true ∧
 (List.all [Go.Value.nilIface]
 fun (x : Go.Value) =>
 Go.Value.oneCell' x) =
 Bool.true ∧
 ∀ (x_19 : Go.Value),
 Go.Proofs.YteaebpmgbpnbeaaGreatDoor.isV
 (Go.Proofs.YteaebpmgbpnbeaaGreatDoor.timeOk
 s2 z2 o2)
 (Go.Value.agg
 (Array.mk
 [Go.Value.iface
 (144 : Nat)
 (Go.Value.agg
 (Array.mk
 [Go.Value.int
 Go.IntKind.i64
 s2,
 Go.Value.bool
 z2,
 Go.Value.int
 Go.IntKind.i64
 o2]))]))
 (Go.Value.agg
 (Array.mk [x_19])) →
 (List.all [x_19]
 fun (x : Go.Value) =>
 Go.Value.oneCell' x) =
 Bool.true ∧
 (List.all
 [Go.Value.nilIface]
 fun (x : Go.Value) =>
 Go.Value.oneCell' x) =
 Bool.true ∧
 Go.Proofs.YteaebpmgbpnbeaaGreatDoor.Same
 [Go.Value.int
 Go.IntKind.i64 f]
 [Go.Value.int
 Go.IntKind.i64
 f] ∧
 ∀ (x_20 : Go.Value),
 Go.Proofs.YteaebpmgbpnbeaaGreatDoor.isV
 (Go.Proofs.YteaebpmgbpnbeaaGreatDoor.dateOk
 a b c)
 (Go.Value.agg
 (Array.mk
 [Go.Value.iface
 (143 :
 Nat)
 (Go.Value.agg
 (Array.mk
 [Go.Value.int
 Go.IntKind.i64
 a,
 Go.Value.int
 Go.IntKind.i64
 b,
 Go.Value.int
 Go.IntKind.i64
 c]))]))
 (Go.Value.agg
 (Array.mk
 [x_20])) →
 x_14 = x_20 ∧
 Go.Proofs.YteaebpmgbpnbeaaGreatDoor.Plainly
 base
 (Go.Value.agg
 (Array.mk
 [x_14])) ∧
 x_15 =
 Go.Value.nilIface ∧
 Go.Proofs.YteaebpmgbpnbeaaGreatDoor.Plainly
 base
 (Go.Value.agg
 (Array.mk
 [x_15])) ∧
 x_17 =
 Go.Value.nilIface ∧
 Go.Proofs.YteaebpmgbpnbeaaGreatDoor.Plainly
 base
 (Go.Value.agg
 (Array.mk
 [x_17])) ∧
 ∃ (x_21
 :
 Go.Value),
 Go.Proofs.YteaebpmgbpnbeaaGreatDoor.Tot
 base
 (64 :
 Nat)
 [Go.Value.agg
 (Array.mk
 [x]),
 Go.Value.agg
 (Array.mk
 [x_1]),
 Go.Value.agg
 (Array.mk
 [x_2])]
 (Go.Value.agg
 (Array.mk
 [x_21])) ∧
 ((Go.Value.agg
 (Array.mk
 [x_21]) =
 Go.Value.agg
 (Array.mk
 [Go.Value.nilIface]) ∧
 ∃
 (x
 :
 Go.Value),
 Go.Proofs.YteaebpmgbpnbeaaGreatDoor.Tot
 base
 (63 :
 Nat)
 [Go.Value.agg
 (Array.mk
 [x_2]),
 Go.Value.agg
 (Array.mk
 [x_1])]
 (Go.Value.agg
 (Array.mk
 [x])) ∧
 (Go.Value.agg
 (Array.mk
 [x]) =
 Go.Value.agg
 (Array.mk
 [Go.Value.nilIface]) ∧
 K
 (Go.Value.bool
 Bool.true)
 (11 :
 Nat) ∨
 (∃
 (x_22
 :
 Go.TypeId),
 ∃
 (x_23
 :
 Go.Value),
 Go.Value.agg
 (Array.mk
 [x]) =
 Go.Value.agg
 (Array.mk
 [Go.Value.iface
 x_22
 x_23]) ∧
 Go.Pe.pureV
 (6 :
 Nat)
 (Go.Value.agg
 (Array.mk
 [x])) =
 Bool.true) ∧
 K
 (Go.Value.bool
 Bool.false)
 (11 :
 Nat))) ∨
 (∃
 (x
 :
 Go.TypeId),
 ∃
 (x_22
 :
 Go.Value),
 Go.Value.agg
 (Array.mk
 [x_21]) =
 Go.Value.agg
 (Array.mk
 [Go.Value.iface
 x
 x_22]) ∧
 Go.Pe.pureV
 (6 :
 Nat)
 (Go.Value.agg
 (Array.mk
 [x_21])) =
 Bool.true) ∧
 K
 (Go.Value.bool
 Bool.false)
 (11 :
 Nat))) := by kernel_rfl
theorem makes_ftf (K : Value → Nat → Prop) (base : World) (r1 r2 r3 r4 r5 a b c f s o s2 o2 : Int) (r6 z z2 : Bool) :
    funcK (envB (rulesMakes base a b c f (.tuple #[timeC s z o, .bool false]) (timeC s z o) (.tuple #[timeC s2 z2 o2, .bool true]) false )) 30 7 [.agg ⟨[.int .i64 r1, .int .i64 r2, .int .i64 r3, .int .i64 r4, .int .i64 r5, .bool r6]⟩, .int .i64 a, .int .i64 b, .int .i64 c, .int .i64 f] tabs Tryz.prog.globals.size (fun u _ _ mw => K u mw) =
  (Go.Proofs.YteaebpmgbpnbeaaGreatDoor.Same [] [] ∧
 ∀ (y m d s_1 : Int) (z_1 : Bool) (o_1 : Int),
 Go.Proofs.YteaebpmgbpnbeaaGreatDoor.dateOk y m d →
 Go.Proofs.YteaebpmgbpnbeaaGreatDoor.timeOk s_1 z_1 o_1 →
 (List.all [Go.Value.int Go.IntKind.i64 y, Go.Value.int Go.IntKind.i64 m, Go.Value.int Go.IntKind.i64 d, Go.Value.int Go.IntKind.i64 s_1, Go.Value.bool z_1, Go.Value.int Go.IntKind.i64 o_1]
 fun (x : Go.Value) => Go.Value.oneCell' x) =
 Bool.true ∧
 ∀ (x : Go.Value),
 Go.Proofs.YteaebpmgbpnbeaaGreatDoor.isV (Go.Proofs.YteaebpmgbpnbeaaGreatDoor.dateOk y m d ∧ Go.Proofs.YteaebpmgbpnbeaaGreatDoor.timeOk s_1 z_1 o_1)
 (Go.Value.agg
 (Array.mk
 [Go.Value.iface (142 : Nat)
 (Go.Value.agg
 (Array.mk
 [Go.Value.int Go.IntKind.i64 y, Go.Value.int Go.IntKind.i64 m, Go.Value.int Go.IntKind.i64 d, Go.Value.int Go.IntKind.i64 s_1, Go.Value.bool z_1,
 Go.Value.int Go.IntKind.i64 o_1]))]))
 (Go.Value.agg (Array.mk [x])) →
 ∀ (x_1 : Go.Value),
 Go.Proofs.YteaebpmgbpnbeaaGreatDoor.isV (Go.Proofs.YteaebpmgbpnbeaaGreatDoor.dateOk y m d)
 (Go.Value.agg (Array.mk [Go.Value.iface (143 : Nat) (Go.Value.agg (Array.mk [Go.Value.int Go.IntKind.i64 y, Go.Value.int Go.IntKind.i64 m, Go.Value.int Go.IntKind.i64 d]))]))
 (Go.Value.agg (Array.mk [x_1])) →
 ∀ (x_2 : Go.Value),
 Go.Proofs.YteaebpmgbpnbeaaGreatDoor.isV (Go.Proofs.YteaebpmgbpnbeaaGreatDoor.timeOk s_1 z_1 o_1)
 (Go.Value.agg (Array.mk [Go.Value.iface (144 : Nat) (Go.Value.agg (Array.mk [Go.Value.int Go.IntKind.i64 s_1, Go.Value.bool z_1, Go.Value.int Go.IntKind.i64 o_1]))]))
 (Go.Value.agg (Array.mk [x_2])) →
 (List.all [x] fun (x : Go.Value) => Go.Value.oneCell' x) = Bool.true ∧
 (List.all [x_1] fun (x : Go.Value) => Go.Value.oneCell' x) = Bool.true ∧
 (List.all [x_2] fun (x : Go.Value) => Go.Value.oneCell' x) = Bool.true ∧
 (List.all
 [Go.Value.int Go.IntKind.i64 y, Go.Value.int Go.IntKind.i64 m, Go.Value.int Go.IntKind.i64 d, Go.Value.int Go.IntKind.i64 (Int.ofNat (0 : Nat)),
 Go.Value.bool Bool.true, Go.Value.int Go.IntKind.i64 (Int.ofNat (0 : Nat))]
 fun (x : Go.Value) => Go.Value.oneCell' x) =
 Bool.true ∧
 ∃ (x_3 : Go.Value),
 Go.Proofs.YteaebpmgbpnbeaaGreatDoor.Tot base (49 : Nat) [Go.Value.agg (Array.mk [x])] (Go.Value.agg (Array.mk [x_3])) ∧
 x_3 = x_1 ∧
 Go.Proofs.YteaebpmgbpnbeaaGreatDoor.Plainly base (Go.Value.agg (Array.mk [x_3])) ∧
 ∃ (x_4 : Go.Value),
 Go.Proofs.YteaebpmgbpnbeaaGreatDoor.Tot base (49 : Nat) [Go.Value.agg (Array.mk [x_1])] (Go.Value.agg (Array.mk [x_4])) ∧
 x_4 = x_1 ∧
 Go.Proofs.YteaebpmgbpnbeaaGreatDoor.Plainly base (Go.Value.agg (Array.mk [x_4])) ∧
 ∃ (x_5 : Go.Value),
 Go.Proofs.YteaebpmgbpnbeaaGreatDoor.Tot base (50 : Nat) [Go.Value.agg (Array.mk [x])] (Go.Value.agg (Array.mk [x_5])) ∧
 x_5 = x_2 ∧
 Go.Proofs.YteaebpmgbpnbeaaGreatDoor.Plainly base (Go.Value.agg (Array.mk [x_5])) ∧
 ∃ (x_6 : Go.Value),
 Go.Proofs.YteaebpmgbpnbeaaGreatDoor.Tot base (50 : Nat) [Go.Value.agg (Array.mk [x_2])] (Go.Value.agg (Array.mk [x_6])) ∧
 x_6 = x_2 ∧
 Go.Proofs.YteaebpmgbpnbeaaGreatDoor.Plainly base (Go.Value.agg (Array.mk [x_6])) ∧
 ∃ (x_7 : Go.Value),
 Go.Proofs.YteaebpmgbpnbeaaGreatDoor.Tot base (50 : Nat) [Go.Value.agg (Array.mk [x_1])] (Go.Value.agg (Array.mk [x_7])) ∧
 ∀ (x_8 : Go.Value),
 Go.Proofs.YteaebpmgbpnbeaaGreatDoor.isV (Go.Proofs.YteaebpmgbpnbeaaGreatDoor.timeOk (0 : Int) Bool.true (0 : Int))
 (Go.Value.agg
 (Array.mk
 [Go.Value.iface (144 : Nat)
 (Go.Value.agg
 (Array.mk
 [Go.Value.int Go.IntKind.i64 (Int.ofNat (0 : Nat)), Go.Value.bool Bool.true,
 Go.Value.int Go.IntKind.i64 (Int.ofNat (0 : Nat))]))]))
 (Go.Value.agg (Array.mk [x_8])) →
 x_7 = x_8 ∧
 Go.Proofs.YteaebpmgbpnbeaaGreatDoor.Plainly base (Go.Value.agg (Array.mk [x_7])) ∧
 ∃ (x_9 : Go.Value),
 Go.Proofs.YteaebpmgbpnbeaaGreatDoor.Tot base (48 : Nat) [Go.Value.agg (Array.mk [x])] (Go.Value.agg (Array.mk [x_9])) ∧
 x_9 = x ∧
 Go.Proofs.YteaebpmgbpnbeaaGreatDoor.Plainly base (Go.Value.agg (Array.mk [x_9])) ∧
 ∃ (x_10 : Go.Value),
 Go.Proofs.YteaebpmgbpnbeaaGreatDoor.Tot base (48 : Nat) [Go.Value.agg (Array.mk [x_1])]
 (Go.Value.agg (Array.mk [x_10])) ∧
 ∀ (x_11 : Go.Value),
 Go.Proofs.YteaebpmgbpnbeaaGreatDoor.isV
 (Go.Proofs.YteaebpmgbpnbeaaGreatDoor.dateOk y m d ∧
 Go.Proofs.YteaebpmgbpnbeaaGreatDoor.timeOk (0 : Int) Bool.true (0 : Int))
 (Go.Value.agg
 (Array.mk
 [Go.Value.iface (142 : Nat)
 (Go.Value.agg
 (Array.mk
 [Go.Value.int Go.IntKind.i64 y, Go.Value.int Go.IntKind.i64 m, Go.Value.int Go.IntKind.i64 d,
 Go.Value.int Go.IntKind.i64 (Int.ofNat (0 : Nat)), Go.Value.bool Bool.true,
 Go.Value.int Go.IntKind.i64 (Int.ofNat (0 : Nat))]))]))
 (Go.Value.agg (Array.mk [x_11])) →
 x_10 = x_11 ∧
 Go.Proofs.YteaebpmgbpnbeaaGreatDoor.Plainly base (Go.Value.agg (Array.mk [x_10])) ∧
 ∃ (x_12 : Go.Value),
 Go.Proofs.YteaebpmgbpnbeaaGreatDoor.Tot base (63 : Nat)
 [Go.Value.agg (Array.mk [x]), Go.Value.agg (Array.mk [x_2])] (Go.Value.agg (Array.mk [x_12])) ∧
 x_12 = x ∧
 Go.Proofs.YteaebpmgbpnbeaaGreatDoor.Plainly base (Go.Value.agg (Array.mk [x_12])) ∧
 ∃ (x_13 : Go.Value),
 Go.Proofs.YteaebpmgbpnbeaaGreatDoor.Tot base (63 : Nat)
 [Go.Value.agg (Array.mk [x_1]), Go.Value.agg (Array.mk [x_2])]
 (Go.Value.agg (Array.mk [x_13])) ∧
 x_13 = x ∧
 Go.Proofs.YteaebpmgbpnbeaaGreatDoor.Plainly base (Go.Value.agg (Array.mk [x_13])) ∧
 Go.Proofs.YteaebpmgbpnbeaaGreatDoor.rng a ∧
 Go.Proofs.YteaebpmgbpnbeaaGreatDoor.rng b ∧
 Go.Proofs.YteaebpmgbpnbeaaGreatDoor.rng c ∧
 ∃ (x_14 : Go.Value),
 Go.Proofs.YteaebpmgbpnbeaaGreatDoor.Tot base (64 : Nat)
 [Go.Value.agg
 (Array.mk
 [Go.Value.iface (130 : Nat)
 (Go.Value.agg
 (Array.mk
 [Go.Value.bool (Decidable.decide (a < (0 : Int))),
 Go.Value.int Go.IntKind.u64 (Int.ofNat (0 : Nat)),
 Go.Value.int Go.IntKind.u64 (Int.ofNat (Int.natAbs a)),
 Go.Value.int Go.IntKind.i64 (Int.ofNat (0 : Nat))]))]),
 Go.Value.agg
 (Array.mk
 [Go.Value.iface (130 : Nat)
 (Go.Value.agg
 (Array.mk
 [Go.Value.bool (Decidable.decide (b < (0 : Int))),
 Go.Value.int Go.IntKind.u64 (Int.ofNat (0 : Nat)),
 Go.Value.int Go.IntKind.u64 (Int.ofNat (Int.natAbs b)),
 Go.Value.int Go.IntKind.i64 (Int.ofNat (0 : Nat))]))]),
 Go.Value.agg
 (Array.mk
 [Go.Value.iface (130 : Nat)
 (Go.Value.agg
 (Array.mk
 [Go.Value.bool (Decidable.decide (c < (0 : Int))),
 Go.Value.int Go.IntKind.u64 (Int.ofNat (0 : Nat)),
 Go.Value.int Go.IntKind.u64 (Int.ofNat (Int.natAbs c)),
 Go.Value.int Go.IntKind.i64 (Int.ofNat (0 : Nat))]))])]
 (Go.Value.agg (Array.mk [x_14])) ∧
 (List.all [x_14] fun (x : Go.Value) => Go.Value.oneCell' x) = Bool.true ∧
 Go.Proofs.YteaebpmgbpnbeaaGreatDoor.rng a ∧
 Go.Proofs.YteaebpmgbpnbeaaGreatDoor.rng b ∧
 Go.Proofs.YteaebpmgbpnbeaaGreatDoor.rng c ∧
 ∃ (x_15 : Go.Value),
 Go.Proofs.YteaebpmgbpnbeaaGreatDoor.Tot base (66 : Nat)
 [Go.Value.agg
 (Array.mk
 [Go.Value.iface (130 : Nat)
 (Go.Value.agg
 (Array.mk
 [Go.Value.bool (Decidable.decide (a < (0 : Int))),
 Go.Value.int Go.IntKind.u64 (Int.ofNat (0 : Nat)),
 Go.Value.int Go.IntKind.u64
 (Int.ofNat (Int.natAbs a)),
 Go.Value.int Go.IntKind.i64
 (Int.ofNat (0 : Nat))]))]),
 Go.Value.agg
 (Array.mk
 [Go.Value.iface (130 : Nat)
 (Go.Value.agg
 (Array.mk
 [Go.Value.bool (Decidable.decide (b < (0 : Int))),
 Go.Value.int Go.IntKind.u64 (Int.ofNat (0 : Nat)),
 Go.Value.int Go.IntKind.u64
 (Int.ofNat (Int.natAbs b)),
 Go.Value.int Go.IntKind.i64
 (Int.ofNat (0 : Nat))]))]),
 Go.Value.agg
 (Array.mk
 [Go.Value.iface (130 : Nat)
 (Go.Value.agg
 (Array.mk
 [Go.Value.bool (Decidable.decide (c < (0 : Int))),
 Go.Value.int Go.IntKind.u64 (Int.ofNat (0 : Nat)),
 Go.Value.int Go.IntKind.u64
 (Int.ofNat (Int.natAbs c)),
 Go.Value.int Go.IntKind.i64
 (Int.ofNat (0 : Nat))]))]),
 Go.Value.agg (Array.mk [Go.Value.nilIface])]
 (Go.Value.agg (Array.mk [x_15])) ∧
 (List.all [x_15] fun (x : Go.Value) => Go.Value.oneCell' x) =
 Bool.true ∧
 Go.Proofs.YteaebpmgbpnbeaaGreatDoor.rng a ∧
 Go.Proofs.YteaebpmgbpnbeaaGreatDoor.rng b ∧
 Go.Proofs.YteaebpmgbpnbeaaGreatDoor.rng c ∧
 ∀ (x_16 : Go.Value),
 Go.Proofs.YteaebpmgbpnbeaaGreatDoor.isV
 (Go.Proofs.YteaebpmgbpnbeaaGreatDoor.spanOk f)
 (Go.Value.agg
 (Array.mk
 [Go.Value.iface (131 : Nat)
 (Go.Value.int Go.IntKind.i64 f)]))
 (Go.Value.agg (Array.mk [x_16])) →
 ∃ (x_17 : Go.Value),
 Go.Proofs.YteaebpmgbpnbeaaGreatDoor.Tot base
 (66 : Nat)
 [Go.Value.agg
 (Array.mk
 [Go.Value.iface (130 : Nat)
 (Go.Value.agg
 (Array.mk
 [Go.Value.bool
 (Decidable.decide
 (a < (0 : Int))),
 Go.Value.int Go.IntKind.u64
 (Int.ofNat (0 : Nat)),
 Go.Value.int Go.IntKind.u64
 (Int.ofNat (Int.natAbs a)),
 Go.Value.int Go.IntKind.i64
 (Int.ofNat (0 : Nat))]))]),
 Go.Value.agg
 (Array.mk
 [Go.Value.iface (130 : Nat)
 (Go.Value.agg
 (Array.mk
 [Go.Value.bool
 (Decidable.decide
 (b < (0 : Int))),
 Go.Value.int Go.IntKind.u64
 (Int.ofNat (0 : Nat)),
 Go.Value.int Go.IntKind.u64
 (Int.ofNat (Int.natAbs b)),
 Go.Value.int Go.IntKind.i64
 (Int.ofNat (0 : Nat))]))]),
 Go.Value.agg
 (Array.mk
 [Go.Value.iface (130 : Nat)
 (Go.Value.agg
 (Array.mk
 [Go.Value.bool
 (Decidable.decide
 (c < (0 : Int))),
 Go.Value.int Go.IntKind.u64
 (Int.ofNat (0 : Nat)),
 Go.Value.int Go.IntKind.u64
 (Int.ofNat (Int.natAbs c)),
 Go.Value.int Go.IntKind.i64
 (Int.ofNat (0 : Nat))]))]),
 Go.Value.agg (Array.mk [x_16])]
 (Go.Value.agg (Array.mk [x_17])) ∧
 (List.all [x_17] fun (x : Go.Value) =>
 Go.Value.oneCell' x) =
 Bool.true ∧
 Go.Proofs.YteaebpmgbpnbeaaGreatDoor.Same
 [Go.Value.int Go.IntKind.i64 a,
 Go.Value.int Go.IntKind.i64 b,
 Go.Value.int Go.IntKind.i64 c]
 [Go.Value.int Go.IntKind.i64 a,
 Go.Value.int Go.IntKind.i64 b,
 Go.Value.int Go.IntKind.i64 c] ∧
 (List.all
 [Go.Value.int Go.IntKind.i64 s,
 Go.Value.bool z,
 Go.Value.int Go.IntKind.i64 o]
 fun (x : Go.Value) =>
 Go.Value.oneCell' x) =
 Bool.true ∧
 Go.Proofs.YteaebpmgbpnbeaaGreatDoor.Same
 [Go.Value.agg
 (Array.mk
 [Go.Value.int Go.IntKind.i64 s,
 Go.Value.bool z,
 Go.Value.int Go.IntKind.i64 o]),
 Go.Value.int Go.IntKind.i64 f]
 [Go.Value.agg
 (Array.mk
 [Go.Value.int Go.IntKind.i64 s,
 Go.Value.bool z,
 Go.Value.int Go.IntKind.i64 o]),
 Go.Value.int Go.IntKind.i64 f] ∧
 (List.all
 [Go.Value.int Go.IntKind.i64 s2,
 Go.Value.bool z2,
 Go.Value.int Go.IntKind.i64 o2]
 fun (x : Go.Value) =>
 Go.Value.oneCell' x) =
 Bool.true ∧
 ∀ (x_18 : Go.Value),
 Go.Proofs.YteaebpmgbpnbeaaGreatDoor.isV
 (Go.Proofs.YteaebpmgbpnbeaaGreatDoor.timeOk
 s z o)
 (Go.Value.agg
 (Array.mk
 [Go.Value.iface (144 : Nat)
 (Go.Value.agg
 (Array.mk
 [Go.Value.int
 Go.IntKind.i64 s,
 Go.Value.bool z,
 Go.Value.int
 Go.IntKind.i64
 o]))]))
 (Go.Value.agg (Array.mk [x_18])) →
 (List.all [x_18] fun (x : Go.Value) =>
 Go.Value.oneCell' x) =
 Bool.true ∧
 (List.all [Go.Value.nilIface]
 fun (x : Go.Value) =>
 Go.Value.oneCell' x) =
 Bool.true ∧
 ∀ (x_19 : Go.Value),
 Go.Proofs.YteaebpmgbpnbeaaGreatDoor.isV
 (Go.Proofs.YteaebpmgbpnbeaaGreatDoor.timeOk
 s2 z2 o2)
 (Go.Value.agg
 (Array.mk
 [Go.Value.iface
 (144 : Nat)
 (Go.Value.agg
 (Array.mk
 [Go.Value.int
 Go.IntKind.i64
 s2,
 Go.Value.bool
 z2,
 Go.Value.int
 Go.IntKind.i64
 o2]))]))
 (Go.Value.agg
 (Array.mk [x_19])) →
 (List.all [x_19]
 fun (x : Go.Value) =>
 Go.Value.oneCell' x) =
 Bool.true ∧
 (List.all
 [Go.Value.nilIface]
 fun (x : Go.Value) =>
 Go.Value.oneCell' x) =
 Bool.true ∧
 Go.Proofs.YteaebpmgbpnbeaaGreatDoor.Same
 [Go.Value.int
 Go.IntKind.i64 f]
 [Go.Value.int
 Go.IntKind.i64
 f] ∧
 (List.all
 [Go.Value.nilIface]
 fun
 (x :
 Go.Value) =>
 Go.Value.oneCell'
 x) =
 Bool.true ∧
 ∀ (x_20 : Go.Value),
 Go.Proofs.YteaebpmgbpnbeaaGreatDoor.isV
 (Go.Proofs.YteaebpmgbpnbeaaGreatDoor.dateOk
 a b c)
 (Go.Value.agg
 (Array.mk
 [Go.Value.iface
 (143 :
 Nat)
 (Go.Value.agg
 (Array.mk
 [Go.Value.int
 Go.IntKind.i64
 a,
 Go.Value.int
 Go.IntKind.i64
 b,
 Go.Value.int
 Go.IntKind.i64
 c]))]))
 (Go.Value.agg
 (Array.mk
 [x_20])) →
 x_14 = x_20 ∧
 Go.Proofs.YteaebpmgbpnbeaaGreatDoor.Plainly
 base
 (Go.Value.agg
 (Array.mk
 [x_14])) ∧
 x_15 =
 Go.Value.nilIface ∧
 Go.Proofs.YteaebpmgbpnbeaaGreatDoor.Plainly
 base
 (Go.Value.agg
 (Array.mk
 [x_15])) ∧
 x_17 =
 Go.Value.nilIface ∧
 Go.Proofs.YteaebpmgbpnbeaaGreatDoor.Plainly
 base
 (Go.Value.agg
 (Array.mk
 [x_17])) ∧
 ∃
 (x_21
 :
 Go.Value),
 Go.Proofs.YteaebpmgbpnbeaaGreatDoor.Tot
 base
 (64 :
 Nat)
 [Go.Value.agg
 (Array.mk
 [x]),
 Go.Value.agg
 (Array.mk
 [x_1]),
 Go.Value.agg
 (Array.mk
 [x_2])]
 (Go.Value.agg
 (Array.mk
 [x_21])) ∧
 ((Go.Value.agg
 (Array.mk
 [x_21]) =
 Go.Value.agg
 (Array.mk
 [Go.Value.nilIface]) ∧
 ∃
 (x
 :
 Go.Value),
 Go.Proofs.YteaebpmgbpnbeaaGreatDoor.Tot
 base
 (63 :
 Nat)
 [Go.Value.agg
 (Array.mk
 [x_2]),
 Go.Value.agg
 (Array.mk
 [x_1])]
 (Go.Value.agg
 (Array.mk
 [x])) ∧
 (Go.Value.agg
 (Array.mk
 [x]) =
 Go.Value.agg
 (Array.mk
 [Go.Value.nilIface]) ∧
 K
 (Go.Value.bool
 Bool.true)
 (11 :
 Nat) ∨
 (∃
 (x_22
 :
 Go.TypeId),
 ∃
 (x_23
 :
 Go.Value),
 Go.Value.agg
 (Array.mk
 [x]) =
 Go.Value.agg
 (Array.mk
 [Go.Value.iface
 x_22
 x_23]) ∧
 Go.Pe.pureV
 (6 :
 Nat)
 (Go.Value.agg
 (Array.mk
 [x])) =
 Bool.true) ∧
 K
 (Go.Value.bool
 Bool.false)
 (11 :
 Nat))) ∨
 (∃
 (x
 :
 Go.TypeId),
 ∃
 (x_22
 :
 Go.Value),
 Go.Value.agg
 (Array.mk
 [x_21]) =
 Go.Value.agg
 (Array.mk
 [Go.Value.iface
 x
 x_22]) ∧
 Go.Pe.pureV
 (6 :
 Nat)
 (Go.Value.agg
 (Array.mk
 [x_21])) =
 Bool.true) ∧
 K
 (Go.Value.bool
 Bool.false)
 (11 :
 Nat))) := by kernel_rfl
theorem makes_fft (K : Value → Nat → Prop) (base : World) (r1 r2 r3 r4 r5 a b c f s o s2 o2 : Int) (r6 z z2 : Bool) :
    funcK (envB (rulesMakes base a b c f (.tuple #[timeC s z o, .bool false]) (timeC s z o) (.tuple #[timeC s2 z2 o2, .bool false]) true )) 30 7 [.agg ⟨[.int .i64 r1, .int .i64 r2, .int .i64 r3, .int .i64 r4, .int .i64 r5, .bool r6]⟩, .int .i64 a, .int .i64 b, .int .i64 c, .int .i64 f] tabs Tryz.prog.globals.size (fun u _ _ mw => K u mw) =
  (Go.Proofs.YteaebpmgbpnbeaaGreatDoor.Same [] [] ∧
 ∀ (y m d s_1 : Int) (z_1 : Bool) (o_1 : Int),
 Go.Proofs.YteaebpmgbpnbeaaGreatDoor.dateOk y m d →
 Go.Proofs.YteaebpmgbpnbeaaGreatDoor.timeOk s_1 z_1 o_1 →
 (List.all [Go.Value.int Go.IntKind.i64 y, Go.Value.int Go.IntKind.i64 m, Go.Value.int Go.IntKind.i64 d, Go.Value.int Go.IntKind.i64 s_1, Go.Value.bool z_1, Go.Value.int Go.IntKind.i64 o_1]
 fun (x : Go.Value) => Go.Value.oneCell' x) =
 Bool.true ∧
 ∀ (x : Go.Value),
 Go.Proofs.YteaebpmgbpnbeaaGreatDoor.isV (Go.Proofs.YteaebpmgbpnbeaaGreatDoor.dateOk y m d ∧ Go.Proofs.YteaebpmgbpnbeaaGreatDoor.timeOk s_1 z_1 o_1)
 (Go.Value.agg
 (Array.mk
 [Go.Value.iface (142 : Nat)
 (Go.Value.agg
 (Array.mk
 [Go.Value.int Go.IntKind.i64 y, Go.Value.int Go.IntKind.i64 m, Go.Value.int Go.IntKind.i64 d, Go.Value.int Go.IntKind.i64 s_1, Go.Value.bool z_1,
 Go.Value.int Go.IntKind.i64 o_1]))]))
 (Go.Value.agg (Array.mk [x])) →
 ∀ (x_1 : Go.Value),
 Go.Proofs.YteaebpmgbpnbeaaGreatDoor.isV (Go.Proofs.YteaebpmgbpnbeaaGreatDoor.dateOk y m d)
 (Go.Value.agg (Array.mk [Go.Value.iface (143 : Nat) (Go.Value.agg (Array.mk [Go.Value.int Go.IntKind.i64 y, Go.Value.int Go.IntKind.i64 m, Go.Value.int Go.IntKind.i64 d]))]))
 (Go.Value.agg (Array.mk [x_1])) →
 ∀ (x_2 : Go.Value),
 Go.Proofs.YteaebpmgbpnbeaaGreatDoor.isV (Go.Proofs.YteaebpmgbpnbeaaGreatDoor.timeOk s_1 z_1 o_1)
 (Go.Value.agg (Array.mk [Go.Value.iface (144 : Nat) (Go.Value.agg (Array.mk [Go.Value.int Go.IntKind.i64 s_1, Go.Value.bool z_1, Go.Value.int Go.IntKind.i64 o_1]))]))
 (Go.Value.agg (Array.mk [x_2])) →
 (List.all [x] fun (x : Go.Value) => Go.Value.oneCell' x) = Bool.true ∧
 (List.all [x_1] fun (x : Go.Value) => Go.Value.oneCell' x) = Bool.true ∧
 (List.all [x_2] fun (x : Go.Value) => Go.Value.oneCell' x) = Bool.true ∧
 (List.all
 [Go.Value.int Go.IntKind.i64 y, Go.Value.int Go.IntKind.i64 m, Go.Value.int Go.IntKind.i64 d, Go.Value.int Go.IntKind.i64 (Int.ofNat (0 : Nat)),
 Go.Value.bool Bool.true, Go.Value.int Go.IntKind.i64 (Int.ofNat (0 : Nat))]
 fun (x : Go.Value) => Go.Value.oneCell' x) =
 Bool.true ∧
 ∃ (x_3 : Go.Value),
 Go.Proofs.YteaebpmgbpnbeaaGreatDoor.Tot base (49 : Nat) [Go.Value.agg (Array.mk [x])] (Go.Value.agg (Array.mk [x_3])) ∧
 x_3 = x_1 ∧
 Go.Proofs.YteaebpmgbpnbeaaGreatDoor.Plainly base (Go.Value.agg (Array.mk [x_3])) ∧
 ∃ (x_4 : Go.Value),
 Go.Proofs.YteaebpmgbpnbeaaGreatDoor.Tot base (49 : Nat) [Go.Value.agg (Array.mk [x_1])] (Go.Value.agg (Array.mk [x_4])) ∧
 x_4 = x_1 ∧
 Go.Proofs.YteaebpmgbpnbeaaGreatDoor.Plainly base (Go.Value.agg (Array.mk [x_4])) ∧
 ∃ (x_5 : Go.Value),
 Go.Proofs.YteaebpmgbpnbeaaGreatDoor.Tot base (50 : Nat) [Go.Value.agg (Array.mk [x])] (Go.Value.agg (Array.mk [x_5])) ∧
 x_5 = x_2 ∧
 Go.Proofs.YteaebpmgbpnbeaaGreatDoor.Plainly base (Go.Value.agg (Array.mk [x_5])) ∧
 ∃ (x_6 : Go.Value),
 Go.Proofs.YteaebpmgbpnbeaaGreatDoor.Tot base (50 : Nat) [Go.Value.agg (Array.mk [x_2])] (Go.Value.agg (Array.mk [x_6])) ∧
 x_6 = x_2 ∧
 Go.Proofs.YteaebpmgbpnbeaaGreatDoor.Plainly base (Go.Value.agg (Array.mk [x_6])) ∧
 ∃ (x_7 : Go.Value),
 Go.Proofs.YteaebpmgbpnbeaaGreatDoor.Tot base (50 : Nat) [Go.Value.agg (Array.mk [x_1])] (Go.Value.agg (Array.mk [x_7])) ∧
 ∀ (x_8 : Go.Value),
 Go.Proofs.YteaebpmgbpnbeaaGreatDoor.isV (Go.Proofs.YteaebpmgbpnbeaaGreatDoor.timeOk (0 : Int) Bool.true (0 : Int))
 (Go.Value.agg
 (Array.mk
 [Go.Value.iface (144 : Nat)
 (Go.Value.agg
 (Array.mk
 [Go.Value.int Go.IntKind.i64 (Int.ofNat (0 : Nat)), Go.Value.bool Bool.true,
 Go.Value.int Go.IntKind.i64 (Int.ofNat (0 : Nat))]))]))
 (Go.Value.agg (Array.mk [x_8])) →
 x_7 = x_8 ∧
 Go.Proofs.YteaebpmgbpnbeaaGreatDoor.Plainly base (Go.Value.agg (Array.mk [x_7])) ∧
 ∃ (x_9 : Go.Value),
 Go.Proofs.YteaebpmgbpnbeaaGreatDoor.Tot base (48 : Nat) [Go.Value.agg (Array.mk [x])] (Go.Value.agg (Array.mk [x_9])) ∧
 x_9 = x ∧
 Go.Proofs.YteaebpmgbpnbeaaGreatDoor.Plainly base (Go.Value.agg (Array.mk [x_9])) ∧
 ∃ (x_10 : Go.Value),
 Go.Proofs.YteaebpmgbpnbeaaGreatDoor.Tot base (48 : Nat) [Go.Value.agg (Array.mk [x_1])]
 (Go.Value.agg (Array.mk [x_10])) ∧
 ∀ (x_11 : Go.Value),
 Go.Proofs.YteaebpmgbpnbeaaGreatDoor.isV
 (Go.Proofs.YteaebpmgbpnbeaaGreatDoor.dateOk y m d ∧
 Go.Proofs.YteaebpmgbpnbeaaGreatDoor.timeOk (0 : Int) Bool.true (0 : Int))
 (Go.Value.agg
 (Array.mk
 [Go.Value.iface (142 : Nat)
 (Go.Value.agg
 (Array.mk
 [Go.Value.int Go.IntKind.i64 y, Go.Value.int Go.IntKind.i64 m, Go.Value.int Go.IntKind.i64 d,
 Go.Value.int Go.IntKind.i64 (Int.ofNat (0 : Nat)), Go.Value.bool Bool.true,
 Go.Value.int Go.IntKind.i64 (Int.ofNat (0 : Nat))]))]))
 (Go.Value.agg (Array.mk [x_11])) →
 x_10 = x_11 ∧
 Go.Proofs.YteaebpmgbpnbeaaGreatDoor.Plainly base (Go.Value.agg (Array.mk [x_10])) ∧
 ∃ (x_12 : Go.Value),
 Go.Proofs.YteaebpmgbpnbeaaGreatDoor.Tot base (63 : Nat)
 [Go.Value.agg (Array.mk [x]), Go.Value.agg (Array.mk [x_2])] (Go.Value.agg (Array.mk [x_12])) ∧
 x_12 = x ∧
 Go.Proofs.YteaebpmgbpnbeaaGreatDoor.Plainly base (Go.Value.agg (Array.mk [x_12])) ∧
 ∃ (x_13 : Go.Value),
 Go.Proofs.YteaebpmgbpnbeaaGreatDoor.Tot base (63 : Nat)
 [Go.Value.agg (Array.mk [x_1]), Go.Value.agg (Array.mk [x_2])]
 (Go.Value.agg (Array.mk [x_13])) ∧
 x_13 = x ∧
 Go.Proofs.YteaebpmgbpnbeaaGreatDoor.Plainly base (Go.Value.agg (Array.mk [x_13])) ∧
 Go.Proofs.YteaebpmgbpnbeaaGreatDoor.rng a ∧
 Go.Proofs.YteaebpmgbpnbeaaGreatDoor.rng b ∧
 Go.Proofs.YteaebpmgbpnbeaaGreatDoor.rng c ∧
 ∃ (x_14 : Go.Value),
 Go.Proofs.YteaebpmgbpnbeaaGreatDoor.Tot base (64 : Nat)
 [Go.Value.agg
 (Array.mk
 [Go.Value.iface (130 : Nat)
 (Go.Value.agg
 (Array.mk
 [Go.Value.bool (Decidable.decide (a < (0 : Int))),
 Go.Value.int Go.IntKind.u64 (Int.ofNat (0 : Nat)),
 Go.Value.int Go.IntKind.u64 (Int.ofNat (Int.natAbs a)),
 Go.Value.int Go.IntKind.i64 (Int.ofNat (0 : Nat))]))]),
 Go.Value.agg
 (Array.mk
 [Go.Value.iface (130 : Nat)
 (Go.Value.agg
 (Array.mk
 [Go.Value.bool (Decidable.decide (b < (0 : Int))),
 Go.Value.int Go.IntKind.u64 (Int.ofNat (0 : Nat)),
 Go.Value.int Go.IntKind.u64 (Int.ofNat (Int.natAbs b)),
 Go.Value.int Go.IntKind.i64 (Int.ofNat (0 : Nat))]))]),
 Go.Value.agg
 (Array.mk
 [Go.Value.iface (130 : Nat)
 (Go.Value.agg
 (Array.mk
 [Go.Value.bool (Decidable.decide (c < (0 : Int))),
 Go.Value.int Go.IntKind.u64 (Int.ofNat (0 : Nat)),
 Go.Value.int Go.IntKind.u64 (Int.ofNat (Int.natAbs c)),
 Go.Value.int Go.IntKind.i64 (Int.ofNat (0 : Nat))]))])]
 (Go.Value.agg (Array.mk [x_14])) ∧
 (List.all [x_14] fun (x : Go.Value) => Go.Value.oneCell' x) = Bool.true ∧
 Go.Proofs.YteaebpmgbpnbeaaGreatDoor.rng a ∧
 Go.Proofs.YteaebpmgbpnbeaaGreatDoor.rng b ∧
 Go.Proofs.YteaebpmgbpnbeaaGreatDoor.rng c ∧
 ∃ (x_15 : Go.Value),
 Go.Proofs.YteaebpmgbpnbeaaGreatDoor.Tot base (66 : Nat)
 [Go.Value.agg
 (Array.mk
 [Go.Value.iface (130 : Nat)
 (Go.Value.agg
 (Array.mk
 [Go.Value.bool (Decidable.decide (a < (0 : Int))),
 Go.Value.int Go.IntKind.u64 (Int.ofNat (0 : Nat)),
 Go.Value.int Go.IntKind.u64
 (Int.ofNat (Int.natAbs a)),
 Go.Value.int Go.IntKind.i64
 (Int.ofNat (0 : Nat))]))]),
 Go.Value.agg
 (Array.mk
 [Go.Value.iface (130 : Nat)
 (Go.Value.agg
 (Array.mk
 [Go.Value.bool (Decidable.decide (b < (0 : Int))),
 Go.Value.int Go.IntKind.u64 (Int.ofNat (0 : Nat)),
 Go.Value.int Go.IntKind.u64
 (Int.ofNat (Int.natAbs b)),
 Go.Value.int Go.IntKind.i64
 (Int.ofNat (0 : Nat))]))]),
 Go.Value.agg
 (Array.mk
 [Go.Value.iface (130 : Nat)
 (Go.Value.agg
 (Array.mk
 [Go.Value.bool (Decidable.decide (c < (0 : Int))),
 Go.Value.int Go.IntKind.u64 (Int.ofNat (0 : Nat)),
 Go.Value.int Go.IntKind.u64
 (Int.ofNat (Int.natAbs c)),
 Go.Value.int Go.IntKind.i64
 (Int.ofNat (0 : Nat))]))]),
 Go.Value.agg (Array.mk [Go.Value.nilIface])]
 (Go.Value.agg (Array.mk [x_15])) ∧
 (List.all [x_15] fun (x : Go.Value) => Go.Value.oneCell' x) =
 Bool.true ∧
 Go.Proofs.YteaebpmgbpnbeaaGreatDoor.rng a ∧
 Go.Proofs.YteaebpmgbpnbeaaGreatDoor.rng b ∧
 Go.Proofs.YteaebpmgbpnbeaaGreatDoor.rng c ∧
 ∀ (x_16 : Go.Value),
 Go.Proofs.YteaebpmgbpnbeaaGreatDoor.isV
 (Go.Proofs.YteaebpmgbpnbeaaGreatDoor.spanOk f)
 (Go.Value.agg
 (Array.mk
 [Go.Value.iface (131 : Nat)
 (Go.Value.int Go.IntKind.i64 f)]))
 (Go.Value.agg (Array.mk [x_16])) →
 ∃ (x_17 : Go.Value),
 Go.Proofs.YteaebpmgbpnbeaaGreatDoor.Tot base
 (66 : Nat)
 [Go.Value.agg
 (Array.mk
 [Go.Value.iface (130 : Nat)
 (Go.Value.agg
 (Array.mk
 [Go.Value.bool
 (Decidable.decide
 (a < (0 : Int))),
 Go.Value.int Go.IntKind.u64
 (Int.ofNat (0 : Nat)),
 Go.Value.int Go.IntKind.u64
 (Int.ofNat (Int.natAbs a)),
 Go.Value.int Go.IntKind.i64
 (Int.ofNat (0 : Nat))]))]),
 Go.Value.agg
 (Array.mk
 [Go.Value.iface (130 : Nat)
 (Go.Value.agg
 (Array.mk
 [Go.Value.bool
 (Decidable.decide
 (b < (0 : Int))),
 Go.Value.int Go.IntKind.u64
 (Int.ofNat (0 : Nat)),
 Go.Value.int Go.IntKind.u64
 (Int.ofNat (Int.natAbs b)),
 Go.Value.int Go.IntKind.i64
 (Int.ofNat (0 : Nat))]))]),
 Go.Value.agg
 (Array.mk
 [Go.Value.iface (130 : Nat)
 (Go.Value.agg
 (Array.mk
 [Go.Value.bool
 (Decidable.decide
 (c < (0 : Int))),
 Go.Value.int Go.IntKind.u64
 (Int.ofNat (0 : Nat)),
 Go.Value.int Go.IntKind.u64
 (Int.ofNat (Int.natAbs c)),
 Go.Value.int Go.IntKind.i64
 (Int.ofNat (0 : Nat))]))]),
 Go.Value.agg (Array.mk [x_16])]
 (Go.Value.agg (Array.mk [x_17])) ∧
 (List.all [x_17] fun (x : Go.Value) =>
 Go.Value.oneCell' x) =
 Bool.true ∧
 Go.Proofs.YteaebpmgbpnbeaaGreatDoor.Same
 [Go.Value.int Go.IntKind.i64 a,
 Go.Value.int Go.IntKind.i64 b,
 Go.Value.int Go.IntKind.i64 c]
 [Go.Value.int Go.IntKind.i64 a,
 Go.Value.int Go.IntKind.i64 b,
 Go.Value.int Go.IntKind.i64 c] ∧
 (List.all
 [Go.Value.int Go.IntKind.i64 s,
 Go.Value.bool z,
 Go.Value.int Go.IntKind.i64 o]
 fun (x : Go.Value) =>
 Go.Value.oneCell' x) =
 Bool.true ∧
 Go.Proofs.YteaebpmgbpnbeaaGreatDoor.Same
 [Go.Value.agg
 (Array.mk
 [Go.Value.int Go.IntKind.i64 s,
 Go.Value.bool z,
 Go.Value.int Go.IntKind.i64 o]),
 Go.Value.int Go.IntKind.i64 f]
 [Go.Value.agg
 (Array.mk
 [Go.Value.int Go.IntKind.i64 s,
 Go.Value.bool z,
 Go.Value.int Go.IntKind.i64 o]),
 Go.Value.int Go.IntKind.i64 f] ∧
 (List.all
 [Go.Value.int Go.IntKind.i64 s2,
 Go.Value.bool z2,
 Go.Value.int Go.IntKind.i64 o2]
 fun (x : Go.Value) =>
 Go.Value.oneCell' x) =
 Bool.true ∧
 ∀ (x_18 : Go.Value),
 Go.Proofs.YteaebpmgbpnbeaaGreatDoor.isV
 (Go.Proofs.YteaebpmgbpnbeaaGreatDoor.timeOk
 s z o)
 (Go.Value.agg
 (Array.mk
 [Go.Value.iface (144 : Nat)
 (Go.Value.agg
 (Array.mk
 [Go.Value.int
 Go.IntKind.i64 s,
 Go.Value.bool z,
 Go.Value.int
 Go.IntKind.i64
 o]))]))
 (Go.Value.agg (Array.mk [x_18])) →
 (List.all [x_18] fun (x : Go.Value) =>
 Go.Value.oneCell' x) =
 Bool.true ∧
 (List.all [Go.Value.nilIface]
 fun (x : Go.Value) =>
 Go.Value.oneCell' x) =
 Bool.true ∧
 ∀ (x_19 : Go.Value),
 Go.Proofs.YteaebpmgbpnbeaaGreatDoor.isV
 (Go.Proofs.YteaebpmgbpnbeaaGreatDoor.timeOk
 s2 z2 o2)
 (Go.Value.agg
 (Array.mk
 [Go.Value.iface
 (144 : Nat)
 (Go.Value.agg
 (Array.mk
 [Go.Value.int
 Go.IntKind.i64
 s2,
 Go.Value.bool
 z2,
 Go.Value.int
 Go.IntKind.i64
 o2]))]))
 (Go.Value.agg
 (Array.mk [x_19])) →
 (List.all [x_19]
 fun (x : Go.Value) =>
 Go.Value.oneCell' x) =
 Bool.true ∧
 (List.all
 [Go.Value.nilIface]
 fun (x : Go.Value) =>
 Go.Value.oneCell' x) =
 Bool.true ∧
 Go.Proofs.YteaebpmgbpnbeaaGreatDoor.Same
 [Go.Value.int
 Go.IntKind.i64 f]
 [Go.Value.int
 Go.IntKind.i64
 f] ∧
 ∀ (x_20 : Go.Value),
 Go.Proofs.YteaebpmgbpnbeaaGreatDoor.isV
 (Go.Proofs.YteaebpmgbpnbeaaGreatDoor.dateOk
 a b c)
 (Go.Value.agg
 (Array.mk
 [Go.Value.iface
 (143 :
 Nat)
 (Go.Value.agg
 (Array.mk
 [Go.Value.int
 Go.IntKind.i64
 a,
 Go.Value.int
 Go.IntKind.i64
 b,
 Go.Value.int
 Go.IntKind.i64
 c]))]))
 (Go.Value.agg
 (Array.mk
 [x_20])) →
 x_14 = x_20 ∧
 Go.Proofs.YteaebpmgbpnbeaaGreatDoor.Plainly
 base
 (Go.Value.agg
 (Array.mk
 [x_14])) ∧
 x_15 =
 Go.Value.nilIface ∧
 Go.Proofs.YteaebpmgbpnbeaaGreatDoor.Plainly
 base
 (Go.Value.agg
 (Array.mk
 [x_15])) ∧
 x_17 =
 Go.Value.nilIface ∧
 Go.Proofs.YteaebpmgbpnbeaaGreatDoor.Plainly
 base
 (Go.Value.agg
 (Array.mk
 [x_17])) ∧
 ∃ (x_21
 :
 Go.Value),
 Go.Proofs.YteaebpmgbpnbeaaGreatDoor.Tot
 base
 (64 :
 Nat)
 [Go.Value.agg
 (Array.mk
 [x]),
 Go.Value.agg
 (Array.mk
 [x_1]),
 Go.Value.agg
 (Array.mk
 [x_2])]
 (Go.Value.agg
 (Array.mk
 [x_21])) ∧
 ((Go.Value.agg
 (Array.mk
 [x_21]) =
 Go.Value.agg
 (Array.mk
 [Go.Value.nilIface]) ∧
 ∃
 (x
 :
 Go.Value),
 Go.Proofs.YteaebpmgbpnbeaaGreatDoor.Tot
 base
 (63 :
 Nat)
 [Go.Value.agg
 (Array.mk
 [x_2]),
 Go.Value.agg
 (Array.mk
 [x_1])]
 (Go.Value.agg
 (Array.mk
 [x])) ∧
 (Go.Value.agg
 (Array.mk
 [x]) =
 Go.Value.agg
 (Array.mk
 [Go.Value.nilIface]) ∧
 K
 (Go.Value.bool
 Bool.true)
 (11 :
 Nat) ∨
 (∃
 (x_22
 :
 Go.TypeId),
 ∃
 (x_23
 :
 Go.Value),
 Go.Value.agg
 (Array.mk
 [x]) =
 Go.Value.agg
 (Array.mk
 [Go.Value.iface
 x_22
 x_23]) ∧
 Go.Pe.pureV
 (6 :
 Nat)
 (Go.Value.agg
 (Array.mk
 [x])) =
 Bool.true) ∧
 K
 (Go.Value.bool
 Bool.false)
 (11 :
 Nat))) ∨
 (∃
 (x
 :
 Go.TypeId),
 ∃
 (x_22
 :
 Go.Value),
 Go.Value.agg
 (Array.mk
 [x_21]) =
 Go.Value.agg
 (Array.mk
 [Go.Value.iface
 x
 x_22]) ∧
 Go.Pe.pureV
 (6 :
 Nat)
 (Go.Value.agg
 (Array.mk
 [x_21])) =
 Bool.true) ∧
 K
 (Go.Value.bool
 Bool.false)
 (11 :
 Nat))) := by kernel_rfl
theorem makes_fff (K : Value → Nat → Prop) (base : World) (r1 r2 r3 r4 r5 a b c f s o s2 o2 : Int) (r6 z z2 : Bool) :
    funcK (envB (rulesMakes base a b c f (.tuple #[timeC s z o, .bool false]) (timeC s z o) (.tuple #[timeC s2 z2 o2, .bool false]) false )) 30 7 [.agg ⟨[.int .i64 r1, .int .i64 r2, .int .i64 r3, .int .i64 r4, .int .i64 r5, .bool r6]⟩, .int .i64 a, .int .i64 b, .int .i64 c, .int .i64 f] tabs Tryz.prog.globals.size (fun u _ _ mw => K u mw) =
  (Go.Proofs.YteaebpmgbpnbeaaGreatDoor.Same [] [] ∧
 ∀ (y m d s_1 : Int) (z_1 : Bool) (o_1 : Int),
 Go.Proofs.YteaebpmgbpnbeaaGreatDoor.dateOk y m d →
 Go.Proofs.YteaebpmgbpnbeaaGreatDoor.timeOk s_1 z_1 o_1 →
 (List.all [Go.Value.int Go.IntKind.i64 y, Go.Value.int Go.IntKind.i64 m, Go.Value.int Go.IntKind.i64 d, Go.Value.int Go.IntKind.i64 s_1, Go.Value.bool z_1, Go.Value.int Go.IntKind.i64 o_1]
 fun (x : Go.Value) => Go.Value.oneCell' x) =
 Bool.true ∧
 ∀ (x : Go.Value),
 Go.Proofs.YteaebpmgbpnbeaaGreatDoor.isV (Go.Proofs.YteaebpmgbpnbeaaGreatDoor.dateOk y m d ∧ Go.Proofs.YteaebpmgbpnbeaaGreatDoor.timeOk s_1 z_1 o_1)
 (Go.Value.agg
 (Array.mk
 [Go.Value.iface (142 : Nat)
 (Go.Value.agg
 (Array.mk
 [Go.Value.int Go.IntKind.i64 y, Go.Value.int Go.IntKind.i64 m, Go.Value.int Go.IntKind.i64 d, Go.Value.int Go.IntKind.i64 s_1, Go.Value.bool z_1,
 Go.Value.int Go.IntKind.i64 o_1]))]))
 (Go.Value.agg (Array.mk [x])) →
 ∀ (x_1 : Go.Value),
 Go.Proofs.YteaebpmgbpnbeaaGreatDoor.isV (Go.Proofs.YteaebpmgbpnbeaaGreatDoor.dateOk y m d)
 (Go.Value.agg (Array.mk [Go.Value.iface (143 : Nat) (Go.Value.agg (Array.mk [Go.Value.int Go.IntKind.i64 y, Go.Value.int Go.IntKind.i64 m, Go.Value.int Go.IntKind.i64 d]))]))
 (Go.Value.agg (Array.mk [x_1])) →
 ∀ (x_2 : Go.Value),
 Go.Proofs.YteaebpmgbpnbeaaGreatDoor.isV (Go.Proofs.YteaebpmgbpnbeaaGreatDoor.timeOk s_1 z_1 o_1)
 (Go.Value.agg (Array.mk [Go.Value.iface (144 : Nat) (Go.Value.agg (Array.mk [Go.Value.int Go.IntKind.i64 s_1, Go.Value.bool z_1, Go.Value.int Go.IntKind.i64 o_1]))]))
 (Go.Value.agg (Array.mk [x_2])) →
 (List.all [x] fun (x : Go.Value) => Go.Value.oneCell' x) = Bool.true ∧
 (List.all [x_1] fun (x : Go.Value) => Go.Value.oneCell' x) = Bool.true ∧
 (List.all [x_2] fun (x : Go.Value) => Go.Value.oneCell' x) = Bool.true ∧
 (List.all
 [Go.Value.int Go.IntKind.i64 y, Go.Value.int Go.IntKind.i64 m, Go.Value.int Go.IntKind.i64 d, Go.Value.int Go.IntKind.i64 (Int.ofNat (0 : Nat)),
 Go.Value.bool Bool.true, Go.Value.int Go.IntKind.i64 (Int.ofNat (0 : Nat))]
 fun (x : Go.Value) => Go.Value.oneCell' x) =
 Bool.true ∧
 ∃ (x_3 : Go.Value),
 Go.Proofs.YteaebpmgbpnbeaaGreatDoor.Tot base (49 : Nat) [Go.Value.agg (Array.mk [x])] (Go.Value.agg (Array.mk [x_3])) ∧
 x_3 = x_1 ∧
 Go.Proofs.YteaebpmgbpnbeaaGreatDoor.Plainly base (Go.Value.agg (Array.mk [x_3])) ∧
 ∃ (x_4 : Go.Value),
 Go.Proofs.YteaebpmgbpnbeaaGreatDoor.Tot base (49 : Nat) [Go.Value.agg (Array.mk [x_1])] (Go.Value.agg (Array.mk [x_4])) ∧
 x_4 = x_1 ∧
 Go.Proofs.YteaebpmgbpnbeaaGreatDoor.Plainly base (Go.Value.agg (Array.mk [x_4])) ∧
 ∃ (x_5 : Go.Value),
 Go.Proofs.YteaebpmgbpnbeaaGreatDoor.Tot base (50 : Nat) [Go.Value.agg (Array.mk [x])] (Go.Value.agg (Array.mk [x_5])) ∧
 x_5 = x_2 ∧
 Go.Proofs.YteaebpmgbpnbeaaGreatDoor.Plainly base (Go.Value.agg (Array.mk [x_5])) ∧
 ∃ (x_6 : Go.Value),
 Go.Proofs.YteaebpmgbpnbeaaGreatDoor.Tot base (50 : Nat) [Go.Value.agg (Array.mk [x_2])] (Go.Value.agg (Array.mk [x_6])) ∧
 x_6 = x_2 ∧
 Go.Proofs.YteaebpmgbpnbeaaGreatDoor.Plainly base (Go.Value.agg (Array.mk [x_6])) ∧
 ∃ (x_7 : Go.Value),
 Go.Proofs.YteaebpmgbpnbeaaGreatDoor.Tot base (50 : Nat) [Go.Value.agg (Array.mk [x_1])] (Go.Value.agg (Array.mk [x_7])) ∧
 ∀ (x_8 : Go.Value),
 Go.Proofs.YteaebpmgbpnbeaaGreatDoor.isV (Go.Proofs.YteaebpmgbpnbeaaGreatDoor.timeOk (0 : Int) Bool.true (0 : Int))
 (Go.Value.agg
 (Array.mk
 [Go.Value.iface (144 : Nat)
 (Go.Value.agg
 (Array.mk
 [Go.Value.int Go.IntKind.i64 (Int.ofNat (0 : Nat)), Go.Value.bool Bool.true,
 Go.Value.int Go.IntKind.i64 (Int.ofNat (0 : Nat))]))]))
 (Go.Value.agg (Array.mk [x_8])) →
 x_7 = x_8 ∧
 Go.Proofs.YteaebpmgbpnbeaaGreatDoor.Plainly base (Go.Value.agg (Array.mk [x_7])) ∧
 ∃ (x_9 : Go.Value),
 Go.Proofs.YteaebpmgbpnbeaaGreatDoor.Tot base (48 : Nat) [Go.Value.agg (Array.mk [x])] (Go.Value.agg (Array.mk [x_9])) ∧
 x_9 = x ∧
 Go.Proofs.YteaebpmgbpnbeaaGreatDoor.Plainly base (Go.Value.agg (Array.mk [x_9])) ∧
 ∃ (x_10 : Go.Value),
 Go.Proofs.YteaebpmgbpnbeaaGreatDoor.Tot base (48 : Nat) [Go.Value.agg (Array.mk [x_1])]
 (Go.Value.agg (Array.mk [x_10])) ∧
 ∀ (x_11 : Go.Value),
 Go.Proofs.YteaebpmgbpnbeaaGreatDoor.isV
 (Go.Proofs.YteaebpmgbpnbeaaGreatDoor.dateOk y m d ∧
 Go.Proofs.YteaebpmgbpnbeaaGreatDoor.timeOk (0 : Int) Bool.true (0 : Int))
 (Go.Value.agg
 (Array.mk
 [Go.Value.iface (142 : Nat)
 (Go.Value.agg
 (Array.mk
 [Go.Value.int Go.IntKind.i64 y, Go.Value.int Go.IntKind.i64 m, Go.Value.int Go.IntKind.i64 d,
 Go.Value.int Go.IntKind.i64 (Int.ofNat (0 : Nat)), Go.Value.bool Bool.true,
 Go.Value.int Go.IntKind.i64 (Int.ofNat (0 : Nat))]))]))
 (Go.Value.agg (Array.mk [x_11])) →
 x_10 = x_11 ∧
 Go.Proofs.YteaebpmgbpnbeaaGreatDoor.Plainly base (Go.Value.agg (Array.mk [x_10])) ∧
 ∃ (x_12 : Go.Value),
 Go.Proofs.YteaebpmgbpnbeaaGreatDoor.Tot base (63 : Nat)
 [Go.Value.agg (Array.mk [x]), Go.Value.agg (Array.mk [x_2])] (Go.Value.agg (Array.mk [x_12])) ∧
 x_12 = x ∧
 Go.Proofs.YteaebpmgbpnbeaaGreatDoor.Plainly base (Go.Value.agg (Array.mk [x_12])) ∧
 ∃ (x_13 : Go.Value),
 Go.Proofs.YteaebpmgbpnbeaaGreatDoor.Tot base (63 : Nat)
 [Go.Value.agg (Array.mk [x_1]), Go.Value.agg (Array.mk [x_2])]
 (Go.Value.agg (Array.mk [x_13])) ∧
 x_13 = x ∧
 Go.Proofs.YteaebpmgbpnbeaaGreatDoor.Plainly base (Go.Value.agg (Array.mk [x_13])) ∧
 Go.Proofs.YteaebpmgbpnbeaaGreatDoor.rng a ∧
 Go.Proofs.YteaebpmgbpnbeaaGreatDoor.rng b ∧
 Go.Proofs.YteaebpmgbpnbeaaGreatDoor.rng c ∧
 ∃ (x_14 : Go.Value),
 Go.Proofs.YteaebpmgbpnbeaaGreatDoor.Tot base (64 : Nat)
 [Go.Value.agg
 (Array.mk
 [Go.Value.iface (130 : Nat)
 (Go.Value.agg
 (Array.mk
 [Go.Value.bool (Decidable.decide (a < (0 : Int))),
 Go.Value.int Go.IntKind.u64 (Int.ofNat (0 : Nat)),
 Go.Value.int Go.IntKind.u64 (Int.ofNat (Int.natAbs a)),
 Go.Value.int Go.IntKind.i64 (Int.ofNat (0 : Nat))]))]),
 Go.Value.agg
 (Array.mk
 [Go.Value.iface (130 : Nat)
 (Go.Value.agg
 (Array.mk
 [Go.Value.bool (Decidable.decide (b < (0 : Int))),
 Go.Value.int Go.IntKind.u64 (Int.ofNat (0 : Nat)),
 Go.Value.int Go.IntKind.u64 (Int.ofNat (Int.natAbs b)),
 Go.Value.int Go.IntKind.i64 (Int.ofNat (0 : Nat))]))]),
 Go.Value.agg
 (Array.mk
 [Go.Value.iface (130 : Nat)
 (Go.Value.agg
 (Array.mk
 [Go.Value.bool (Decidable.decide (c < (0 : Int))),
 Go.Value.int Go.IntKind.u64 (Int.ofNat (0 : Nat)),
 Go.Value.int Go.IntKind.u64 (Int.ofNat (Int.natAbs c)),
 Go.Value.int Go.IntKind.i64 (Int.ofNat (0 : Nat))]))])]
 (Go.Value.agg (Array.mk [x_14])) ∧
 (List.all [x_14] fun (x : Go.Value) => Go.Value.oneCell' x) = Bool.true ∧
 Go.Proofs.YteaebpmgbpnbeaaGreatDoor.rng a ∧
 Go.Proofs.YteaebpmgbpnbeaaGreatDoor.rng b ∧
 Go.Proofs.YteaebpmgbpnbeaaGreatDoor.rng c ∧
 ∃ (x_15 : Go.Value),
 Go.Proofs.YteaebpmgbpnbeaaGreatDoor.Tot base (66 : Nat)
 [Go.Value.agg
 (Array.mk
 [Go.Value.iface (130 : Nat)
 (Go.Value.agg
 (Array.mk
 [Go.Value.bool (Decidable.decide (a < (0 : Int))),
 Go.Value.int Go.IntKind.u64 (Int.ofNat (0 : Nat)),
 Go.Value.int Go.IntKind.u64
 (Int.ofNat (Int.natAbs a)),
 Go.Value.int Go.IntKind.i64
 (Int.ofNat (0 : Nat))]))]),
 Go.Value.agg
 (Array.mk
 [Go.Value.iface (130 : Nat)
 (Go.Value.agg
 (Array.mk
 [Go.Value.bool (Decidable.decide (b < (0 : Int))),
 Go.Value.int Go.IntKind.u64 (Int.ofNat (0 : Nat)),
 Go.Value.int Go.IntKind.u64
 (Int.ofNat (Int.natAbs b)),
 Go.Value.int Go.IntKind.i64
 (Int.ofNat (0 : Nat))]))]),
 Go.Value.agg
 (Array.mk
 [Go.Value.iface (130 : Nat)
 (Go.Value.agg
 (Array.mk
 [Go.Value.bool (Decidable.decide (c < (0 : Int))),
 Go.Value.int Go.IntKind.u64 (Int.ofNat (0 : Nat)),
 Go.Value.int Go.IntKind.u64
 (Int.ofNat (Int.natAbs c)),
 Go.Value.int Go.IntKind.i64
 (Int.ofNat (0 : Nat))]))]),
 Go.Value.agg (Array.mk [Go.Value.nilIface])]
 (Go.Value.agg (Array.mk [x_15])) ∧
 (List.all [x_15] fun (x : Go.Value) => Go.Value.oneCell' x) =
 Bool.true ∧
 Go.Proofs.YteaebpmgbpnbeaaGreatDoor.rng a ∧
 Go.Proofs.YteaebpmgbpnbeaaGreatDoor.rng b ∧
 Go.Proofs.YteaebpmgbpnbeaaGreatDoor.rng c ∧
 ∀ (x_16 : Go.Value),
 Go.Proofs.YteaebpmgbpnbeaaGreatDoor.isV
 (Go.Proofs.YteaebpmgbpnbeaaGreatDoor.spanOk f)
 (Go.Value.agg
 (Array.mk
 [Go.Value.iface (131 : Nat)
 (Go.Value.int Go.IntKind.i64 f)]))
 (Go.Value.agg (Array.mk [x_16])) →
 ∃ (x_17 : Go.Value),
 Go.Proofs.YteaebpmgbpnbeaaGreatDoor.Tot base
 (66 : Nat)
 [Go.Value.agg
 (Array.mk
 [Go.Value.iface (130 : Nat)
 (Go.Value.agg
 (Array.mk
 [Go.Value.bool
 (Decidable.decide
 (a < (0 : Int))),
 Go.Value.int Go.IntKind.u64
 (Int.ofNat (0 : Nat)),
 Go.Value.int Go.IntKind.u64
 (Int.ofNat (Int.natAbs a)),
 Go.Value.int Go.IntKind.i64
 (Int.ofNat (0 : Nat))]))]),
 Go.Value.agg
 (Array.mk
 [Go.Value.iface (130 : Nat)
 (Go.Value.agg
 (Array.mk
 [Go.Value.bool
 (Decidable.decide
 (b < (0 : Int))),
 Go.Value.int Go.IntKind.u64
 (Int.ofNat (0 : Nat)),
 Go.Value.int Go.IntKind.u64
 (Int.ofNat (Int.natAbs b)),
 Go.Value.int Go.IntKind.i64
 (Int.ofNat (0 : Nat))]))]),
 Go.Value.agg
 (Array.mk
 [Go.Value.iface (130 : Nat)
 (Go.Value.agg
 (Array.mk
 [Go.Value.bool
 (Decidable.decide
 (c < (0 : Int))),
 Go.Value.int Go.IntKind.u64
 (Int.ofNat (0 : Nat)),
 Go.Value.int Go.IntKind.u64
 (Int.ofNat (Int.natAbs c)),
 Go.Value.int Go.IntKind.i64
 (Int.ofNat (0 : Nat))]))]),
 Go.Value.agg (Array.mk [x_16])]
 (Go.Value.agg (Array.mk [x_17])) ∧
 (List.all [x_17] fun (x : Go.Value) =>
 Go.Value.oneCell' x) =
 Bool.true ∧
 Go.Proofs.YteaebpmgbpnbeaaGreatDoor.Same
 [Go.Value.int Go.IntKind.i64 a,
 Go.Value.int Go.IntKind.i64 b,
 Go.Value.int Go.IntKind.i64 c]
 [Go.Value.int Go.IntKind.i64 a,
 Go.Value.int Go.IntKind.i64 b,
 Go.Value.int Go.IntKind.i64 c] ∧
 (List.all
 [Go.Value.int Go.IntKind.i64 s,
 Go.Value.bool z,
 Go.Value.int Go.IntKind.i64 o]
 fun (x : Go.Value) =>
 Go.Value.oneCell' x) =
 Bool.true ∧
 Go.Proofs.YteaebpmgbpnbeaaGreatDoor.Same
 [Go.Value.agg
 (Array.mk
 [Go.Value.int Go.IntKind.i64 s,
 Go.Value.bool z,
 Go.Value.int Go.IntKind.i64 o]),
 Go.Value.int Go.IntKind.i64 f]
 [Go.Value.agg
 (Array.mk
 [Go.Value.int Go.IntKind.i64 s,
 Go.Value.bool z,
 Go.Value.int Go.IntKind.i64 o]),
 Go.Value.int Go.IntKind.i64 f] ∧
 (List.all
 [Go.Value.int Go.IntKind.i64 s2,
 Go.Value.bool z2,
 Go.Value.int Go.IntKind.i64 o2]
 fun (x : Go.Value) =>
 Go.Value.oneCell' x) =
 Bool.true ∧
 ∀ (x_18 : Go.Value),
 Go.Proofs.YteaebpmgbpnbeaaGreatDoor.isV
 (Go.Proofs.YteaebpmgbpnbeaaGreatDoor.timeOk
 s z o)
 (Go.Value.agg
 (Array.mk
 [Go.Value.iface (144 : Nat)
 (Go.Value.agg
 (Array.mk
 [Go.Value.int
 Go.IntKind.i64 s,
 Go.Value.bool z,
 Go.Value.int
 Go.IntKind.i64
 o]))]))
 (Go.Value.agg (Array.mk [x_18])) →
 (List.all [x_18] fun (x : Go.Value) =>
 Go.Value.oneCell' x) =
 Bool.true ∧
 (List.all [Go.Value.nilIface]
 fun (x : Go.Value) =>
 Go.Value.oneCell' x) =
 Bool.true ∧
 ∀ (x_19 : Go.Value),
 Go.Proofs.YteaebpmgbpnbeaaGreatDoor.isV
 (Go.Proofs.YteaebpmgbpnbeaaGreatDoor.timeOk
 s2 z2 o2)
 (Go.Value.agg
 (Array.mk
 [Go.Value.iface
 (144 : Nat)
 (Go.Value.agg
 (Array.mk
 [Go.Value.int
 Go.IntKind.i64
 s2,
 Go.Value.bool
 z2,
 Go.Value.int
 Go.IntKind.i64
 o2]))]))
 (Go.Value.agg
 (Array.mk [x_19])) →
 (List.all [x_19]
 fun (x : Go.Value) =>
 Go.Value.oneCell' x) =
 Bool.true ∧
 (List.all
 [Go.Value.nilIface]
 fun (x : Go.Value) =>
 Go.Value.oneCell' x) =
 Bool.true ∧
 Go.Proofs.YteaebpmgbpnbeaaGreatDoor.Same
 [Go.Value.int
 Go.IntKind.i64 f]
 [Go.Value.int
 Go.IntKind.i64
 f] ∧
 (List.all
 [Go.Value.nilIface]
 fun
 (x :
 Go.Value) =>
 Go.Value.oneCell'
 x) =
 Bool.true ∧
 ∀ (x_20 : Go.Value),
 Go.Proofs.YteaebpmgbpnbeaaGreatDoor.isV
 (Go.Proofs.YteaebpmgbpnbeaaGreatDoor.dateOk
 a b c)
 (Go.Value.agg
 (Array.mk
 [Go.Value.iface
 (143 :
 Nat)
 (Go.Value.agg
 (Array.mk
 [Go.Value.int
 Go.IntKind.i64
 a,
 Go.Value.int
 Go.IntKind.i64
 b,
 Go.Value.int
 Go.IntKind.i64
 c]))]))
 (Go.Value.agg
 (Array.mk
 [x_20])) →
 x_14 = x_20 ∧
 Go.Proofs.YteaebpmgbpnbeaaGreatDoor.Plainly
 base
 (Go.Value.agg
 (Array.mk
 [x_14])) ∧
 x_15 =
 Go.Value.nilIface ∧
 Go.Proofs.YteaebpmgbpnbeaaGreatDoor.Plainly
 base
 (Go.Value.agg
 (Array.mk
 [x_15])) ∧
 x_17 =
 Go.Value.nilIface ∧
 Go.Proofs.YteaebpmgbpnbeaaGreatDoor.Plainly
 base
 (Go.Value.agg
 (Array.mk
 [x_17])) ∧
 ∃
 (x_21
 :
 Go.Value),
 Go.Proofs.YteaebpmgbpnbeaaGreatDoor.Tot
 base
 (64 :
 Nat)
 [Go.Value.agg
 (Array.mk
 [x]),
 Go.Value.agg
 (Array.mk
 [x_1]),
 Go.Value.agg
 (Array.mk
 [x_2])]
 (Go.Value.agg
 (Array.mk
 [x_21])) ∧
 ((Go.Value.agg
 (Array.mk
 [x_21]) =
 Go.Value.agg
 (Array.mk
 [Go.Value.nilIface]) ∧
 ∃
 (x
 :
 Go.Value),
 Go.Proofs.YteaebpmgbpnbeaaGreatDoor.Tot
 base
 (63 :
 Nat)
 [Go.Value.agg
 (Array.mk
 [x_2]),
 Go.Value.agg
 (Array.mk
 [x_1])]
 (Go.Value.agg
 (Array.mk
 [x])) ∧
 (Go.Value.agg
 (Array.mk
 [x]) =
 Go.Value.agg
 (Array.mk
 [Go.Value.nilIface]) ∧
 K
 (Go.Value.bool
 Bool.true)
 (11 :
 Nat) ∨
 (∃
 (x_22
 :
 Go.TypeId),
 ∃
 (x_23
 :
 Go.Value),
 Go.Value.agg
 (Array.mk
 [x]) =
 Go.Value.agg
 (Array.mk
 [Go.Value.iface
 x_22
 x_23]) ∧
 Go.Pe.pureV
 (6 :
 Nat)
 (Go.Value.agg
 (Array.mk
 [x])) =
 Bool.true) ∧
 K
 (Go.Value.bool
 Bool.false)
 (11 :
 Nat))) ∨
 (∃
 (x
 :
 Go.TypeId),
 ∃
 (x_22
 :
 Go.Value),
 Go.Value.agg
 (Array.mk
 [x_21]) =
 Go.Value.agg
 (Array.mk
 [Go.Value.iface
 x
 x_22]) ∧
 Go.Pe.pureV
 (6 :
 Nat)
 (Go.Value.agg
 (Array.mk
 [x_21])) =
 Bool.true) ∧
 K
 (Go.Value.bool
 Bool.false)
 (11 :
 Nat))) := by kernel_rfl

end Go.Proofs.YteaebpmgbpnbeaaGreatDoor
