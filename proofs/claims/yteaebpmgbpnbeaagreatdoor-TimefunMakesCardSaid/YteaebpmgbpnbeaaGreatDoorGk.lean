/-
  The law TimefunLater: what it reckons.
-/
import Derived.Test.YteaebpmgbpnbeaaGreatDoorFd
namespace Go.Proofs.YteaebpmgbpnbeaaGreatDoor
open Go Go.Pe Go.RowKit

def rulesLater (base : World) : List (Nat × Rule) :=
  (10, ruleAt [] (.bool true)) :: (25, ruleMakeD) :: (24, ruleTrue base 24) :: (18, ruleSame' base) ::
  (29, ruleMomE base 29) :: (30, ruleMomE base 30) :: (31, ruleDayE base 31) ::
  (32, ruleDayE base 32) :: (33, ruleTimeE base 33) :: (34, ruleIntE base 34) ::
  (35, ruleDatesB base) :: (36, ruleIntE base 36) :: (37, ruleMbE base) :: (38, ruleEx base 38) ::
  (39, ruleNull) :: rulesC opqK rules4

theorem later_law (K : Value → Nat → Prop) (base : World) (r1 r2 r3 r4 r5 q1 q2 q3 q4 q5 a : Int) (r6 q6 : Bool) :
    funcK (envB (rulesLater base)) 30 4 [.agg ⟨[.int .i64 r1, .int .i64 r2, .int .i64 r3, .int .i64 r4, .int .i64 r5, .bool r6]⟩, .agg ⟨[.int .i64 q1, .int .i64 q2, .int .i64 q3, .int .i64 q4, .int .i64 q5, .bool q6]⟩, .int .i64 a] tabs Tryz.prog.globals.size (fun u _ _ mw => K u mw) =
  (Go.Proofs.YteaebpmgbpnbeaaGreatDoor.Same [] [] ∧
 ∀ (y m d s : Int) (z : Bool) (o : Int),
 Go.Proofs.YteaebpmgbpnbeaaGreatDoor.dateOk y m d →
 Go.Proofs.YteaebpmgbpnbeaaGreatDoor.timeOk s z o →
 ∀ (y_1 m_1 d_1 s_1 : Int) (z_1 : Bool) (o_1 : Int),
 Go.Proofs.YteaebpmgbpnbeaaGreatDoor.dateOk y_1 m_1 d_1 →
 Go.Proofs.YteaebpmgbpnbeaaGreatDoor.timeOk s_1 z_1 o_1 →
 (List.all [Go.Value.int Go.IntKind.i64 y, Go.Value.int Go.IntKind.i64 m, Go.Value.int Go.IntKind.i64 d, Go.Value.int Go.IntKind.i64 s, Go.Value.bool z, Go.Value.int Go.IntKind.i64 o]
 fun (x : Go.Value) => Go.Value.oneCell' x) =
 Bool.true ∧
 (List.all
 [Go.Value.int Go.IntKind.i64 y_1, Go.Value.int Go.IntKind.i64 m_1, Go.Value.int Go.IntKind.i64 d_1, Go.Value.int Go.IntKind.i64 s_1, Go.Value.bool z_1,
 Go.Value.int Go.IntKind.i64 o_1]
 fun (x : Go.Value) => Go.Value.oneCell' x) =
 Bool.true ∧
 ∀ (x : Go.Value),
 Go.Proofs.YteaebpmgbpnbeaaGreatDoor.isV (Go.Proofs.YteaebpmgbpnbeaaGreatDoor.dateOk y m d ∧ Go.Proofs.YteaebpmgbpnbeaaGreatDoor.timeOk s z o)
 (Go.Value.agg
 (Array.mk
 [Go.Value.iface (142 : Nat)
 (Go.Value.agg
 (Array.mk
 [Go.Value.int Go.IntKind.i64 y, Go.Value.int Go.IntKind.i64 m, Go.Value.int Go.IntKind.i64 d, Go.Value.int Go.IntKind.i64 s, Go.Value.bool z,
 Go.Value.int Go.IntKind.i64 o]))]))
 (Go.Value.agg (Array.mk [x])) →
 ∀ (x_1 : Go.Value),
 Go.Proofs.YteaebpmgbpnbeaaGreatDoor.isV (Go.Proofs.YteaebpmgbpnbeaaGreatDoor.dateOk y m d)
 (Go.Value.agg
 (Array.mk [Go.Value.iface (143 : Nat) (Go.Value.agg (Array.mk [Go.Value.int Go.IntKind.i64 y, Go.Value.int Go.IntKind.i64 m, Go.Value.int Go.IntKind.i64 d]))]))
 (Go.Value.agg (Array.mk [x_1])) →
 ∀ (x_2 : Go.Value),
 Go.Proofs.YteaebpmgbpnbeaaGreatDoor.isV (Go.Proofs.YteaebpmgbpnbeaaGreatDoor.timeOk s z o)
 (Go.Value.agg (Array.mk [Go.Value.iface (144 : Nat) (Go.Value.agg (Array.mk [Go.Value.int Go.IntKind.i64 s, Go.Value.bool z, Go.Value.int Go.IntKind.i64 o]))]))
 (Go.Value.agg (Array.mk [x_2])) →
 (List.all [x] fun (x : Go.Value) => Go.Value.oneCell' x) = Bool.true ∧
 (List.all [x_1] fun (x : Go.Value) => Go.Value.oneCell' x) = Bool.true ∧
 (List.all [x_2] fun (x : Go.Value) => Go.Value.oneCell' x) = Bool.true ∧
 ∀ (x_3 : Go.Value),
 Go.Proofs.YteaebpmgbpnbeaaGreatDoor.isV (Go.Proofs.YteaebpmgbpnbeaaGreatDoor.spanOk (Int.tmod a (9007199254740992 : Int)))
 (Go.Value.agg (Array.mk [Go.Value.iface (131 : Nat) (Go.Value.int Go.IntKind.i64 (Int.tmod a (9007199254740992 : Int)))])) (Go.Value.agg (Array.mk [x_3])) →
 ∀ (x_4 : Go.Value),
 Go.Proofs.YteaebpmgbpnbeaaGreatDoor.isV (Go.Proofs.YteaebpmgbpnbeaaGreatDoor.spanOk (Int.tmod a (9007199254740992 : Int)))
 (Go.Value.agg (Array.mk [Go.Value.iface (132 : Nat) (Go.Value.int Go.IntKind.i64 (Int.tmod a (9007199254740992 : Int)))]))
 (Go.Value.agg (Array.mk [x_4])) →
 (List.all [x_3] fun (x : Go.Value) => Go.Value.oneCell' x) = Bool.true ∧
 (List.all [x_4] fun (x : Go.Value) => Go.Value.oneCell' x) = Bool.true ∧
 Go.Proofs.YteaebpmgbpnbeaaGreatDoor.MomE base (29 : Nat)
 [Go.Value.agg
 (Array.mk
 [Go.Value.int Go.IntKind.i64 y, Go.Value.int Go.IntKind.i64 m, Go.Value.int Go.IntKind.i64 d, Go.Value.int Go.IntKind.i64 s, Go.Value.bool z,
 Go.Value.int Go.IntKind.i64 o]),
 Go.Value.int Go.IntKind.i64 (Int.tmod a (9007199254740992 : Int))] ∧
 ∀ (y_2 m_2 d_2 s_2 : Int) (z_2 : Bool) (o_2 : Int) (b : Bool),
 (b = Bool.true → Go.Proofs.YteaebpmgbpnbeaaGreatDoor.dateOk y_2 m_2 d_2 ∧ Go.Proofs.YteaebpmgbpnbeaaGreatDoor.timeOk s_2 z_2 o_2) →
 Go.Proofs.YteaebpmgbpnbeaaGreatDoor.Tot base (29 : Nat)
 [Go.Value.agg
 (Array.mk
 [Go.Value.int Go.IntKind.i64 y, Go.Value.int Go.IntKind.i64 m, Go.Value.int Go.IntKind.i64 d, Go.Value.int Go.IntKind.i64 s,
 Go.Value.bool z, Go.Value.int Go.IntKind.i64 o]),
 Go.Value.int Go.IntKind.i64 (Int.tmod a (9007199254740992 : Int))]
 (Go.Value.tuple
 (Array.mk
 [Go.Value.agg
 (Array.mk
 [Go.Value.int Go.IntKind.i64 y_2, Go.Value.int Go.IntKind.i64 m_2, Go.Value.int Go.IntKind.i64 d_2, Go.Value.int Go.IntKind.i64 s_2,
 Go.Value.bool z_2, Go.Value.int Go.IntKind.i64 o_2]),
 Go.Value.bool b])) →
 (List.all
 [Go.Value.int Go.IntKind.i64 y_2, Go.Value.int Go.IntKind.i64 m_2, Go.Value.int Go.IntKind.i64 d_2, Go.Value.int Go.IntKind.i64 s_2,
 Go.Value.bool z_2, Go.Value.int Go.IntKind.i64 o_2]
 fun (x : Go.Value) => Go.Value.oneCell' x) =
 Bool.true ∧
 Go.Proofs.YteaebpmgbpnbeaaGreatDoor.MomE base (30 : Nat)
 [Go.Value.agg
 (Array.mk
 [Go.Value.int Go.IntKind.i64 y, Go.Value.int Go.IntKind.i64 m, Go.Value.int Go.IntKind.i64 d, Go.Value.int Go.IntKind.i64 s,
 Go.Value.bool z, Go.Value.int Go.IntKind.i64 o]),
 Go.Value.int Go.IntKind.i64 (Int.tmod a (9007199254740992 : Int))] ∧
 ∀ (y_3 m_3 d_3 s_3 : Int) (z_3 : Bool) (o_3 : Int) (b_1 : Bool),
 (b_1 = Bool.true → Go.Proofs.YteaebpmgbpnbeaaGreatDoor.dateOk y_3 m_3 d_3 ∧ Go.Proofs.YteaebpmgbpnbeaaGreatDoor.timeOk s_3 z_3 o_3) →
 Go.Proofs.YteaebpmgbpnbeaaGreatDoor.Tot base (30 : Nat)
 [Go.Value.agg
 (Array.mk
 [Go.Value.int Go.IntKind.i64 y, Go.Value.int Go.IntKind.i64 m, Go.Value.int Go.IntKind.i64 d, Go.Value.int Go.IntKind.i64 s,
 Go.Value.bool z, Go.Value.int Go.IntKind.i64 o]),
 Go.Value.int Go.IntKind.i64 (Int.tmod a (9007199254740992 : Int))]
 (Go.Value.tuple
 (Array.mk
 [Go.Value.agg
 (Array.mk
 [Go.Value.int Go.IntKind.i64 y_3, Go.Value.int Go.IntKind.i64 m_3, Go.Value.int Go.IntKind.i64 d_3,
 Go.Value.int Go.IntKind.i64 s_3, Go.Value.bool z_3, Go.Value.int Go.IntKind.i64 o_3]),
 Go.Value.bool b_1])) →
 (List.all
 [Go.Value.int Go.IntKind.i64 y_3, Go.Value.int Go.IntKind.i64 m_3, Go.Value.int Go.IntKind.i64 d_3,
 Go.Value.int Go.IntKind.i64 s_3, Go.Value.bool z_3, Go.Value.int Go.IntKind.i64 o_3]
 fun (x : Go.Value) => Go.Value.oneCell' x) =
 Bool.true ∧
 Go.Proofs.YteaebpmgbpnbeaaGreatDoor.DayE base (31 : Nat)
 [Go.Value.agg (Array.mk [Go.Value.int Go.IntKind.i64 y, Go.Value.int Go.IntKind.i64 m, Go.Value.int Go.IntKind.i64 d]),
 Go.Value.int Go.IntKind.i64 (Int.tmod a (9007199254740992 : Int))] ∧
 ∀ (y_4 m_4 d_4 : Int) (b_2 : Bool),
 (b_2 = Bool.true → Go.Proofs.YteaebpmgbpnbeaaGreatDoor.dateOk y_4 m_4 d_4) →
 Go.Proofs.YteaebpmgbpnbeaaGreatDoor.Tot base (31 : Nat)
 [Go.Value.agg (Array.mk [Go.Value.int Go.IntKind.i64 y, Go.Value.int Go.IntKind.i64 m, Go.Value.int Go.IntKind.i64 d]),
 Go.Value.int Go.IntKind.i64 (Int.tmod a (9007199254740992 : Int))]
 (Go.Value.tuple
 (Array.mk
 [Go.Value.agg
 (Array.mk [Go.Value.int Go.IntKind.i64 y_4, Go.Value.int Go.IntKind.i64 m_4, Go.Value.int Go.IntKind.i64 d_4]),
 Go.Value.bool b_2])) →
 (List.all [Go.Value.int Go.IntKind.i64 y_4, Go.Value.int Go.IntKind.i64 m_4, Go.Value.int Go.IntKind.i64 d_4]
 fun (x : Go.Value) => Go.Value.oneCell' x) =
 Bool.true ∧
 Go.Proofs.YteaebpmgbpnbeaaGreatDoor.DayE base (32 : Nat)
 [Go.Value.agg
 (Array.mk [Go.Value.int Go.IntKind.i64 y, Go.Value.int Go.IntKind.i64 m, Go.Value.int Go.IntKind.i64 d]),
 Go.Value.int Go.IntKind.i64 (Int.tmod a (9007199254740992 : Int))] ∧
 ∀ (y_5 m_5 d_5 : Int) (b_3 : Bool),
 (b_3 = Bool.true → Go.Proofs.YteaebpmgbpnbeaaGreatDoor.dateOk y_5 m_5 d_5) →
 Go.Proofs.YteaebpmgbpnbeaaGreatDoor.Tot base (32 : Nat)
 [Go.Value.agg
 (Array.mk [Go.Value.int Go.IntKind.i64 y, Go.Value.int Go.IntKind.i64 m, Go.Value.int Go.IntKind.i64 d]),
 Go.Value.int Go.IntKind.i64 (Int.tmod a (9007199254740992 : Int))]
 (Go.Value.tuple
 (Array.mk
 [Go.Value.agg
 (Array.mk
 [Go.Value.int Go.IntKind.i64 y_5, Go.Value.int Go.IntKind.i64 m_5, Go.Value.int Go.IntKind.i64 d_5]),
 Go.Value.bool b_3])) →
 (List.all [Go.Value.int Go.IntKind.i64 y_5, Go.Value.int Go.IntKind.i64 m_5, Go.Value.int Go.IntKind.i64 d_5]
 fun (x : Go.Value) => Go.Value.oneCell' x) =
 Bool.true ∧
 Go.Proofs.YteaebpmgbpnbeaaGreatDoor.TimeE base (33 : Nat)
 [Go.Value.agg (Array.mk [Go.Value.int Go.IntKind.i64 s, Go.Value.bool z, Go.Value.int Go.IntKind.i64 o]),
 Go.Value.int Go.IntKind.i64 (Int.tmod a (9007199254740992 : Int))] ∧
 ∀ (s_4 : Int) (z_4 : Bool) (o_4 k : Int),
 Go.Proofs.YteaebpmgbpnbeaaGreatDoor.timeOk s_4 z_4 o_4 →
 Go.Proofs.YteaebpmgbpnbeaaGreatDoor.Tot base (33 : Nat)
 [Go.Value.agg
 (Array.mk [Go.Value.int Go.IntKind.i64 s, Go.Value.bool z, Go.Value.int Go.IntKind.i64 o]),
 Go.Value.int Go.IntKind.i64 (Int.tmod a (9007199254740992 : Int))]
 (Go.Value.tuple
 (Array.mk
 [Go.Value.agg
 (Array.mk
 [Go.Value.int Go.IntKind.i64 s_4, Go.Value.bool z_4, Go.Value.int Go.IntKind.i64 o_4]),
 Go.Value.int Go.IntKind.i64 k])) →
 (List.all [Go.Value.int Go.IntKind.i64 s_4, Go.Value.bool z_4, Go.Value.int Go.IntKind.i64 o_4]
 fun (x : Go.Value) => Go.Value.oneCell' x) =
 Bool.true ∧
 Go.Proofs.YteaebpmgbpnbeaaGreatDoor.TimeE base (33 : Nat)
 [Go.Value.agg
 (Array.mk [Go.Value.int Go.IntKind.i64 s, Go.Value.bool z, Go.Value.int Go.IntKind.i64 o]),
 Go.Value.int Go.IntKind.i64
 (Go.IntKind.wrap Go.IntKind.i64 ((0 : Int) - Int.tmod a (9007199254740992 : Int)))] ∧
 ∀ (s_5 : Int) (z_5 : Bool) (o_5 k : Int),
 Go.Proofs.YteaebpmgbpnbeaaGreatDoor.timeOk s_5 z_5 o_5 →
 Go.Proofs.YteaebpmgbpnbeaaGreatDoor.Tot base (33 : Nat)
 [Go.Value.agg
 (Array.mk
 [Go.Value.int Go.IntKind.i64 s, Go.Value.bool z, Go.Value.int Go.IntKind.i64 o]),
 Go.Value.int Go.IntKind.i64
 (Go.IntKind.wrap Go.IntKind.i64 ((0 : Int) - Int.tmod a (9007199254740992 : Int)))]
 (Go.Value.tuple
 (Array.mk
 [Go.Value.agg
 (Array.mk
 [Go.Value.int Go.IntKind.i64 s_5, Go.Value.bool z_5,
 Go.Value.int Go.IntKind.i64 o_5]),
 Go.Value.int Go.IntKind.i64 k])) →
 (List.all
 [Go.Value.int Go.IntKind.i64 s_5, Go.Value.bool z_5, Go.Value.int Go.IntKind.i64 o_5]
 fun (x : Go.Value) => Go.Value.oneCell' x) =
 Bool.true ∧
 ∀ (x_5 : Go.Value),
 Go.Proofs.YteaebpmgbpnbeaaGreatDoor.isV
 (Go.Proofs.YteaebpmgbpnbeaaGreatDoor.dateOk y_2 m_2 d_2 ∧
 Go.Proofs.YteaebpmgbpnbeaaGreatDoor.timeOk s_2 z_2 o_2)
 (Go.Value.agg
 (Array.mk
 [Go.Value.iface (142 : Nat)
 (Go.Value.agg
 (Array.mk
 [Go.Value.int Go.IntKind.i64 y_2, Go.Value.int Go.IntKind.i64 m_2,
 Go.Value.int Go.IntKind.i64 d_2, Go.Value.int Go.IntKind.i64 s_2,
 Go.Value.bool z_2, Go.Value.int Go.IntKind.i64 o_2]))]))
 (Go.Value.agg (Array.mk [x_5])) →
 Go.Proofs.YteaebpmgbpnbeaaGreatDoor.Tot base (24 : Nat)
 [Go.Value.string (ByteArray.mk #[(43 : UInt8)]), Go.Value.agg (Array.mk [x]),
 Go.Value.agg (Array.mk [x_3]), Go.Value.agg (Array.mk [x_5]), Go.Value.bool b]
 (Go.Value.bool Bool.true) ∧
 ∀ (x_6 : Go.Value),
 Go.Proofs.YteaebpmgbpnbeaaGreatDoor.isV
 (Go.Proofs.YteaebpmgbpnbeaaGreatDoor.dateOk y_2 m_2 d_2 ∧
 Go.Proofs.YteaebpmgbpnbeaaGreatDoor.timeOk s_2 z_2 o_2)
 (Go.Value.agg
 (Array.mk
 [Go.Value.iface (142 : Nat)
 (Go.Value.agg
 (Array.mk
 [Go.Value.int Go.IntKind.i64 y_2, Go.Value.int Go.IntKind.i64 m_2,
 Go.Value.int Go.IntKind.i64 d_2, Go.Value.int Go.IntKind.i64 s_2,
 Go.Value.bool z_2, Go.Value.int Go.IntKind.i64 o_2]))]))
 (Go.Value.agg (Array.mk [x_6])) →
 Go.Proofs.YteaebpmgbpnbeaaGreatDoor.Tot base (24 : Nat)
 [Go.Value.string (ByteArray.mk #[(43 : UInt8)]),
 Go.Value.agg (Array.mk [x_3]), Go.Value.agg (Array.mk [x]),
 Go.Value.agg (Array.mk [x_6]), Go.Value.bool b]
 (Go.Value.bool Bool.true) ∧
 ∀ (x_7 : Go.Value),
 Go.Proofs.YteaebpmgbpnbeaaGreatDoor.isV
 (Go.Proofs.YteaebpmgbpnbeaaGreatDoor.dateOk y_3 m_3 d_3 ∧
 Go.Proofs.YteaebpmgbpnbeaaGreatDoor.timeOk s_3 z_3 o_3)
 (Go.Value.agg
 (Array.mk
 [Go.Value.iface (142 : Nat)
 (Go.Value.agg
 (Array.mk
 [Go.Value.int Go.IntKind.i64 y_3,
 Go.Value.int Go.IntKind.i64 m_3,
 Go.Value.int Go.IntKind.i64 d_3,
 Go.Value.int Go.IntKind.i64 s_3, Go.Value.bool z_3,
 Go.Value.int Go.IntKind.i64 o_3]))]))
 (Go.Value.agg (Array.mk [x_7])) →
 Go.Proofs.YteaebpmgbpnbeaaGreatDoor.Tot base (24 : Nat)
 [Go.Value.string (ByteArray.mk #[(43 : UInt8)]),
 Go.Value.agg (Array.mk [x]), Go.Value.agg (Array.mk [x_4]),
 Go.Value.agg (Array.mk [x_7]), Go.Value.bool b_1]
 (Go.Value.bool Bool.true) ∧
 ∀ (x_8 : Go.Value),
 Go.Proofs.YteaebpmgbpnbeaaGreatDoor.isV
 (Go.Proofs.YteaebpmgbpnbeaaGreatDoor.dateOk y_4 m_4 d_4)
 (Go.Value.agg
 (Array.mk
 [Go.Value.iface (143 : Nat)
 (Go.Value.agg
 (Array.mk
 [Go.Value.int Go.IntKind.i64 y_4,
 Go.Value.int Go.IntKind.i64 m_4,
 Go.Value.int Go.IntKind.i64 d_4]))]))
 (Go.Value.agg (Array.mk [x_8])) →
 Go.Proofs.YteaebpmgbpnbeaaGreatDoor.Tot base (24 : Nat)
 [Go.Value.string (ByteArray.mk #[(43 : UInt8)]),
 Go.Value.agg (Array.mk [x_1]), Go.Value.agg (Array.mk [x_3]),
 Go.Value.agg (Array.mk [x_8]), Go.Value.bool b_2]
 (Go.Value.bool Bool.true) ∧
 ∀ (x_9 : Go.Value),
 Go.Proofs.YteaebpmgbpnbeaaGreatDoor.isV
 (Go.Proofs.YteaebpmgbpnbeaaGreatDoor.dateOk y_5 m_5 d_5)
 (Go.Value.agg
 (Array.mk
 [Go.Value.iface (143 : Nat)
 (Go.Value.agg
 (Array.mk
 [Go.Value.int Go.IntKind.i64 y_5,
 Go.Value.int Go.IntKind.i64 m_5,
 Go.Value.int Go.IntKind.i64 d_5]))]))
 (Go.Value.agg (Array.mk [x_9])) →
 Go.Proofs.YteaebpmgbpnbeaaGreatDoor.Tot base (24 : Nat)
 [Go.Value.string (ByteArray.mk #[(43 : UInt8)]),
 Go.Value.agg (Array.mk [x_4]),
 Go.Value.agg (Array.mk [x_1]),
 Go.Value.agg (Array.mk [x_9]), Go.Value.bool b_3]
 (Go.Value.bool Bool.true) ∧
 ∀ (x_10 : Go.Value),
 Go.Proofs.YteaebpmgbpnbeaaGreatDoor.isV
 (Go.Proofs.YteaebpmgbpnbeaaGreatDoor.timeOk s_4 z_4 o_4)
 (Go.Value.agg
 (Array.mk
 [Go.Value.iface (144 : Nat)
 (Go.Value.agg
 (Array.mk
 [Go.Value.int Go.IntKind.i64 s_4,
 Go.Value.bool z_4,
 Go.Value.int Go.IntKind.i64 o_4]))]))
 (Go.Value.agg (Array.mk [x_10])) →
 Go.Proofs.YteaebpmgbpnbeaaGreatDoor.Tot base (24 : Nat)
 [Go.Value.string (ByteArray.mk #[(43 : UInt8)]),
 Go.Value.agg (Array.mk [x_2]),
 Go.Value.agg (Array.mk [x_3]),
 Go.Value.agg (Array.mk [x_10]),
 Go.Value.bool Bool.true]
 (Go.Value.bool Bool.true) ∧
 ∀ (x_11 : Go.Value),
 Go.Proofs.YteaebpmgbpnbeaaGreatDoor.isV
 (Go.Proofs.YteaebpmgbpnbeaaGreatDoor.timeOk s_5
 z_5 o_5)
 (Go.Value.agg
 (Array.mk
 [Go.Value.iface (144 : Nat)
 (Go.Value.agg
 (Array.mk
 [Go.Value.int Go.IntKind.i64 s_5,
 Go.Value.bool z_5,
 Go.Value.int Go.IntKind.i64
 o_5]))]))
 (Go.Value.agg (Array.mk [x_11])) →
 Go.Proofs.YteaebpmgbpnbeaaGreatDoor.Tot base
 (24 : Nat)
 [Go.Value.string (ByteArray.mk #[(45 : UInt8)]),
 Go.Value.agg (Array.mk [x_2]),
 Go.Value.agg (Array.mk [x_3]),
 Go.Value.agg (Array.mk [x_11]),
 Go.Value.bool Bool.true]
 (Go.Value.bool Bool.true) ∧
 Go.Proofs.YteaebpmgbpnbeaaGreatDoor.Tot base
 (24 : Nat)
 [Go.Value.string
 (ByteArray.mk #[(43 : UInt8)]),
 Go.Value.agg (Array.mk [x_2]),
 Go.Value.agg (Array.mk [x_4]),
 Go.Value.agg (Array.mk [x_2]),
 Go.Value.bool Bool.false]
 (Go.Value.bool Bool.true) ∧
 ∀ (x_12 : Go.Value),
 Go.Proofs.YteaebpmgbpnbeaaGreatDoor.isV
 (Go.Proofs.YteaebpmgbpnbeaaGreatDoor.dateOk
 y_1 m_1 d_1 ∧
 Go.Proofs.YteaebpmgbpnbeaaGreatDoor.timeOk
 s_1 z_1 o_1)
 (Go.Value.agg
 (Array.mk
 [Go.Value.iface (142 : Nat)
 (Go.Value.agg
 (Array.mk
 [Go.Value.int Go.IntKind.i64
 y_1,
 Go.Value.int Go.IntKind.i64
 m_1,
 Go.Value.int Go.IntKind.i64
 d_1,
 Go.Value.int Go.IntKind.i64
 s_1,
 Go.Value.bool z_1,
 Go.Value.int Go.IntKind.i64
 o_1]))]))
 (Go.Value.agg (Array.mk [x_12])) →
 ∀ (x_13 : Go.Value),
 Go.Proofs.YteaebpmgbpnbeaaGreatDoor.isV
 (Go.Proofs.YteaebpmgbpnbeaaGreatDoor.dateOk
 y_1 m_1 d_1)
 (Go.Value.agg
 (Array.mk
 [Go.Value.iface (143 : Nat)
 (Go.Value.agg
 (Array.mk
 [Go.Value.int
 Go.IntKind.i64 y_1,
 Go.Value.int
 Go.IntKind.i64 m_1,
 Go.Value.int
 Go.IntKind.i64
 d_1]))]))
 (Go.Value.agg (Array.mk [x_13])) →
 ∀ (x_14 : Go.Value),
 Go.Proofs.YteaebpmgbpnbeaaGreatDoor.isV
 (Go.Proofs.YteaebpmgbpnbeaaGreatDoor.timeOk
 s_1 z_1 o_1)
 (Go.Value.agg
 (Array.mk
 [Go.Value.iface (144 : Nat)
 (Go.Value.agg
 (Array.mk
 [Go.Value.int
 Go.IntKind.i64
 s_1,
 Go.Value.bool z_1,
 Go.Value.int
 Go.IntKind.i64
 o_1]))]))
 (Go.Value.agg (Array.mk [x_14])) →
 (List.all [x_12]
 fun (x : Go.Value) =>
 Go.Value.oneCell' x) =
 Bool.true ∧
 (List.all [x_13]
 fun (x : Go.Value) =>
 Go.Value.oneCell' x) =
 Bool.true ∧
 (List.all [x_14]
 fun (x : Go.Value) =>
 Go.Value.oneCell' x) =
 Bool.true ∧
 Go.Proofs.YteaebpmgbpnbeaaGreatDoor.IntE
 base (34 : Nat)
 [Go.Value.agg
 (Array.mk
 [Go.Value.int
 Go.IntKind.i64
 y_1,
 Go.Value.int
 Go.IntKind.i64
 m_1,
 Go.Value.int
 Go.IntKind.i64
 d_1,
 Go.Value.int
 Go.IntKind.i64
 s_1,
 Go.Value.bool z_1,
 Go.Value.int
 Go.IntKind.i64
 o_1]),
 Go.Value.agg
 (Array.mk
 [Go.Value.int
 Go.IntKind.i64
 y,
 Go.Value.int
 Go.IntKind.i64
 m,
 Go.Value.int
 Go.IntKind.i64
 d,
 Go.Value.int
 Go.IntKind.i64
 s,
 Go.Value.bool z,
 Go.Value.int
 Go.IntKind.i64
 o])] ∧
 ∀ (k : Int) (b : Bool),
 Go.Proofs.YteaebpmgbpnbeaaGreatDoor.Tot
 base (34 : Nat)
 [Go.Value.agg
 (Array.mk
 [Go.Value.int
 Go.IntKind.i64
 y_1,
 Go.Value.int
 Go.IntKind.i64
 m_1,
 Go.Value.int
 Go.IntKind.i64
 d_1,
 Go.Value.int
 Go.IntKind.i64
 s_1,
 Go.Value.bool
 z_1,
 Go.Value.int
 Go.IntKind.i64
 o_1]),
 Go.Value.agg
 (Array.mk
 [Go.Value.int
 Go.IntKind.i64
 y,
 Go.Value.int
 Go.IntKind.i64
 m,
 Go.Value.int
 Go.IntKind.i64
 d,
 Go.Value.int
 Go.IntKind.i64
 s,
 Go.Value.bool
 z,
 Go.Value.int
 Go.IntKind.i64
 o])]
 (Go.Value.tuple
 (Array.mk
 [Go.Value.int
 Go.IntKind.i64
 k,
 Go.Value.bool
 b])) →
 (Go.Proofs.YteaebpmgbpnbeaaGreatDoor.dateOk
 y_1 m_1 d_1 ∧
 Go.Proofs.YteaebpmgbpnbeaaGreatDoor.dateOk
 y m d) ∧
 ∀ (k_1 : Int),
 Go.Proofs.YteaebpmgbpnbeaaGreatDoor.Tot
 base (34 : Nat)
 [Go.Value.agg
 (Array.mk
 [Go.Value.int
 Go.IntKind.i64
 y_1,
 Go.Value.int
 Go.IntKind.i64
 m_1,
 Go.Value.int
 Go.IntKind.i64
 d_1,
 Go.Value.int
 Go.IntKind.i64
 (Int.ofNat
 (0 :
 Nat)),
 Go.Value.bool
 Bool.true,
 Go.Value.int
 Go.IntKind.i64
 (Int.ofNat
 (0 :
 Nat))]),
 Go.Value.agg
 (Array.mk
 [Go.Value.int
 Go.IntKind.i64
 y,
 Go.Value.int
 Go.IntKind.i64
 m,
 Go.Value.int
 Go.IntKind.i64
 d,
 Go.Value.int
 Go.IntKind.i64
 (Int.ofNat
 (0 :
 Nat)),
 Go.Value.bool
 Bool.true,
 Go.Value.int
 Go.IntKind.i64
 (Int.ofNat
 (0 :
 Nat))])]
 (Go.Value.tuple
 (Array.mk
 [Go.Value.int
 Go.IntKind.i64
 k_1,
 Go.Value.bool
 Bool.true])) →
 Go.Proofs.YteaebpmgbpnbeaaGreatDoor.IntE
 base
 (36 : Nat)
 [Go.Value.agg
 (Array.mk
 [Go.Value.int
 Go.IntKind.i64
 s_1,
 Go.Value.bool
 z_1,
 Go.Value.int
 Go.IntKind.i64
 o_1]),
 Go.Value.agg
 (Array.mk
 [Go.Value.int
 Go.IntKind.i64
 s,
 Go.Value.bool
 z,
 Go.Value.int
 Go.IntKind.i64
 o])] ∧
 ∀ (k_2 : Int)
 (b_4 : Bool),
 Go.Proofs.YteaebpmgbpnbeaaGreatDoor.Tot
 base
 (36 : Nat)
 [Go.Value.agg
 (Array.mk
 [Go.Value.int
 Go.IntKind.i64
 s_1,
 Go.Value.bool
 z_1,
 Go.Value.int
 Go.IntKind.i64
 o_1]),
 Go.Value.agg
 (Array.mk
 [Go.Value.int
 Go.IntKind.i64
 s,
 Go.Value.bool
 z,
 Go.Value.int
 Go.IntKind.i64
 o])]
 (Go.Value.tuple
 (Array.mk
 [Go.Value.int
 Go.IntKind.i64
 k_2,
 Go.Value.bool
 b_4])) →
 (List.all
 [Go.Value.int
 Go.IntKind.i64
 y_1,
 Go.Value.int
 Go.IntKind.i64
 m_1,
 Go.Value.int
 Go.IntKind.i64
 d_1,
 Go.Value.int
 Go.IntKind.i64
 (Int.ofNat
 (0 :
 Nat)),
 Go.Value.bool
 Bool.true,
 Go.Value.int
 Go.IntKind.i64
 (Int.ofNat
 (0 :
 Nat))]
 fun
 (x :
 Go.Value) =>
 Go.Value.oneCell'
 x) =
 Bool.true ∧
 Go.Proofs.YteaebpmgbpnbeaaGreatDoor.IntE
 base
 (34 :
 Nat)
 [Go.Value.agg
 (Array.mk
 [Go.Value.int
 Go.IntKind.i64
 y_1,
 Go.Value.int
 Go.IntKind.i64
 m_1,
 Go.Value.int
 Go.IntKind.i64
 d_1,
 Go.Value.int
 Go.IntKind.i64
 (Int.ofNat
 (0 :
 Nat)),
 Go.Value.bool
 Bool.true,
 Go.Value.int
 Go.IntKind.i64
 (Int.ofNat
 (0 :
 Nat))]),
 Go.Value.agg
 (Array.mk
 [Go.Value.int
 Go.IntKind.i64
 y,
 Go.Value.int
 Go.IntKind.i64
 m,
 Go.Value.int
 Go.IntKind.i64
 d,
 Go.Value.int
 Go.IntKind.i64
 s,
 Go.Value.bool
 z,
 Go.Value.int
 Go.IntKind.i64
 o])] ∧
 ∀
 (k_3 :
 Int)
 (b_5 :
 Bool),
 Go.Proofs.YteaebpmgbpnbeaaGreatDoor.Tot
 base
 (34 :
 Nat)
 [Go.Value.agg
 (Array.mk
 [Go.Value.int
 Go.IntKind.i64
 y_1,
 Go.Value.int
 Go.IntKind.i64
 m_1,
 Go.Value.int
 Go.IntKind.i64
 d_1,
 Go.Value.int
 Go.IntKind.i64
 (Int.ofNat
 (0 :
 Nat)),
 Go.Value.bool
 Bool.true,
 Go.Value.int
 Go.IntKind.i64
 (Int.ofNat
 (0 :
 Nat))]),
 Go.Value.agg
 (Array.mk
 [Go.Value.int
 Go.IntKind.i64
 y,
 Go.Value.int
 Go.IntKind.i64
 m,
 Go.Value.int
 Go.IntKind.i64
 d,
 Go.Value.int
 Go.IntKind.i64
 s,
 Go.Value.bool
 z,
 Go.Value.int
 Go.IntKind.i64
 o])]
 (Go.Value.tuple
 (Array.mk
 [Go.Value.int
 Go.IntKind.i64
 k_3,
 Go.Value.bool
 b_5])) →
 Go.Proofs.YteaebpmgbpnbeaaGreatDoor.MbE
 base
 [Go.Value.agg
 (Array.mk
 [Go.Value.int
 Go.IntKind.i64
 y_1,
 Go.Value.int
 Go.IntKind.i64
 m_1,
 Go.Value.int
 Go.IntKind.i64
 d_1,
 Go.Value.int
 Go.IntKind.i64
 s_1,
 Go.Value.bool
 z_1,
 Go.Value.int
 Go.IntKind.i64
 o_1]),
 Go.Value.agg
 (Array.mk
 [Go.Value.int
 Go.IntKind.i64
 y,
 Go.Value.int
 Go.IntKind.i64
 m,
 Go.Value.int
 Go.IntKind.i64
 d,
 Go.Value.int
 Go.IntKind.i64
 s,
 Go.Value.bool
 z,
 Go.Value.int
 Go.IntKind.i64
 o])] ∧
 (∀
 (k_4 :
 Int),
 Go.Proofs.YteaebpmgbpnbeaaGreatDoor.monthsB
 k_4 →
 Go.Proofs.YteaebpmgbpnbeaaGreatDoor.Tot
 base
 (37 :
 Nat)
 [Go.Value.agg
 (Array.mk
 [Go.Value.int
 Go.IntKind.i64
 y_1,
 Go.Value.int
 Go.IntKind.i64
 m_1,
 Go.Value.int
 Go.IntKind.i64
 d_1,
 Go.Value.int
 Go.IntKind.i64
 s_1,
 Go.Value.bool
 z_1,
 Go.Value.int
 Go.IntKind.i64
 o_1]),
 Go.Value.agg
 (Array.mk
 [Go.Value.int
 Go.IntKind.i64
 y,
 Go.Value.int
 Go.IntKind.i64
 m,
 Go.Value.int
 Go.IntKind.i64
 d,
 Go.Value.int
 Go.IntKind.i64
 s,
 Go.Value.bool
 z,
 Go.Value.int
 Go.IntKind.i64
 o])]
 (Go.Value.tuple
 (Array.mk
 [Go.Value.int
 Go.IntKind.i64
 k_4,
 Go.Value.bool
 Bool.true])) →
 ∃
 (x_15
 :
 Go.Value),
 Go.Proofs.YteaebpmgbpnbeaaGreatDoor.Tot
 base
 (38 :
 Nat)
 [Go.Value.agg
 (Array.mk
 [x_12]),
 Go.Value.agg
 (Array.mk
 [x])]
 (Go.Value.agg
 (Array.mk
 [x_15])) ∧
 (List.all
 [x_15]
 fun
 (x :
 Go.Value) =>
 Go.Value.oneCell'
 x) =
 Bool.true ∧
 ∀
 (x_16 :
 Go.Value),
 Go.Proofs.YteaebpmgbpnbeaaGreatDoor.isV
 (Go.Proofs.YteaebpmgbpnbeaaGreatDoor.spanOk
 k)
 (Go.Value.agg
 (Array.mk
 [Go.Value.iface
 (131 :
 Nat)
 (Go.Value.int
 Go.IntKind.i64
 k)]))
 (Go.Value.agg
 (Array.mk
 [x_16])) →
 Go.Proofs.YteaebpmgbpnbeaaGreatDoor.Tot
 base
 (24 :
 Nat)
 [Go.Value.string
 (ByteArray.mk
 #[(45 :
 UInt8)]),
 Go.Value.agg
 (Array.mk
 [x]),
 Go.Value.agg
 (Array.mk
 [x_12]),
 Go.Value.agg
 (Array.mk
 [x_16]),
 Go.Value.bool
 b]
 (Go.Value.bool
 Bool.true) ∧
 ∀
 (x_17 :
 Go.Value),
 Go.Proofs.YteaebpmgbpnbeaaGreatDoor.isV
 (Go.Proofs.YteaebpmgbpnbeaaGreatDoor.spanOk
 k_1)
 (Go.Value.agg
 (Array.mk
 [Go.Value.iface
 (131 :
 Nat)
 (Go.Value.int
 Go.IntKind.i64
 k_1)]))
 (Go.Value.agg
 (Array.mk
 [x_17])) →
 Go.Proofs.YteaebpmgbpnbeaaGreatDoor.Tot
 base
 (24 :
 Nat)
 [Go.Value.string
 (ByteArray.mk
 #[(45 :
 UInt8)]),
 Go.Value.agg
 (Array.mk
 [x_1]),
 Go.Value.agg
 (Array.mk
 [x_13]),
 Go.Value.agg
 (Array.mk
 [x_17]),
 Go.Value.bool
 Bool.true]
 (Go.Value.bool
 Bool.true) ∧
 ∀
 (x_18 :
 Go.Value),
 Go.Proofs.YteaebpmgbpnbeaaGreatDoor.isV
 (Go.Proofs.YteaebpmgbpnbeaaGreatDoor.spanOk
 k_2)
 (Go.Value.agg
 (Array.mk
 [Go.Value.iface
 (131 :
 Nat)
 (Go.Value.int
 Go.IntKind.i64
 k_2)]))
 (Go.Value.agg
 (Array.mk
 [x_18])) →
 Go.Proofs.YteaebpmgbpnbeaaGreatDoor.Tot
 base
 (24 :
 Nat)
 [Go.Value.string
 (ByteArray.mk
 #[(45 :
 UInt8)]),
 Go.Value.agg
 (Array.mk
 [x_2]),
 Go.Value.agg
 (Array.mk
 [x_14]),
 Go.Value.agg
 (Array.mk
 [x_18]),
 Go.Value.bool
 b_4]
 (Go.Value.bool
 Bool.true) ∧
 ∀
 (x_19 :
 Go.Value),
 Go.Proofs.YteaebpmgbpnbeaaGreatDoor.isV
 (Go.Proofs.YteaebpmgbpnbeaaGreatDoor.spanOk
 k_3)
 (Go.Value.agg
 (Array.mk
 [Go.Value.iface
 (131 :
 Nat)
 (Go.Value.int
 Go.IntKind.i64
 k_3)]))
 (Go.Value.agg
 (Array.mk
 [x_19])) →
 Go.Proofs.YteaebpmgbpnbeaaGreatDoor.Tot
 base
 (24 :
 Nat)
 [Go.Value.string
 (ByteArray.mk
 #[(45 :
 UInt8)]),
 Go.Value.agg
 (Array.mk
 [x]),
 Go.Value.agg
 (Array.mk
 [x_13]),
 Go.Value.agg
 (Array.mk
 [x_19]),
 Go.Value.bool
 b_5]
 (Go.Value.bool
 Bool.true) ∧
 Go.Proofs.YteaebpmgbpnbeaaGreatDoor.Tot
 base
 (24 :
 Nat)
 [Go.Value.string
 (ByteArray.mk
 #[(43 :
 UInt8)]),
 Go.Value.agg
 (Array.mk
 [x]),
 Go.Value.agg
 (Array.mk
 [x_12]),
 Go.Value.agg
 (Array.mk
 [x]),
 Go.Value.bool
 Bool.false]
 (Go.Value.bool
 Bool.true) ∧
 (Go.Value.agg
 (Array.mk
 [x_15]) =
 Go.Value.agg
 (Array.mk
 [Go.Value.nilIface]) ∧
 K
 (Go.Value.bool
 Bool.false)
 (12 :
 Nat) ∨
 (∃
 (x
 :
 Go.TypeId),
 ∃
 (x_20
 :
 Go.Value),
 Go.Value.agg
 (Array.mk
 [x_15]) =
 Go.Value.agg
 (Array.mk
 [Go.Value.iface
 x
 x_20]) ∧
 Go.Pe.pureV
 (6 :
 Nat)
 (Go.Value.agg
 (Array.mk
 [x_15])) =
 Bool.true) ∧
 ∀
 (x :
 Go.Value),
 Go.Proofs.YteaebpmgbpnbeaaGreatDoor.isV
 (Go.Proofs.YteaebpmgbpnbeaaGreatDoor.spanOk
 k_4)
 (Go.Value.agg
 (Array.mk
 [Go.Value.iface
 (132 :
 Nat)
 (Go.Value.int
 Go.IntKind.i64
 k_4)]))
 (Go.Value.agg
 (Array.mk
 [x])) →
 x_15 =
 x ∧
 Go.Proofs.YteaebpmgbpnbeaaGreatDoor.Plainly
 base
 (Go.Value.agg
 (Array.mk
 [x_15])) ∧
 K
 (Go.Value.bool
 Bool.true)
 (12 :
 Nat))) ∧
 (Go.Proofs.YteaebpmgbpnbeaaGreatDoor.Tot
 base
 (37 :
 Nat)
 [Go.Value.agg
 (Array.mk
 [Go.Value.int
 Go.IntKind.i64
 y_1,
 Go.Value.int
 Go.IntKind.i64
 m_1,
 Go.Value.int
 Go.IntKind.i64
 d_1,
 Go.Value.int
 Go.IntKind.i64
 s_1,
 Go.Value.bool
 z_1,
 Go.Value.int
 Go.IntKind.i64
 o_1]),
 Go.Value.agg
 (Array.mk
 [Go.Value.int
 Go.IntKind.i64
 y,
 Go.Value.int
 Go.IntKind.i64
 m,
 Go.Value.int
 Go.IntKind.i64
 d,
 Go.Value.int
 Go.IntKind.i64
 s,
 Go.Value.bool
 z,
 Go.Value.int
 Go.IntKind.i64
 o])]
 (Go.Value.tuple
 (Array.mk
 [Go.Value.int
 Go.IntKind.i64
 (Int.ofNat
 (0 :
 Nat)),
 Go.Value.bool
 Bool.false])) →
 ∃
 (x_15
 :
 Go.Value),
 Go.Proofs.YteaebpmgbpnbeaaGreatDoor.Tot
 base
 (38 :
 Nat)
 [Go.Value.agg
 (Array.mk
 [x_12]),
 Go.Value.agg
 (Array.mk
 [x])]
 (Go.Value.agg
 (Array.mk
 [x_15])) ∧
 (List.all
 [x_15]
 fun
 (x :
 Go.Value) =>
 Go.Value.oneCell'
 x) =
 Bool.true ∧
 ∀
 (x_16 :
 Go.Value),
 Go.Proofs.YteaebpmgbpnbeaaGreatDoor.isV
 (Go.Proofs.YteaebpmgbpnbeaaGreatDoor.spanOk
 k)
 (Go.Value.agg
 (Array.mk
 [Go.Value.iface
 (131 :
 Nat)
 (Go.Value.int
 Go.IntKind.i64
 k)]))
 (Go.Value.agg
 (Array.mk
 [x_16])) →
 Go.Proofs.YteaebpmgbpnbeaaGreatDoor.Tot
 base
 (24 :
 Nat)
 [Go.Value.string
 (ByteArray.mk
 #[(45 :
 UInt8)]),
 Go.Value.agg
 (Array.mk
 [x]),
 Go.Value.agg
 (Array.mk
 [x_12]),
 Go.Value.agg
 (Array.mk
 [x_16]),
 Go.Value.bool
 b]
 (Go.Value.bool
 Bool.true) ∧
 ∀
 (x_17 :
 Go.Value),
 Go.Proofs.YteaebpmgbpnbeaaGreatDoor.isV
 (Go.Proofs.YteaebpmgbpnbeaaGreatDoor.spanOk
 k_1)
 (Go.Value.agg
 (Array.mk
 [Go.Value.iface
 (131 :
 Nat)
 (Go.Value.int
 Go.IntKind.i64
 k_1)]))
 (Go.Value.agg
 (Array.mk
 [x_17])) →
 Go.Proofs.YteaebpmgbpnbeaaGreatDoor.Tot
 base
 (24 :
 Nat)
 [Go.Value.string
 (ByteArray.mk
 #[(45 :
 UInt8)]),
 Go.Value.agg
 (Array.mk
 [x_1]),
 Go.Value.agg
 (Array.mk
 [x_13]),
 Go.Value.agg
 (Array.mk
 [x_17]),
 Go.Value.bool
 Bool.true]
 (Go.Value.bool
 Bool.true) ∧
 ∀
 (x_18 :
 Go.Value),
 Go.Proofs.YteaebpmgbpnbeaaGreatDoor.isV
 (Go.Proofs.YteaebpmgbpnbeaaGreatDoor.spanOk
 k_2)
 (Go.Value.agg
 (Array.mk
 [Go.Value.iface
 (131 :
 Nat)
 (Go.Value.int
 Go.IntKind.i64
 k_2)]))
 (Go.Value.agg
 (Array.mk
 [x_18])) →
 Go.Proofs.YteaebpmgbpnbeaaGreatDoor.Tot
 base
 (24 :
 Nat)
 [Go.Value.string
 (ByteArray.mk
 #[(45 :
 UInt8)]),
 Go.Value.agg
 (Array.mk
 [x_2]),
 Go.Value.agg
 (Array.mk
 [x_14]),
 Go.Value.agg
 (Array.mk
 [x_18]),
 Go.Value.bool
 b_4]
 (Go.Value.bool
 Bool.true) ∧
 ∀
 (x_19 :
 Go.Value),
 Go.Proofs.YteaebpmgbpnbeaaGreatDoor.isV
 (Go.Proofs.YteaebpmgbpnbeaaGreatDoor.spanOk
 k_3)
 (Go.Value.agg
 (Array.mk
 [Go.Value.iface
 (131 :
 Nat)
 (Go.Value.int
 Go.IntKind.i64
 k_3)]))
 (Go.Value.agg
 (Array.mk
 [x_19])) →
 Go.Proofs.YteaebpmgbpnbeaaGreatDoor.Tot
 base
 (24 :
 Nat)
 [Go.Value.string
 (ByteArray.mk
 #[(45 :
 UInt8)]),
 Go.Value.agg
 (Array.mk
 [x]),
 Go.Value.agg
 (Array.mk
 [x_13]),
 Go.Value.agg
 (Array.mk
 [x_19]),
 Go.Value.bool
 b_5]
 (Go.Value.bool
 Bool.true) ∧
 Go.Proofs.YteaebpmgbpnbeaaGreatDoor.Tot
 base
 (24 :
 Nat)
 [Go.Value.string
 (ByteArray.mk
 #[(43 :
 UInt8)]),
 Go.Value.agg
 (Array.mk
 [x]),
 Go.Value.agg
 (Array.mk
 [x_12]),
 Go.Value.agg
 (Array.mk
 [x]),
 Go.Value.bool
 Bool.false]
 (Go.Value.bool
 Bool.true) ∧
 (Go.Value.agg
 (Array.mk
 [x_15]) =
 Go.Value.agg
 (Array.mk
 [Go.Value.nilIface]) ∧
 K
 (Go.Value.bool
 Bool.true)
 (12 :
 Nat) ∨
 (∃
 (x
 :
 Go.TypeId),
 ∃
 (x_20
 :
 Go.Value),
 Go.Value.agg
 (Array.mk
 [x_15]) =
 Go.Value.agg
 (Array.mk
 [Go.Value.iface
 x
 x_20]) ∧
 Go.Pe.pureV
 (6 :
 Nat)
 (Go.Value.agg
 (Array.mk
 [x_15])) =
 Bool.true) ∧
 K
 (Go.Value.bool
 Bool.false)
 (12 :
 Nat)))) := by kernel_rfl

end Go.Proofs.YteaebpmgbpnbeaaGreatDoor
