/-
  The law ParseNames: what it reckons.
-/
import Derived.Test.YtapmcocefoccdaaGreatDoorKl
import Derived.Test.YtapmcocefoccdaaGreatDoorQb
namespace Go.Proofs.YtapmcocefoccdaaGreatDoor
open Go Go.Pe Go.RowKit

/-- A list's texts. -/
def strsOf : List (Option Value) → Option (List ByteArray)
  | [] => some []
  | c :: l => match c with
    | some v => (match v with | .string s => (match strsOf l with | some r => some (s :: r) | none => none) | _ => none)
    | none => none

theorem strsOf_eq : ∀ {l : List (Option Value)} {ns : List ByteArray}, strsOf l = some ns → l = (ns.map Value.string).map some := by
  intro l
  induction l with
  | nil => intro ns h; cases h; rfl
  | cons c l ih =>
    intro ns h
    unfold strsOf at h
    split at h
    · split at h
      · split at h
        · rename_i r hr
          cases h
          rw [ih hr]
          rfl
        · cases h
      · cases h
    · cases h

/-- Calls that are handed texts and a list of texts: their results are asked for. -/
def ruleTwo (base : World) (f : FuncId) (v : Value) : Rule := fun args h n => match args with
  | [x, y, .slice (some ⟨k, 0, none⟩) l c] => (match getBlk h k with
    | some b => (match strsOf b.cells with
      | some ns => some fun K => chk (b.own && b.iter.isNone && Nat.beq l ns.length && Nat.beq c ns.length) (TotS base f [x, y] ns v ∧ K v h n big)
      | none => none)
    | none => none)
  | [x, y, .slice none 0 0] => some fun K => TotP base f [x, y, .slice none 0 0] v ∧ K v h n big
  | _ => none
def ruleOne (base : World) (f : FuncId) (v : Value) : Rule := fun args h n => match args with
  | [x, .slice (some ⟨k, 0, none⟩) l c] => (match getBlk h k with
    | some b => (match strsOf b.cells with
      | some ns => some fun K => chk (b.own && b.iter.isNone && Nat.beq l ns.length && Nat.beq c ns.length) (TotS base f [x] ns v ∧ K v h n big)
      | none => none)
    | none => none)
  | _ => none

theorem ruleOk_two {base : World} {f : FuncId} {v : Value} : RuleOk Tryz.prog base f (ruleTwo base f v) := by
  intro E hE args h n T K hT hK
  unfold ruleTwo at hT
  split at hT
  · split at hT
    · rename_i b hb
      split at hT
      · rename_i ns hns
        cases hT
        obtain ⟨hc, hS, hK⟩ := chk_true hK
        simp only [Bool.and_eq_true, Option.isNone_iff_eq_none] at hc
        obtain ⟨⟨⟨c1, c2⟩, c3⟩, c4⟩ := hc
        rw [beq_true c3, beq_true c4]
        exact ⟨_, _, _, _, hK, hS E hE h n _ b hb c2 c1 (strsOf_eq hns)⟩
      · cases hT
    · cases hT
  · cases hT
    exact ⟨_, _, _, _, hK.2, hK.1 E hE h n⟩
  · cases hT

theorem ruleOk_one {base : World} {f : FuncId} {v : Value} : RuleOk Tryz.prog base f (ruleOne base f v) := by
  intro E hE args h n T K hT hK
  unfold ruleOne at hT
  split at hT
  · split at hT
    · rename_i b hb
      split at hT
      · rename_i ns hns
        cases hT
        obtain ⟨hc, hS, hK⟩ := chk_true hK
        simp only [Bool.and_eq_true, Option.isNone_iff_eq_none] at hc
        obtain ⟨⟨⟨c1, c2⟩, c3⟩, c4⟩ := hc
        rw [beq_true c3, beq_true c4]
        exact ⟨_, _, _, _, hK, hS E hE h n _ b hb c2 c1 (strsOf_eq hns)⟩
      · cases hT
    · cases hT
  · cases hT

def rulesNms (base : World) : List (Nat × Rule) := [(7, ruleTrueP base 7), (11, ruleTwo base 11 (.bool true)), (10, ruleOne base 10 failV)]
theorem rulesNms_ok (base : World) : ∀ x ∈ rulesNms base, RuleOk Tryz.prog base x.1 x.2 := by
  unfold rulesNms
  exact List.forall_mem_cons.2 ⟨ruleOk_trueP, List.forall_mem_cons.2 ⟨ruleOk_two, List.forall_mem_cons.2 ⟨ruleOk_one, fun _ h => nomatch h⟩⟩⟩

noncomputable def envPN (base : World) (S : List (Option Value) → Nat → ByteArray) : Env :=
  { P := Tryz.prog, isBool := bools, oracle := findR (rulesNms base), eqAgg := eqA (env []) eqTs, loops := 100000, loopP := fun _ _ => none, guess := fun _ _ => none, strF := S, wild := fun f _ => elemN f [], sure := fun f => Nat.blt f 241,
    low := Tryz.prog.globals.size + 1 }

theorem names_tree (K : Value → Nat → Prop) (base : World) (S : List (Option Value) → Nat → ByteArray) (p q : Int) (b : Bool) :
    funcK (envPN base S) 30 4 [.int .u8 p, .int .u8 q, .bool b] [] Tryz.prog.globals.size (fun u _ _ mw => K u mw) =
  (TotP base (7 : Nat) [] (Value.bool Bool.true) ∧
 bsel (decide ((0 : Int) ≤ Int.tmod p (6 : Int)) && decide (Int.tmod p (6 : Int) < ↑(6 : Nat)))
 (bsel (Nat.blt ((0 : Nat) + Int.toNat (Int.tmod p (6 : Int)) * (1 : Nat)) (6 : Nat))
 (bsel (decide ((0 : Int) ≤ Int.tmod q (6 : Int)) && decide (Int.tmod q (6 : Int) < ↑(6 : Nat)))
 (bsel (Nat.blt ((0 : Nat) + Int.toNat (Int.tmod q (6 : Int)) * (1 : Nat)) (6 : Nat))
 (bsel
 (Nat.ble
 (strLen
 (S
 [Option.some (Value.string (ByteArray.mk #[(120 : UInt8)])), Option.some (Value.string (ByteArray.mk #[(121 : UInt8), (49 : UInt8)])),
 Option.some (Value.string (ByteArray.mk #[(122 : UInt8), (95 : UInt8)])),
 Option.some (Value.string (ByteArray.mk #[(112 : UInt8), (114 : UInt8), (105 : UInt8), (99 : UInt8), (101 : UInt8)])),
 Option.some (Value.string (ByteArray.mk #[(99 : UInt8), (97 : UInt8), (102 : UInt8), (195 : UInt8), (169 : UInt8)])),
 Option.some (Value.string (ByteArray.mk #[(98 : UInt8), (50 : UInt8)]))]
 ((0 : Nat) + Int.toNat (Int.tmod p (6 : Int)) * (1 : Nat))) +
 (1 : Nat))
 (9223372036854775807 : Nat))
 (bsel
 (Nat.ble
 (strLen
 (strCat
 (S
 [Option.some (Value.string (ByteArray.mk #[(120 : UInt8)])), Option.some (Value.string (ByteArray.mk #[(121 : UInt8), (49 : UInt8)])),
 Option.some (Value.string (ByteArray.mk #[(122 : UInt8), (95 : UInt8)])),
 Option.some (Value.string (ByteArray.mk #[(112 : UInt8), (114 : UInt8), (105 : UInt8), (99 : UInt8), (101 : UInt8)])),
 Option.some (Value.string (ByteArray.mk #[(99 : UInt8), (97 : UInt8), (102 : UInt8), (195 : UInt8), (169 : UInt8)])),
 Option.some (Value.string (ByteArray.mk #[(98 : UInt8), (50 : UInt8)]))]
 ((0 : Nat) + Int.toNat (Int.tmod p (6 : Int)) * (1 : Nat)))
 (ByteArray.mk #[(32 : UInt8)])) +
 strLen
 (S
 [Option.some (Value.string (ByteArray.mk #[(120 : UInt8)])), Option.some (Value.string (ByteArray.mk #[(121 : UInt8), (49 : UInt8)])),
 Option.some (Value.string (ByteArray.mk #[(122 : UInt8), (95 : UInt8)])),
 Option.some (Value.string (ByteArray.mk #[(112 : UInt8), (114 : UInt8), (105 : UInt8), (99 : UInt8), (101 : UInt8)])),
 Option.some (Value.string (ByteArray.mk #[(99 : UInt8), (97 : UInt8), (102 : UInt8), (195 : UInt8), (169 : UInt8)])),
 Option.some (Value.string (ByteArray.mk #[(98 : UInt8), (50 : UInt8)]))]
 ((0 : Nat) + Int.toNat (Int.tmod q (6 : Int)) * (1 : Nat))))
 (9223372036854775807 : Nat))
 (bsel b
 (TotS base (11 : Nat)
 [Value.string
 (strCat
 (strCat
 (S
 [Option.some (Value.string (ByteArray.mk #[(120 : UInt8)])), Option.some (Value.string (ByteArray.mk #[(121 : UInt8), (49 : UInt8)])),
 Option.some (Value.string (ByteArray.mk #[(122 : UInt8), (95 : UInt8)])),
 Option.some (Value.string (ByteArray.mk #[(112 : UInt8), (114 : UInt8), (105 : UInt8), (99 : UInt8), (101 : UInt8)])),
 Option.some (Value.string (ByteArray.mk #[(99 : UInt8), (97 : UInt8), (102 : UInt8), (195 : UInt8), (169 : UInt8)])),
 Option.some (Value.string (ByteArray.mk #[(98 : UInt8), (50 : UInt8)]))]
 ((0 : Nat) + Int.toNat (Int.tmod p (6 : Int)) * (1 : Nat)))
 (ByteArray.mk #[(32 : UInt8)]))
 (S
 [Option.some (Value.string (ByteArray.mk #[(120 : UInt8)])), Option.some (Value.string (ByteArray.mk #[(121 : UInt8), (49 : UInt8)])),
 Option.some (Value.string (ByteArray.mk #[(122 : UInt8), (95 : UInt8)])),
 Option.some (Value.string (ByteArray.mk #[(112 : UInt8), (114 : UInt8), (105 : UInt8), (99 : UInt8), (101 : UInt8)])),
 Option.some (Value.string (ByteArray.mk #[(99 : UInt8), (97 : UInt8), (102 : UInt8), (195 : UInt8), (169 : UInt8)])),
 Option.some (Value.string (ByteArray.mk #[(98 : UInt8), (50 : UInt8)]))]
 ((0 : Nat) + Int.toNat (Int.tmod q (6 : Int)) * (1 : Nat)))),
 Value.string
 (strCat
 (strCat
 (S
 [Option.some (Value.string (ByteArray.mk #[(120 : UInt8)])), Option.some (Value.string (ByteArray.mk #[(121 : UInt8), (49 : UInt8)])),
 Option.some (Value.string (ByteArray.mk #[(122 : UInt8), (95 : UInt8)])),
 Option.some (Value.string (ByteArray.mk #[(112 : UInt8), (114 : UInt8), (105 : UInt8), (99 : UInt8), (101 : UInt8)])),
 Option.some (Value.string (ByteArray.mk #[(99 : UInt8), (97 : UInt8), (102 : UInt8), (195 : UInt8), (169 : UInt8)])),
 Option.some (Value.string (ByteArray.mk #[(98 : UInt8), (50 : UInt8)]))]
 ((0 : Nat) + Int.toNat (Int.tmod p (6 : Int)) * (1 : Nat)))
 (ByteArray.mk #[(32 : UInt8)]))
 (S
 [Option.some (Value.string (ByteArray.mk #[(120 : UInt8)])), Option.some (Value.string (ByteArray.mk #[(121 : UInt8), (49 : UInt8)])),
 Option.some (Value.string (ByteArray.mk #[(122 : UInt8), (95 : UInt8)])),
 Option.some (Value.string (ByteArray.mk #[(112 : UInt8), (114 : UInt8), (105 : UInt8), (99 : UInt8), (101 : UInt8)])),
 Option.some (Value.string (ByteArray.mk #[(99 : UInt8), (97 : UInt8), (102 : UInt8), (195 : UInt8), (169 : UInt8)])),
 Option.some (Value.string (ByteArray.mk #[(98 : UInt8), (50 : UInt8)]))]
 ((0 : Nat) + Int.toNat (Int.tmod q (6 : Int)) * (1 : Nat))))]
 [S
 [Option.some (Value.string (ByteArray.mk #[(120 : UInt8)])), Option.some (Value.string (ByteArray.mk #[(121 : UInt8), (49 : UInt8)])),
 Option.some (Value.string (ByteArray.mk #[(122 : UInt8), (95 : UInt8)])),
 Option.some (Value.string (ByteArray.mk #[(112 : UInt8), (114 : UInt8), (105 : UInt8), (99 : UInt8), (101 : UInt8)])),
 Option.some (Value.string (ByteArray.mk #[(99 : UInt8), (97 : UInt8), (102 : UInt8), (195 : UInt8), (169 : UInt8)])),
 Option.some (Value.string (ByteArray.mk #[(98 : UInt8), (50 : UInt8)]))]
 ((0 : Nat) + Int.toNat (Int.tmod p (6 : Int)) * (1 : Nat)),
 strCat
 (strCat
 (S
 [Option.some (Value.string (ByteArray.mk #[(120 : UInt8)])), Option.some (Value.string (ByteArray.mk #[(121 : UInt8), (49 : UInt8)])),
 Option.some (Value.string (ByteArray.mk #[(122 : UInt8), (95 : UInt8)])),
 Option.some (Value.string (ByteArray.mk #[(112 : UInt8), (114 : UInt8), (105 : UInt8), (99 : UInt8), (101 : UInt8)])),
 Option.some (Value.string (ByteArray.mk #[(99 : UInt8), (97 : UInt8), (102 : UInt8), (195 : UInt8), (169 : UInt8)])),
 Option.some (Value.string (ByteArray.mk #[(98 : UInt8), (50 : UInt8)]))]
 ((0 : Nat) + Int.toNat (Int.tmod p (6 : Int)) * (1 : Nat)))
 (ByteArray.mk #[(32 : UInt8)]))
 (S
 [Option.some (Value.string (ByteArray.mk #[(120 : UInt8)])), Option.some (Value.string (ByteArray.mk #[(121 : UInt8), (49 : UInt8)])),
 Option.some (Value.string (ByteArray.mk #[(122 : UInt8), (95 : UInt8)])),
 Option.some (Value.string (ByteArray.mk #[(112 : UInt8), (114 : UInt8), (105 : UInt8), (99 : UInt8), (101 : UInt8)])),
 Option.some (Value.string (ByteArray.mk #[(99 : UInt8), (97 : UInt8), (102 : UInt8), (195 : UInt8), (169 : UInt8)])),
 Option.some (Value.string (ByteArray.mk #[(98 : UInt8), (50 : UInt8)]))]
 ((0 : Nat) + Int.toNat (Int.tmod q (6 : Int)) * (1 : Nat)))]
 (Value.bool Bool.true) ∧
 bsel
 (Nat.ble
 (strLen
 (S
 [Option.some (Value.string (ByteArray.mk #[(120 : UInt8)])), Option.some (Value.string (ByteArray.mk #[(121 : UInt8), (49 : UInt8)])),
 Option.some (Value.string (ByteArray.mk #[(122 : UInt8), (95 : UInt8)])),
 Option.some (Value.string (ByteArray.mk #[(112 : UInt8), (114 : UInt8), (105 : UInt8), (99 : UInt8), (101 : UInt8)])),
 Option.some (Value.string (ByteArray.mk #[(99 : UInt8), (97 : UInt8), (102 : UInt8), (195 : UInt8), (169 : UInt8)])),
 Option.some (Value.string (ByteArray.mk #[(98 : UInt8), (50 : UInt8)]))]
 ((0 : Nat) + Int.toNat (Int.tmod p (6 : Int)) * (1 : Nat))) +
 (3 : Nat))
 (9223372036854775807 : Nat))
 (bsel
 (Nat.ble
 (strLen
 (strCat
 (S
 [Option.some (Value.string (ByteArray.mk #[(120 : UInt8)])), Option.some (Value.string (ByteArray.mk #[(121 : UInt8), (49 : UInt8)])),
 Option.some (Value.string (ByteArray.mk #[(122 : UInt8), (95 : UInt8)])),
 Option.some (Value.string (ByteArray.mk #[(112 : UInt8), (114 : UInt8), (105 : UInt8), (99 : UInt8), (101 : UInt8)])),
 Option.some (Value.string (ByteArray.mk #[(99 : UInt8), (97 : UInt8), (102 : UInt8), (195 : UInt8), (169 : UInt8)])),
 Option.some (Value.string (ByteArray.mk #[(98 : UInt8), (50 : UInt8)]))]
 ((0 : Nat) + Int.toNat (Int.tmod p (6 : Int)) * (1 : Nat)))
 (ByteArray.mk #[(32 : UInt8), (43 : UInt8), (32 : UInt8)])) +
 strLen
 (strCat
 (strCat
 (S
 [Option.some (Value.string (ByteArray.mk #[(120 : UInt8)])), Option.some (Value.string (ByteArray.mk #[(121 : UInt8), (49 : UInt8)])),
 Option.some (Value.string (ByteArray.mk #[(122 : UInt8), (95 : UInt8)])),
 Option.some (Value.string (ByteArray.mk #[(112 : UInt8), (114 : UInt8), (105 : UInt8), (99 : UInt8), (101 : UInt8)])),
 Option.some (Value.string (ByteArray.mk #[(99 : UInt8), (97 : UInt8), (102 : UInt8), (195 : UInt8), (169 : UInt8)])),
 Option.some (Value.string (ByteArray.mk #[(98 : UInt8), (50 : UInt8)]))]
 ((0 : Nat) + Int.toNat (Int.tmod p (6 : Int)) * (1 : Nat)))
 (ByteArray.mk #[(32 : UInt8)]))
 (S
 [Option.some (Value.string (ByteArray.mk #[(120 : UInt8)])), Option.some (Value.string (ByteArray.mk #[(121 : UInt8), (49 : UInt8)])),
 Option.some (Value.string (ByteArray.mk #[(122 : UInt8), (95 : UInt8)])),
 Option.some (Value.string (ByteArray.mk #[(112 : UInt8), (114 : UInt8), (105 : UInt8), (99 : UInt8), (101 : UInt8)])),
 Option.some (Value.string (ByteArray.mk #[(99 : UInt8), (97 : UInt8), (102 : UInt8), (195 : UInt8), (169 : UInt8)])),
 Option.some (Value.string (ByteArray.mk #[(98 : UInt8), (50 : UInt8)]))]
 ((0 : Nat) + Int.toNat (Int.tmod q (6 : Int)) * (1 : Nat)))))
 (9223372036854775807 : Nat))
 (bsel
 (Nat.ble
 ((1 : Nat) +
 strLen
 (S
 [Option.some (Value.string (ByteArray.mk #[(120 : UInt8)])), Option.some (Value.string (ByteArray.mk #[(121 : UInt8), (49 : UInt8)])),
 Option.some (Value.string (ByteArray.mk #[(122 : UInt8), (95 : UInt8)])),
 Option.some (Value.string (ByteArray.mk #[(112 : UInt8), (114 : UInt8), (105 : UInt8), (99 : UInt8), (101 : UInt8)])),
 Option.some (Value.string (ByteArray.mk #[(99 : UInt8), (97 : UInt8), (102 : UInt8), (195 : UInt8), (169 : UInt8)])),
 Option.some (Value.string (ByteArray.mk #[(98 : UInt8), (50 : UInt8)]))]
 ((0 : Nat) + Int.toNat (Int.tmod p (6 : Int)) * (1 : Nat))))
 (9223372036854775807 : Nat))
 (bsel
 (Nat.ble
 (strLen
 (strCat (ByteArray.mk #[(40 : UInt8)])
 (S
 [Option.some (Value.string (ByteArray.mk #[(120 : UInt8)])), Option.some (Value.string (ByteArray.mk #[(121 : UInt8), (49 : UInt8)])),
 Option.some (Value.string (ByteArray.mk #[(122 : UInt8), (95 : UInt8)])),
 Option.some (Value.string (ByteArray.mk #[(112 : UInt8), (114 : UInt8), (105 : UInt8), (99 : UInt8), (101 : UInt8)])),
 Option.some (Value.string (ByteArray.mk #[(99 : UInt8), (97 : UInt8), (102 : UInt8), (195 : UInt8), (169 : UInt8)])),
 Option.some (Value.string (ByteArray.mk #[(98 : UInt8), (50 : UInt8)]))]
 ((0 : Nat) + Int.toNat (Int.tmod p (6 : Int)) * (1 : Nat)))) +
 (5 : Nat))
 (9223372036854775807 : Nat))
 (bsel
 (Nat.ble
 (strLen
 (strCat
 (strCat (ByteArray.mk #[(40 : UInt8)])
 (S
 [Option.some (Value.string (ByteArray.mk #[(120 : UInt8)])), Option.some (Value.string (ByteArray.mk #[(121 : UInt8), (49 : UInt8)])),
 Option.some (Value.string (ByteArray.mk #[(122 : UInt8), (95 : UInt8)])),
 Option.some (Value.string (ByteArray.mk #[(112 : UInt8), (114 : UInt8), (105 : UInt8), (99 : UInt8), (101 : UInt8)])),
 Option.some (Value.string (ByteArray.mk #[(99 : UInt8), (97 : UInt8), (102 : UInt8), (195 : UInt8), (169 : UInt8)])),
 Option.some (Value.string (ByteArray.mk #[(98 : UInt8), (50 : UInt8)]))]
 ((0 : Nat) + Int.toNat (Int.tmod p (6 : Int)) * (1 : Nat))))
 (ByteArray.mk #[(41 : UInt8), (32 : UInt8), (43 : UInt8), (32 : UInt8), (40 : UInt8)])) +
 strLen
 (strCat
 (strCat
 (S
 [Option.some (Value.string (ByteArray.mk #[(120 : UInt8)])), Option.some (Value.string (ByteArray.mk #[(121 : UInt8), (49 : UInt8)])),
 Option.some (Value.string (ByteArray.mk #[(122 : UInt8), (95 : UInt8)])),
 Option.some (Value.string (ByteArray.mk #[(112 : UInt8), (114 : UInt8), (105 : UInt8), (99 : UInt8), (101 : UInt8)])),
 Option.some (Value.string (ByteArray.mk #[(99 : UInt8), (97 : UInt8), (102 : UInt8), (195 : UInt8), (169 : UInt8)])),
 Option.some (Value.string (ByteArray.mk #[(98 : UInt8), (50 : UInt8)]))]
 ((0 : Nat) + Int.toNat (Int.tmod p (6 : Int)) * (1 : Nat)))
 (ByteArray.mk #[(32 : UInt8)]))
 (S
 [Option.some (Value.string (ByteArray.mk #[(120 : UInt8)])), Option.some (Value.string (ByteArray.mk #[(121 : UInt8), (49 : UInt8)])),
 Option.some (Value.string (ByteArray.mk #[(122 : UInt8), (95 : UInt8)])),
 Option.some (Value.string (ByteArray.mk #[(112 : UInt8), (114 : UInt8), (105 : UInt8), (99 : UInt8), (101 : UInt8)])),
 Option.some (Value.string (ByteArray.mk #[(99 : UInt8), (97 : UInt8), (102 : UInt8), (195 : UInt8), (169 : UInt8)])),
 Option.some (Value.string (ByteArray.mk #[(98 : UInt8), (50 : UInt8)]))]
 ((0 : Nat) + Int.toNat (Int.tmod q (6 : Int)) * (1 : Nat)))))
 (9223372036854775807 : Nat))
 (bsel
 (Nat.ble
 (strLen
 (strCat
 (strCat
 (strCat (ByteArray.mk #[(40 : UInt8)])
 (S
 [Option.some (Value.string (ByteArray.mk #[(120 : UInt8)])), Option.some (Value.string (ByteArray.mk #[(121 : UInt8), (49 : UInt8)])),
 Option.some (Value.string (ByteArray.mk #[(122 : UInt8), (95 : UInt8)])),
 Option.some (Value.string (ByteArray.mk #[(112 : UInt8), (114 : UInt8), (105 : UInt8), (99 : UInt8), (101 : UInt8)])),
 Option.some (Value.string (ByteArray.mk #[(99 : UInt8), (97 : UInt8), (102 : UInt8), (195 : UInt8), (169 : UInt8)])),
 Option.some (Value.string (ByteArray.mk #[(98 : UInt8), (50 : UInt8)]))]
 ((0 : Nat) + Int.toNat (Int.tmod p (6 : Int)) * (1 : Nat))))
 (ByteArray.mk #[(41 : UInt8), (32 : UInt8), (43 : UInt8), (32 : UInt8), (40 : UInt8)]))
 (strCat
 (strCat
 (S
 [Option.some (Value.string (ByteArray.mk #[(120 : UInt8)])), Option.some (Value.string (ByteArray.mk #[(121 : UInt8), (49 : UInt8)])),
 Option.some (Value.string (ByteArray.mk #[(122 : UInt8), (95 : UInt8)])),
 Option.some (Value.string (ByteArray.mk #[(112 : UInt8), (114 : UInt8), (105 : UInt8), (99 : UInt8), (101 : UInt8)])),
 Option.some (Value.string (ByteArray.mk #[(99 : UInt8), (97 : UInt8), (102 : UInt8), (195 : UInt8), (169 : UInt8)])),
 Option.some (Value.string (ByteArray.mk #[(98 : UInt8), (50 : UInt8)]))]
 ((0 : Nat) + Int.toNat (Int.tmod p (6 : Int)) * (1 : Nat)))
 (ByteArray.mk #[(32 : UInt8)]))
 (S
 [Option.some (Value.string (ByteArray.mk #[(120 : UInt8)])), Option.some (Value.string (ByteArray.mk #[(121 : UInt8), (49 : UInt8)])),
 Option.some (Value.string (ByteArray.mk #[(122 : UInt8), (95 : UInt8)])),
 Option.some (Value.string (ByteArray.mk #[(112 : UInt8), (114 : UInt8), (105 : UInt8), (99 : UInt8), (101 : UInt8)])),
 Option.some (Value.string (ByteArray.mk #[(99 : UInt8), (97 : UInt8), (102 : UInt8), (195 : UInt8), (169 : UInt8)])),
 Option.some (Value.string (ByteArray.mk #[(98 : UInt8), (50 : UInt8)]))]
 ((0 : Nat) + Int.toNat (Int.tmod q (6 : Int)) * (1 : Nat))))) +
 (1 : Nat))
 (9223372036854775807 : Nat))
 (TotS base (11 : Nat)
 [Value.string
 (strCat
 (strCat
 (S
 [Option.some (Value.string (ByteArray.mk #[(120 : UInt8)])), Option.some (Value.string (ByteArray.mk #[(121 : UInt8), (49 : UInt8)])),
 Option.some (Value.string (ByteArray.mk #[(122 : UInt8), (95 : UInt8)])),
 Option.some (Value.string (ByteArray.mk #[(112 : UInt8), (114 : UInt8), (105 : UInt8), (99 : UInt8), (101 : UInt8)])),
 Option.some (Value.string (ByteArray.mk #[(99 : UInt8), (97 : UInt8), (102 : UInt8), (195 : UInt8), (169 : UInt8)])),
 Option.some (Value.string (ByteArray.mk #[(98 : UInt8), (50 : UInt8)]))]
 ((0 : Nat) + Int.toNat (Int.tmod p (6 : Int)) * (1 : Nat)))
 (ByteArray.mk #[(32 : UInt8), (43 : UInt8), (32 : UInt8)]))
 (strCat
 (strCat
 (S
 [Option.some (Value.string (ByteArray.mk #[(120 : UInt8)])), Option.some (Value.string (ByteArray.mk #[(121 : UInt8), (49 : UInt8)])),
 Option.some (Value.string (ByteArray.mk #[(122 : UInt8), (95 : UInt8)])),
 Option.some (Value.string (ByteArray.mk #[(112 : UInt8), (114 : UInt8), (105 : UInt8), (99 : UInt8), (101 : UInt8)])),
 Option.some (Value.string (ByteArray.mk #[(99 : UInt8), (97 : UInt8), (102 : UInt8), (195 : UInt8), (169 : UInt8)])),
 Option.some (Value.string (ByteArray.mk #[(98 : UInt8), (50 : UInt8)]))]
 ((0 : Nat) + Int.toNat (Int.tmod p (6 : Int)) * (1 : Nat)))
 (ByteArray.mk #[(32 : UInt8)]))
 (S
 [Option.some (Value.string (ByteArray.mk #[(120 : UInt8)])), Option.some (Value.string (ByteArray.mk #[(121 : UInt8), (49 : UInt8)])),
 Option.some (Value.string (ByteArray.mk #[(122 : UInt8), (95 : UInt8)])),
 Option.some (Value.string (ByteArray.mk #[(112 : UInt8), (114 : UInt8), (105 : UInt8), (99 : UInt8), (101 : UInt8)])),
 Option.some (Value.string (ByteArray.mk #[(99 : UInt8), (97 : UInt8), (102 : UInt8), (195 : UInt8), (169 : UInt8)])),
 Option.some (Value.string (ByteArray.mk #[(98 : UInt8), (50 : UInt8)]))]
 ((0 : Nat) + Int.toNat (Int.tmod q (6 : Int)) * (1 : Nat))))),
 Value.string
 (strCat
 (strCat
 (strCat
 (strCat (ByteArray.mk #[(40 : UInt8)])
 (S
 [Option.some (Value.string (ByteArray.mk #[(120 : UInt8)])), Option.some (Value.string (ByteArray.mk #[(121 : UInt8), (49 : UInt8)])),
 Option.some (Value.string (ByteArray.mk #[(122 : UInt8), (95 : UInt8)])),
 Option.some (Value.string (ByteArray.mk #[(112 : UInt8), (114 : UInt8), (105 : UInt8), (99 : UInt8), (101 : UInt8)])),
 Option.some (Value.string (ByteArray.mk #[(99 : UInt8), (97 : UInt8), (102 : UInt8), (195 : UInt8), (169 : UInt8)])),
 Option.some (Value.string (ByteArray.mk #[(98 : UInt8), (50 : UInt8)]))]
 ((0 : Nat) + Int.toNat (Int.tmod p (6 : Int)) * (1 : Nat))))
 (ByteArray.mk #[(41 : UInt8), (32 : UInt8), (43 : UInt8), (32 : UInt8), (40 : UInt8)]))
 (strCat
 (strCat
 (S
 [Option.some (Value.string (ByteArray.mk #[(120 : UInt8)])), Option.some (Value.string (ByteArray.mk #[(121 : UInt8), (49 : UInt8)])),
 Option.some (Value.string (ByteArray.mk #[(122 : UInt8), (95 : UInt8)])),
 Option.some (Value.string (ByteArray.mk #[(112 : UInt8), (114 : UInt8), (105 : UInt8), (99 : UInt8), (101 : UInt8)])),
 Option.some (Value.string (ByteArray.mk #[(99 : UInt8), (97 : UInt8), (102 : UInt8), (195 : UInt8), (169 : UInt8)])),
 Option.some (Value.string (ByteArray.mk #[(98 : UInt8), (50 : UInt8)]))]
 ((0 : Nat) + Int.toNat (Int.tmod p (6 : Int)) * (1 : Nat)))
 (ByteArray.mk #[(32 : UInt8)]))
 (S
 [Option.some (Value.string (ByteArray.mk #[(120 : UInt8)])), Option.some (Value.string (ByteArray.mk #[(121 : UInt8), (49 : UInt8)])),
 Option.some (Value.string (ByteArray.mk #[(122 : UInt8), (95 : UInt8)])),
 Option.some (Value.string (ByteArray.mk #[(112 : UInt8), (114 : UInt8), (105 : UInt8), (99 : UInt8), (101 : UInt8)])),
 Option.some (Value.string (ByteArray.mk #[(99 : UInt8), (97 : UInt8), (102 : UInt8), (195 : UInt8), (169 : UInt8)])),
 Option.some (Value.string (ByteArray.mk #[(98 : UInt8), (50 : UInt8)]))]
 ((0 : Nat) + Int.toNat (Int.tmod q (6 : Int)) * (1 : Nat)))))
 (ByteArray.mk #[(41 : UInt8)]))]
 [S
 [Option.some (Value.string (ByteArray.mk #[(120 : UInt8)])), Option.some (Value.string (ByteArray.mk #[(121 : UInt8), (49 : UInt8)])),
 Option.some (Value.string (ByteArray.mk #[(122 : UInt8), (95 : UInt8)])),
 Option.some (Value.string (ByteArray.mk #[(112 : UInt8), (114 : UInt8), (105 : UInt8), (99 : UInt8), (101 : UInt8)])),
 Option.some (Value.string (ByteArray.mk #[(99 : UInt8), (97 : UInt8), (102 : UInt8), (195 : UInt8), (169 : UInt8)])),
 Option.some (Value.string (ByteArray.mk #[(98 : UInt8), (50 : UInt8)]))]
 ((0 : Nat) + Int.toNat (Int.tmod p (6 : Int)) * (1 : Nat)),
 strCat
 (strCat
 (S
 [Option.some (Value.string (ByteArray.mk #[(120 : UInt8)])), Option.some (Value.string (ByteArray.mk #[(121 : UInt8), (49 : UInt8)])),
 Option.some (Value.string (ByteArray.mk #[(122 : UInt8), (95 : UInt8)])),
 Option.some (Value.string (ByteArray.mk #[(112 : UInt8), (114 : UInt8), (105 : UInt8), (99 : UInt8), (101 : UInt8)])),
 Option.some (Value.string (ByteArray.mk #[(99 : UInt8), (97 : UInt8), (102 : UInt8), (195 : UInt8), (169 : UInt8)])),
 Option.some (Value.string (ByteArray.mk #[(98 : UInt8), (50 : UInt8)]))]
 ((0 : Nat) + Int.toNat (Int.tmod p (6 : Int)) * (1 : Nat)))
 (ByteArray.mk #[(32 : UInt8)]))
 (S
 [Option.some (Value.string (ByteArray.mk #[(120 : UInt8)])), Option.some (Value.string (ByteArray.mk #[(121 : UInt8), (49 : UInt8)])),
 Option.some (Value.string (ByteArray.mk #[(122 : UInt8), (95 : UInt8)])),
 Option.some (Value.string (ByteArray.mk #[(112 : UInt8), (114 : UInt8), (105 : UInt8), (99 : UInt8), (101 : UInt8)])),
 Option.some (Value.string (ByteArray.mk #[(99 : UInt8), (97 : UInt8), (102 : UInt8), (195 : UInt8), (169 : UInt8)])),
 Option.some (Value.string (ByteArray.mk #[(98 : UInt8), (50 : UInt8)]))]
 ((0 : Nat) + Int.toNat (Int.tmod q (6 : Int)) * (1 : Nat)))]
 (Value.bool Bool.true) ∧
 bsel
 (Nat.ble
 ((2 : Nat) +
 strLen
 (strCat
 (strCat
 (S
 [Option.some (Value.string (ByteArray.mk #[(120 : UInt8)])), Option.some (Value.string (ByteArray.mk #[(121 : UInt8), (49 : UInt8)])),
 Option.some (Value.string (ByteArray.mk #[(122 : UInt8), (95 : UInt8)])),
 Option.some (Value.string (ByteArray.mk #[(112 : UInt8), (114 : UInt8), (105 : UInt8), (99 : UInt8), (101 : UInt8)])),
 Option.some (Value.string (ByteArray.mk #[(99 : UInt8), (97 : UInt8), (102 : UInt8), (195 : UInt8), (169 : UInt8)])),
 Option.some (Value.string (ByteArray.mk #[(98 : UInt8), (50 : UInt8)]))]
 ((0 : Nat) + Int.toNat (Int.tmod p (6 : Int)) * (1 : Nat)))
 (ByteArray.mk #[(32 : UInt8)]))
 (S
 [Option.some (Value.string (ByteArray.mk #[(120 : UInt8)])), Option.some (Value.string (ByteArray.mk #[(121 : UInt8), (49 : UInt8)])),
 Option.some (Value.string (ByteArray.mk #[(122 : UInt8), (95 : UInt8)])),
 Option.some (Value.string (ByteArray.mk #[(112 : UInt8), (114 : UInt8), (105 : UInt8), (99 : UInt8), (101 : UInt8)])),
 Option.some (Value.string (ByteArray.mk #[(99 : UInt8), (97 : UInt8), (102 : UInt8), (195 : UInt8), (169 : UInt8)])),
 Option.some (Value.string (ByteArray.mk #[(98 : UInt8), (50 : UInt8)]))]
 ((0 : Nat) + Int.toNat (Int.tmod q (6 : Int)) * (1 : Nat)))))
 (9223372036854775807 : Nat))
 (bsel
 (Nat.ble
 (strLen
 (strCat (ByteArray.mk #[(114 : UInt8), (46 : UInt8)])
 (strCat
 (strCat
 (S
 [Option.some (Value.string (ByteArray.mk #[(120 : UInt8)])), Option.some (Value.string (ByteArray.mk #[(121 : UInt8), (49 : UInt8)])),
 Option.some (Value.string (ByteArray.mk #[(122 : UInt8), (95 : UInt8)])),
 Option.some (Value.string (ByteArray.mk #[(112 : UInt8), (114 : UInt8), (105 : UInt8), (99 : UInt8), (101 : UInt8)])),
 Option.some (Value.string (ByteArray.mk #[(99 : UInt8), (97 : UInt8), (102 : UInt8), (195 : UInt8), (169 : UInt8)])),
 Option.some (Value.string (ByteArray.mk #[(98 : UInt8), (50 : UInt8)]))]
 ((0 : Nat) + Int.toNat (Int.tmod p (6 : Int)) * (1 : Nat)))
 (ByteArray.mk #[(32 : UInt8)]))
 (S
 [Option.some (Value.string (ByteArray.mk #[(120 : UInt8)])), Option.some (Value.string (ByteArray.mk #[(121 : UInt8), (49 : UInt8)])),
 Option.some (Value.string (ByteArray.mk #[(122 : UInt8), (95 : UInt8)])),
 Option.some (Value.string (ByteArray.mk #[(112 : UInt8), (114 : UInt8), (105 : UInt8), (99 : UInt8), (101 : UInt8)])),
 Option.some (Value.string (ByteArray.mk #[(99 : UInt8), (97 : UInt8), (102 : UInt8), (195 : UInt8), (169 : UInt8)])),
 Option.some (Value.string (ByteArray.mk #[(98 : UInt8), (50 : UInt8)]))]
 ((0 : Nat) + Int.toNat (Int.tmod q (6 : Int)) * (1 : Nat))))) +
 (4 : Nat))
 (9223372036854775807 : Nat))
 (bsel
 (Nat.ble
 ((4 : Nat) +
 strLen
 (strCat
 (strCat
 (S
 [Option.some (Value.string (ByteArray.mk #[(120 : UInt8)])), Option.some (Value.string (ByteArray.mk #[(121 : UInt8), (49 : UInt8)])),
 Option.some (Value.string (ByteArray.mk #[(122 : UInt8), (95 : UInt8)])),
 Option.some (Value.string (ByteArray.mk #[(112 : UInt8), (114 : UInt8), (105 : UInt8), (99 : UInt8), (101 : UInt8)])),
 Option.some (Value.string (ByteArray.mk #[(99 : UInt8), (97 : UInt8), (102 : UInt8), (195 : UInt8), (169 : UInt8)])),
 Option.some (Value.string (ByteArray.mk #[(98 : UInt8), (50 : UInt8)]))]
 ((0 : Nat) + Int.toNat (Int.tmod p (6 : Int)) * (1 : Nat)))
 (ByteArray.mk #[(32 : UInt8)]))
 (S
 [Option.some (Value.string (ByteArray.mk #[(120 : UInt8)])), Option.some (Value.string (ByteArray.mk #[(121 : UInt8), (49 : UInt8)])),
 Option.some (Value.string (ByteArray.mk #[(122 : UInt8), (95 : UInt8)])),
 Option.some (Value.string (ByteArray.mk #[(112 : UInt8), (114 : UInt8), (105 : UInt8), (99 : UInt8), (101 : UInt8)])),
 Option.some (Value.string (ByteArray.mk #[(99 : UInt8), (97 : UInt8), (102 : UInt8), (195 : UInt8), (169 : UInt8)])),
 Option.some (Value.string (ByteArray.mk #[(98 : UInt8), (50 : UInt8)]))]
 ((0 : Nat) + Int.toNat (Int.tmod q (6 : Int)) * (1 : Nat)))))
 (9223372036854775807 : Nat))
 (bsel
 (Nat.ble
 (strLen
 (strCat (ByteArray.mk #[(40 : UInt8), (114 : UInt8), (41 : UInt8), (46 : UInt8)])
 (strCat
 (strCat
 (S
 [Option.some (Value.string (ByteArray.mk #[(120 : UInt8)])), Option.some (Value.string (ByteArray.mk #[(121 : UInt8), (49 : UInt8)])),
 Option.some (Value.string (ByteArray.mk #[(122 : UInt8), (95 : UInt8)])),
 Option.some (Value.string (ByteArray.mk #[(112 : UInt8), (114 : UInt8), (105 : UInt8), (99 : UInt8), (101 : UInt8)])),
 Option.some (Value.string (ByteArray.mk #[(99 : UInt8), (97 : UInt8), (102 : UInt8), (195 : UInt8), (169 : UInt8)])),
 Option.some (Value.string (ByteArray.mk #[(98 : UInt8), (50 : UInt8)]))]
 ((0 : Nat) + Int.toNat (Int.tmod p (6 : Int)) * (1 : Nat)))
 (ByteArray.mk #[(32 : UInt8)]))
 (S
 [Option.some (Value.string (ByteArray.mk #[(120 : UInt8)])), Option.some (Value.string (ByteArray.mk #[(121 : UInt8), (49 : UInt8)])),
 Option.some (Value.string (ByteArray.mk #[(122 : UInt8), (95 : UInt8)])),
 Option.some (Value.string (ByteArray.mk #[(112 : UInt8), (114 : UInt8), (105 : UInt8), (99 : UInt8), (101 : UInt8)])),
 Option.some (Value.string (ByteArray.mk #[(99 : UInt8), (97 : UInt8), (102 : UInt8), (195 : UInt8), (169 : UInt8)])),
 Option.some (Value.string (ByteArray.mk #[(98 : UInt8), (50 : UInt8)]))]
 ((0 : Nat) + Int.toNat (Int.tmod q (6 : Int)) * (1 : Nat))))) +
 (4 : Nat))
 (9223372036854775807 : Nat))
 (TotP base (11 : Nat)
 [Value.string
 (strCat
 (strCat (ByteArray.mk #[(114 : UInt8), (46 : UInt8)])
 (strCat
 (strCat
 (S
 [Option.some (Value.string (ByteArray.mk #[(120 : UInt8)])), Option.some (Value.string (ByteArray.mk #[(121 : UInt8), (49 : UInt8)])),
 Option.some (Value.string (ByteArray.mk #[(122 : UInt8), (95 : UInt8)])),
 Option.some (Value.string (ByteArray.mk #[(112 : UInt8), (114 : UInt8), (105 : UInt8), (99 : UInt8), (101 : UInt8)])),
 Option.some (Value.string (ByteArray.mk #[(99 : UInt8), (97 : UInt8), (102 : UInt8), (195 : UInt8), (169 : UInt8)])),
 Option.some (Value.string (ByteArray.mk #[(98 : UInt8), (50 : UInt8)]))]
 ((0 : Nat) + Int.toNat (Int.tmod p (6 : Int)) * (1 : Nat)))
 (ByteArray.mk #[(32 : UInt8)]))
 (S
 [Option.some (Value.string (ByteArray.mk #[(120 : UInt8)])), Option.some (Value.string (ByteArray.mk #[(121 : UInt8), (49 : UInt8)])),
 Option.some (Value.string (ByteArray.mk #[(122 : UInt8), (95 : UInt8)])),
 Option.some (Value.string (ByteArray.mk #[(112 : UInt8), (114 : UInt8), (105 : UInt8), (99 : UInt8), (101 : UInt8)])),
 Option.some (Value.string (ByteArray.mk #[(99 : UInt8), (97 : UInt8), (102 : UInt8), (195 : UInt8), (169 : UInt8)])),
 Option.some (Value.string (ByteArray.mk #[(98 : UInt8), (50 : UInt8)]))]
 ((0 : Nat) + Int.toNat (Int.tmod q (6 : Int)) * (1 : Nat)))))
 (ByteArray.mk #[(32 : UInt8), (43 : UInt8), (32 : UInt8), (49 : UInt8)])),
 Value.string
 (strCat
 (strCat (ByteArray.mk #[(40 : UInt8), (114 : UInt8), (41 : UInt8), (46 : UInt8)])
 (strCat
 (strCat
 (S
 [Option.some (Value.string (ByteArray.mk #[(120 : UInt8)])), Option.some (Value.string (ByteArray.mk #[(121 : UInt8), (49 : UInt8)])),
 Option.some (Value.string (ByteArray.mk #[(122 : UInt8), (95 : UInt8)])),
 Option.some (Value.string (ByteArray.mk #[(112 : UInt8), (114 : UInt8), (105 : UInt8), (99 : UInt8), (101 : UInt8)])),
 Option.some (Value.string (ByteArray.mk #[(99 : UInt8), (97 : UInt8), (102 : UInt8), (195 : UInt8), (169 : UInt8)])),
 Option.some (Value.string (ByteArray.mk #[(98 : UInt8), (50 : UInt8)]))]
 ((0 : Nat) + Int.toNat (Int.tmod p (6 : Int)) * (1 : Nat)))
 (ByteArray.mk #[(32 : UInt8)]))
 (S
 [Option.some (Value.string (ByteArray.mk #[(120 : UInt8)])), Option.some (Value.string (ByteArray.mk #[(121 : UInt8), (49 : UInt8)])),
 Option.some (Value.string (ByteArray.mk #[(122 : UInt8), (95 : UInt8)])),
 Option.some (Value.string (ByteArray.mk #[(112 : UInt8), (114 : UInt8), (105 : UInt8), (99 : UInt8), (101 : UInt8)])),
 Option.some (Value.string (ByteArray.mk #[(99 : UInt8), (97 : UInt8), (102 : UInt8), (195 : UInt8), (169 : UInt8)])),
 Option.some (Value.string (ByteArray.mk #[(98 : UInt8), (50 : UInt8)]))]
 ((0 : Nat) + Int.toNat (Int.tmod q (6 : Int)) * (1 : Nat)))))
 (ByteArray.mk #[(32 : UInt8), (43 : UInt8), (32 : UInt8), (49 : UInt8)])),
 Value.slice Option.none (0 : Nat) (0 : Nat)]
 (Value.bool Bool.true) ∧
 bsel
 (Nat.ble
 (strLen
 (S
 [Option.some (Value.string (ByteArray.mk #[(120 : UInt8)])), Option.some (Value.string (ByteArray.mk #[(121 : UInt8), (49 : UInt8)])),
 Option.some (Value.string (ByteArray.mk #[(122 : UInt8), (95 : UInt8)])),
 Option.some (Value.string (ByteArray.mk #[(112 : UInt8), (114 : UInt8), (105 : UInt8), (99 : UInt8), (101 : UInt8)])),
 Option.some (Value.string (ByteArray.mk #[(99 : UInt8), (97 : UInt8), (102 : UInt8), (195 : UInt8), (169 : UInt8)])),
 Option.some (Value.string (ByteArray.mk #[(98 : UInt8), (50 : UInt8)]))]
 ((0 : Nat) + Int.toNat (Int.tmod p (6 : Int)) * (1 : Nat))) +
 (1 : Nat))
 (9223372036854775807 : Nat))
 (bsel
 (Nat.ble
 (strLen
 (strCat
 (S
 [Option.some (Value.string (ByteArray.mk #[(120 : UInt8)])), Option.some (Value.string (ByteArray.mk #[(121 : UInt8), (49 : UInt8)])),
 Option.some (Value.string (ByteArray.mk #[(122 : UInt8), (95 : UInt8)])),
 Option.some (Value.string (ByteArray.mk #[(112 : UInt8), (114 : UInt8), (105 : UInt8), (99 : UInt8), (101 : UInt8)])),
 Option.some (Value.string (ByteArray.mk #[(99 : UInt8), (97 : UInt8), (102 : UInt8), (195 : UInt8), (169 : UInt8)])),
 Option.some (Value.string (ByteArray.mk #[(98 : UInt8), (50 : UInt8)]))]
 ((0 : Nat) + Int.toNat (Int.tmod p (6 : Int)) * (1 : Nat)))
 (ByteArray.mk #[(43 : UInt8)])) +
 strLen
 (S
 [Option.some (Value.string (ByteArray.mk #[(120 : UInt8)])), Option.some (Value.string (ByteArray.mk #[(121 : UInt8), (49 : UInt8)])),
 Option.some (Value.string (ByteArray.mk #[(122 : UInt8), (95 : UInt8)])),
 Option.some (Value.string (ByteArray.mk #[(112 : UInt8), (114 : UInt8), (105 : UInt8), (99 : UInt8), (101 : UInt8)])),
 Option.some (Value.string (ByteArray.mk #[(99 : UInt8), (97 : UInt8), (102 : UInt8), (195 : UInt8), (169 : UInt8)])),
 Option.some (Value.string (ByteArray.mk #[(98 : UInt8), (50 : UInt8)]))]
 ((0 : Nat) + Int.toNat (Int.tmod q (6 : Int)) * (1 : Nat))))
 (9223372036854775807 : Nat))
 (bsel
 (Nat.ble
 (strLen
 (S
 [Option.some (Value.string (ByteArray.mk #[(120 : UInt8)])), Option.some (Value.string (ByteArray.mk #[(121 : UInt8), (49 : UInt8)])),
 Option.some (Value.string (ByteArray.mk #[(122 : UInt8), (95 : UInt8)])),
 Option.some (Value.string (ByteArray.mk #[(112 : UInt8), (114 : UInt8), (105 : UInt8), (99 : UInt8), (101 : UInt8)])),
 Option.some (Value.string (ByteArray.mk #[(99 : UInt8), (97 : UInt8), (102 : UInt8), (195 : UInt8), (169 : UInt8)])),
 Option.some (Value.string (ByteArray.mk #[(98 : UInt8), (50 : UInt8)]))]
 ((0 : Nat) + Int.toNat (Int.tmod p (6 : Int)) * (1 : Nat))) +
 (1 : Nat))
 (9223372036854775807 : Nat))
 (bsel
 (Nat.ble
 (strLen
 (strCat
 (S
 [Option.some (Value.string (ByteArray.mk #[(120 : UInt8)])), Option.some (Value.string (ByteArray.mk #[(121 : UInt8), (49 : UInt8)])),
 Option.some (Value.string (ByteArray.mk #[(122 : UInt8), (95 : UInt8)])),
 Option.some (Value.string (ByteArray.mk #[(112 : UInt8), (114 : UInt8), (105 : UInt8), (99 : UInt8), (101 : UInt8)])),
 Option.some (Value.string (ByteArray.mk #[(99 : UInt8), (97 : UInt8), (102 : UInt8), (195 : UInt8), (169 : UInt8)])),
 Option.some (Value.string (ByteArray.mk #[(98 : UInt8), (50 : UInt8)]))]
 ((0 : Nat) + Int.toNat (Int.tmod p (6 : Int)) * (1 : Nat)))
 (ByteArray.mk #[(43 : UInt8)])) +
 strLen
 (S
 [Option.some (Value.string (ByteArray.mk #[(120 : UInt8)])), Option.some (Value.string (ByteArray.mk #[(121 : UInt8), (49 : UInt8)])),
 Option.some (Value.string (ByteArray.mk #[(122 : UInt8), (95 : UInt8)])),
 Option.some (Value.string (ByteArray.mk #[(112 : UInt8), (114 : UInt8), (105 : UInt8), (99 : UInt8), (101 : UInt8)])),
 Option.some (Value.string (ByteArray.mk #[(99 : UInt8), (97 : UInt8), (102 : UInt8), (195 : UInt8), (169 : UInt8)])),
 Option.some (Value.string (ByteArray.mk #[(98 : UInt8), (50 : UInt8)]))]
 ((0 : Nat) + Int.toNat (Int.tmod q (6 : Int)) * (1 : Nat))))
 (9223372036854775807 : Nat))
 (bsel
 (Nat.ble
 (strLen
 (S
 [Option.some (Value.string (ByteArray.mk #[(120 : UInt8)])), Option.some (Value.string (ByteArray.mk #[(121 : UInt8), (49 : UInt8)])),
 Option.some (Value.string (ByteArray.mk #[(122 : UInt8), (95 : UInt8)])),
 Option.some (Value.string (ByteArray.mk #[(112 : UInt8), (114 : UInt8), (105 : UInt8), (99 : UInt8), (101 : UInt8)])),
 Option.some (Value.string (ByteArray.mk #[(99 : UInt8), (97 : UInt8), (102 : UInt8), (195 : UInt8), (169 : UInt8)])),
 Option.some (Value.string (ByteArray.mk #[(98 : UInt8), (50 : UInt8)]))]
 ((0 : Nat) + Int.toNat (Int.tmod p (6 : Int)) * (1 : Nat))) +
 (1 : Nat))
 (9223372036854775807 : Nat))
 (bsel
 (Nat.ble
 (strLen
 (strCat
 (S
 [Option.some (Value.string (ByteArray.mk #[(120 : UInt8)])),
 Option.some (Value.string (ByteArray.mk #[(121 : UInt8), (49 : UInt8)])),
 Option.some (Value.string (ByteArray.mk #[(122 : UInt8), (95 : UInt8)])),
 Option.some (Value.string (ByteArray.mk #[(112 : UInt8), (114 : UInt8), (105 : UInt8), (99 : UInt8), (101 : UInt8)])),
 Option.some (Value.string (ByteArray.mk #[(99 : UInt8), (97 : UInt8), (102 : UInt8), (195 : UInt8), (169 : UInt8)])),
 Option.some (Value.string (ByteArray.mk #[(98 : UInt8), (50 : UInt8)]))]
 ((0 : Nat) + Int.toNat (Int.tmod p (6 : Int)) * (1 : Nat)))
 (ByteArray.mk #[(43 : UInt8)])) +
 strLen
 (S
 [Option.some (Value.string (ByteArray.mk #[(120 : UInt8)])),
 Option.some (Value.string (ByteArray.mk #[(121 : UInt8), (49 : UInt8)])),
 Option.some (Value.string (ByteArray.mk #[(122 : UInt8), (95 : UInt8)])),
 Option.some (Value.string (ByteArray.mk #[(112 : UInt8), (114 : UInt8), (105 : UInt8), (99 : UInt8), (101 : UInt8)])),
 Option.some (Value.string (ByteArray.mk #[(99 : UInt8), (97 : UInt8), (102 : UInt8), (195 : UInt8), (169 : UInt8)])),
 Option.some (Value.string (ByteArray.mk #[(98 : UInt8), (50 : UInt8)]))]
 ((0 : Nat) + Int.toNat (Int.tmod q (6 : Int)) * (1 : Nat))))
 (9223372036854775807 : Nat))
 (TotS base (11 : Nat)
 [Value.string
 (strCat
 (strCat
 (S
 [Option.some (Value.string (ByteArray.mk #[(120 : UInt8)])),
 Option.some (Value.string (ByteArray.mk #[(121 : UInt8), (49 : UInt8)])),
 Option.some (Value.string (ByteArray.mk #[(122 : UInt8), (95 : UInt8)])),
 Option.some (Value.string (ByteArray.mk #[(112 : UInt8), (114 : UInt8), (105 : UInt8), (99 : UInt8), (101 : UInt8)])),
 Option.some (Value.string (ByteArray.mk #[(99 : UInt8), (97 : UInt8), (102 : UInt8), (195 : UInt8), (169 : UInt8)])),
 Option.some (Value.string (ByteArray.mk #[(98 : UInt8), (50 : UInt8)]))]
 ((0 : Nat) + Int.toNat (Int.tmod p (6 : Int)) * (1 : Nat)))
 (ByteArray.mk #[(43 : UInt8)]))
 (S
 [Option.some (Value.string (ByteArray.mk #[(120 : UInt8)])),
 Option.some (Value.string (ByteArray.mk #[(121 : UInt8), (49 : UInt8)])),
 Option.some (Value.string (ByteArray.mk #[(122 : UInt8), (95 : UInt8)])),
 Option.some (Value.string (ByteArray.mk #[(112 : UInt8), (114 : UInt8), (105 : UInt8), (99 : UInt8), (101 : UInt8)])),
 Option.some (Value.string (ByteArray.mk #[(99 : UInt8), (97 : UInt8), (102 : UInt8), (195 : UInt8), (169 : UInt8)])),
 Option.some (Value.string (ByteArray.mk #[(98 : UInt8), (50 : UInt8)]))]
 ((0 : Nat) + Int.toNat (Int.tmod q (6 : Int)) * (1 : Nat)))),
 Value.string
 (strCat
 (strCat
 (S
 [Option.some (Value.string (ByteArray.mk #[(120 : UInt8)])),
 Option.some (Value.string (ByteArray.mk #[(121 : UInt8), (49 : UInt8)])),
 Option.some (Value.string (ByteArray.mk #[(122 : UInt8), (95 : UInt8)])),
 Option.some (Value.string (ByteArray.mk #[(112 : UInt8), (114 : UInt8), (105 : UInt8), (99 : UInt8), (101 : UInt8)])),
 Option.some (Value.string (ByteArray.mk #[(99 : UInt8), (97 : UInt8), (102 : UInt8), (195 : UInt8), (169 : UInt8)])),
 Option.some (Value.string (ByteArray.mk #[(98 : UInt8), (50 : UInt8)]))]
 ((0 : Nat) + Int.toNat (Int.tmod p (6 : Int)) * (1 : Nat)))
 (ByteArray.mk #[(43 : UInt8)]))
 (S
 [Option.some (Value.string (ByteArray.mk #[(120 : UInt8)])),
 Option.some (Value.string (ByteArray.mk #[(121 : UInt8), (49 : UInt8)])),
 Option.some (Value.string (ByteArray.mk #[(122 : UInt8), (95 : UInt8)])),
 Option.some (Value.string (ByteArray.mk #[(112 : UInt8), (114 : UInt8), (105 : UInt8), (99 : UInt8), (101 : UInt8)])),
 Option.some (Value.string (ByteArray.mk #[(99 : UInt8), (97 : UInt8), (102 : UInt8), (195 : UInt8), (169 : UInt8)])),
 Option.some (Value.string (ByteArray.mk #[(98 : UInt8), (50 : UInt8)]))]
 ((0 : Nat) + Int.toNat (Int.tmod q (6 : Int)) * (1 : Nat))))]
 [strCat
 (strCat
 (S
 [Option.some (Value.string (ByteArray.mk #[(120 : UInt8)])),
 Option.some (Value.string (ByteArray.mk #[(121 : UInt8), (49 : UInt8)])),
 Option.some (Value.string (ByteArray.mk #[(122 : UInt8), (95 : UInt8)])),
 Option.some (Value.string (ByteArray.mk #[(112 : UInt8), (114 : UInt8), (105 : UInt8), (99 : UInt8), (101 : UInt8)])),
 Option.some (Value.string (ByteArray.mk #[(99 : UInt8), (97 : UInt8), (102 : UInt8), (195 : UInt8), (169 : UInt8)])),
 Option.some (Value.string (ByteArray.mk #[(98 : UInt8), (50 : UInt8)]))]
 ((0 : Nat) + Int.toNat (Int.tmod p (6 : Int)) * (1 : Nat)))
 (ByteArray.mk #[(43 : UInt8)]))
 (S
 [Option.some (Value.string (ByteArray.mk #[(120 : UInt8)])),
 Option.some (Value.string (ByteArray.mk #[(121 : UInt8), (49 : UInt8)])),
 Option.some (Value.string (ByteArray.mk #[(122 : UInt8), (95 : UInt8)])),
 Option.some (Value.string (ByteArray.mk #[(112 : UInt8), (114 : UInt8), (105 : UInt8), (99 : UInt8), (101 : UInt8)])),
 Option.some (Value.string (ByteArray.mk #[(99 : UInt8), (97 : UInt8), (102 : UInt8), (195 : UInt8), (169 : UInt8)])),
 Option.some (Value.string (ByteArray.mk #[(98 : UInt8), (50 : UInt8)]))]
 ((0 : Nat) + Int.toNat (Int.tmod q (6 : Int)) * (1 : Nat)))]
 (Value.bool Bool.true) ∧
 K (Value.bool Bool.true) (18446744073709551616 : Nat))
 False)
 False)
 False)
 False)
 False)
 False)
 False)
 False)
 False)
 False)
 False)
 False)
 False)
 False)
 False)
 False)
 (TotS base (10 : Nat)
 [Value.string
 (strCat
 (strCat
 (S
 [Option.some (Value.string (ByteArray.mk #[(120 : UInt8)])), Option.some (Value.string (ByteArray.mk #[(121 : UInt8), (49 : UInt8)])),
 Option.some (Value.string (ByteArray.mk #[(122 : UInt8), (95 : UInt8)])),
 Option.some (Value.string (ByteArray.mk #[(112 : UInt8), (114 : UInt8), (105 : UInt8), (99 : UInt8), (101 : UInt8)])),
 Option.some (Value.string (ByteArray.mk #[(99 : UInt8), (97 : UInt8), (102 : UInt8), (195 : UInt8), (169 : UInt8)])),
 Option.some (Value.string (ByteArray.mk #[(98 : UInt8), (50 : UInt8)]))]
 ((0 : Nat) + Int.toNat (Int.tmod p (6 : Int)) * (1 : Nat)))
 (ByteArray.mk #[(32 : UInt8)]))
 (S
 [Option.some (Value.string (ByteArray.mk #[(120 : UInt8)])), Option.some (Value.string (ByteArray.mk #[(121 : UInt8), (49 : UInt8)])),
 Option.some (Value.string (ByteArray.mk #[(122 : UInt8), (95 : UInt8)])),
 Option.some (Value.string (ByteArray.mk #[(112 : UInt8), (114 : UInt8), (105 : UInt8), (99 : UInt8), (101 : UInt8)])),
 Option.some (Value.string (ByteArray.mk #[(99 : UInt8), (97 : UInt8), (102 : UInt8), (195 : UInt8), (169 : UInt8)])),
 Option.some (Value.string (ByteArray.mk #[(98 : UInt8), (50 : UInt8)]))]
 ((0 : Nat) + Int.toNat (Int.tmod q (6 : Int)) * (1 : Nat))))]
 [S
 [Option.some (Value.string (ByteArray.mk #[(120 : UInt8)])), Option.some (Value.string (ByteArray.mk #[(121 : UInt8), (49 : UInt8)])),
 Option.some (Value.string (ByteArray.mk #[(122 : UInt8), (95 : UInt8)])),
 Option.some (Value.string (ByteArray.mk #[(112 : UInt8), (114 : UInt8), (105 : UInt8), (99 : UInt8), (101 : UInt8)])),
 Option.some (Value.string (ByteArray.mk #[(99 : UInt8), (97 : UInt8), (102 : UInt8), (195 : UInt8), (169 : UInt8)])),
 Option.some (Value.string (ByteArray.mk #[(98 : UInt8), (50 : UInt8)]))]
 ((0 : Nat) + Int.toNat (Int.tmod p (6 : Int)) * (1 : Nat)),
 S
 [Option.some (Value.string (ByteArray.mk #[(120 : UInt8)])), Option.some (Value.string (ByteArray.mk #[(121 : UInt8), (49 : UInt8)])),
 Option.some (Value.string (ByteArray.mk #[(122 : UInt8), (95 : UInt8)])),
 Option.some (Value.string (ByteArray.mk #[(112 : UInt8), (114 : UInt8), (105 : UInt8), (99 : UInt8), (101 : UInt8)])),
 Option.some (Value.string (ByteArray.mk #[(99 : UInt8), (97 : UInt8), (102 : UInt8), (195 : UInt8), (169 : UInt8)])),
 Option.some (Value.string (ByteArray.mk #[(98 : UInt8), (50 : UInt8)]))]
 ((0 : Nat) + Int.toNat (Int.tmod q (6 : Int)) * (1 : Nat))]
 (Value.tuple
 (Array.mk
 [Value.agg
 (Array.mk
 [Value.int IntKind.i64 (Int.ofNat (0 : Nat)), Value.string (ByteArray.mk #[]), Value.slice Option.none (0 : Nat) (0 : Nat),
 Value.slice Option.none (0 : Nat) (0 : Nat), Value.slice Option.none (0 : Nat) (0 : Nat), Value.bool Bool.false, Value.bool Bool.false]),
 Value.bool Bool.false])) ∧
 bsel
 (Nat.ble
 (strLen
 (S
 [Option.some (Value.string (ByteArray.mk #[(120 : UInt8)])), Option.some (Value.string (ByteArray.mk #[(121 : UInt8), (49 : UInt8)])),
 Option.some (Value.string (ByteArray.mk #[(122 : UInt8), (95 : UInt8)])),
 Option.some (Value.string (ByteArray.mk #[(112 : UInt8), (114 : UInt8), (105 : UInt8), (99 : UInt8), (101 : UInt8)])),
 Option.some (Value.string (ByteArray.mk #[(99 : UInt8), (97 : UInt8), (102 : UInt8), (195 : UInt8), (169 : UInt8)])),
 Option.some (Value.string (ByteArray.mk #[(98 : UInt8), (50 : UInt8)]))]
 ((0 : Nat) + Int.toNat (Int.tmod p (6 : Int)) * (1 : Nat))) +
 (1 : Nat))
 (9223372036854775807 : Nat))
 (bsel
 (Nat.ble
 (strLen
 (strCat
 (S
 [Option.some (Value.string (ByteArray.mk #[(120 : UInt8)])), Option.some (Value.string (ByteArray.mk #[(121 : UInt8), (49 : UInt8)])),
 Option.some (Value.string (ByteArray.mk #[(122 : UInt8), (95 : UInt8)])),
 Option.some (Value.string (ByteArray.mk #[(112 : UInt8), (114 : UInt8), (105 : UInt8), (99 : UInt8), (101 : UInt8)])),
 Option.some (Value.string (ByteArray.mk #[(99 : UInt8), (97 : UInt8), (102 : UInt8), (195 : UInt8), (169 : UInt8)])),
 Option.some (Value.string (ByteArray.mk #[(98 : UInt8), (50 : UInt8)]))]
 ((0 : Nat) + Int.toNat (Int.tmod p (6 : Int)) * (1 : Nat)))
 (ByteArray.mk #[(43 : UInt8)])) +
 strLen
 (S
 [Option.some (Value.string (ByteArray.mk #[(120 : UInt8)])), Option.some (Value.string (ByteArray.mk #[(121 : UInt8), (49 : UInt8)])),
 Option.some (Value.string (ByteArray.mk #[(122 : UInt8), (95 : UInt8)])),
 Option.some (Value.string (ByteArray.mk #[(112 : UInt8), (114 : UInt8), (105 : UInt8), (99 : UInt8), (101 : UInt8)])),
 Option.some (Value.string (ByteArray.mk #[(99 : UInt8), (97 : UInt8), (102 : UInt8), (195 : UInt8), (169 : UInt8)])),
 Option.some (Value.string (ByteArray.mk #[(98 : UInt8), (50 : UInt8)]))]
 ((0 : Nat) + Int.toNat (Int.tmod q (6 : Int)) * (1 : Nat))))
 (9223372036854775807 : Nat))
 (bsel
 (Nat.ble
 ((1 : Nat) +
 strLen
 (S
 [Option.some (Value.string (ByteArray.mk #[(120 : UInt8)])), Option.some (Value.string (ByteArray.mk #[(121 : UInt8), (49 : UInt8)])),
 Option.some (Value.string (ByteArray.mk #[(122 : UInt8), (95 : UInt8)])),
 Option.some (Value.string (ByteArray.mk #[(112 : UInt8), (114 : UInt8), (105 : UInt8), (99 : UInt8), (101 : UInt8)])),
 Option.some (Value.string (ByteArray.mk #[(99 : UInt8), (97 : UInt8), (102 : UInt8), (195 : UInt8), (169 : UInt8)])),
 Option.some (Value.string (ByteArray.mk #[(98 : UInt8), (50 : UInt8)]))]
 ((0 : Nat) + Int.toNat (Int.tmod p (6 : Int)) * (1 : Nat))))
 (9223372036854775807 : Nat))
 (bsel
 (Nat.ble
 (strLen
 (strCat (ByteArray.mk #[(40 : UInt8)])
 (S
 [Option.some (Value.string (ByteArray.mk #[(120 : UInt8)])), Option.some (Value.string (ByteArray.mk #[(121 : UInt8), (49 : UInt8)])),
 Option.some (Value.string (ByteArray.mk #[(122 : UInt8), (95 : UInt8)])),
 Option.some (Value.string (ByteArray.mk #[(112 : UInt8), (114 : UInt8), (105 : UInt8), (99 : UInt8), (101 : UInt8)])),
 Option.some (Value.string (ByteArray.mk #[(99 : UInt8), (97 : UInt8), (102 : UInt8), (195 : UInt8), (169 : UInt8)])),
 Option.some (Value.string (ByteArray.mk #[(98 : UInt8), (50 : UInt8)]))]
 ((0 : Nat) + Int.toNat (Int.tmod p (6 : Int)) * (1 : Nat)))) +
 (5 : Nat))
 (9223372036854775807 : Nat))
 (bsel
 (Nat.ble
 (strLen
 (strCat
 (strCat (ByteArray.mk #[(40 : UInt8)])
 (S
 [Option.some (Value.string (ByteArray.mk #[(120 : UInt8)])), Option.some (Value.string (ByteArray.mk #[(121 : UInt8), (49 : UInt8)])),
 Option.some (Value.string (ByteArray.mk #[(122 : UInt8), (95 : UInt8)])),
 Option.some (Value.string (ByteArray.mk #[(112 : UInt8), (114 : UInt8), (105 : UInt8), (99 : UInt8), (101 : UInt8)])),
 Option.some (Value.string (ByteArray.mk #[(99 : UInt8), (97 : UInt8), (102 : UInt8), (195 : UInt8), (169 : UInt8)])),
 Option.some (Value.string (ByteArray.mk #[(98 : UInt8), (50 : UInt8)]))]
 ((0 : Nat) + Int.toNat (Int.tmod p (6 : Int)) * (1 : Nat))))
 (ByteArray.mk #[(41 : UInt8), (32 : UInt8), (43 : UInt8), (32 : UInt8), (40 : UInt8)])) +
 strLen
 (S
 [Option.some (Value.string (ByteArray.mk #[(120 : UInt8)])), Option.some (Value.string (ByteArray.mk #[(121 : UInt8), (49 : UInt8)])),
 Option.some (Value.string (ByteArray.mk #[(122 : UInt8), (95 : UInt8)])),
 Option.some (Value.string (ByteArray.mk #[(112 : UInt8), (114 : UInt8), (105 : UInt8), (99 : UInt8), (101 : UInt8)])),
 Option.some (Value.string (ByteArray.mk #[(99 : UInt8), (97 : UInt8), (102 : UInt8), (195 : UInt8), (169 : UInt8)])),
 Option.some (Value.string (ByteArray.mk #[(98 : UInt8), (50 : UInt8)]))]
 ((0 : Nat) + Int.toNat (Int.tmod q (6 : Int)) * (1 : Nat))))
 (9223372036854775807 : Nat))
 (bsel
 (Nat.ble
 (strLen
 (strCat
 (strCat
 (strCat (ByteArray.mk #[(40 : UInt8)])
 (S
 [Option.some (Value.string (ByteArray.mk #[(120 : UInt8)])), Option.some (Value.string (ByteArray.mk #[(121 : UInt8), (49 : UInt8)])),
 Option.some (Value.string (ByteArray.mk #[(122 : UInt8), (95 : UInt8)])),
 Option.some (Value.string (ByteArray.mk #[(112 : UInt8), (114 : UInt8), (105 : UInt8), (99 : UInt8), (101 : UInt8)])),
 Option.some (Value.string (ByteArray.mk #[(99 : UInt8), (97 : UInt8), (102 : UInt8), (195 : UInt8), (169 : UInt8)])),
 Option.some (Value.string (ByteArray.mk #[(98 : UInt8), (50 : UInt8)]))]
 ((0 : Nat) + Int.toNat (Int.tmod p (6 : Int)) * (1 : Nat))))
 (ByteArray.mk #[(41 : UInt8), (32 : UInt8), (43 : UInt8), (32 : UInt8), (40 : UInt8)]))
 (S
 [Option.some (Value.string (ByteArray.mk #[(120 : UInt8)])), Option.some (Value.string (ByteArray.mk #[(121 : UInt8), (49 : UInt8)])),
 Option.some (Value.string (ByteArray.mk #[(122 : UInt8), (95 : UInt8)])),
 Option.some (Value.string (ByteArray.mk #[(112 : UInt8), (114 : UInt8), (105 : UInt8), (99 : UInt8), (101 : UInt8)])),
 Option.some (Value.string (ByteArray.mk #[(99 : UInt8), (97 : UInt8), (102 : UInt8), (195 : UInt8), (169 : UInt8)])),
 Option.some (Value.string (ByteArray.mk #[(98 : UInt8), (50 : UInt8)]))]
 ((0 : Nat) + Int.toNat (Int.tmod q (6 : Int)) * (1 : Nat)))) +
 (1 : Nat))
 (9223372036854775807 : Nat))
 (TotP base (11 : Nat)
 [Value.string
 (strCat
 (strCat
 (S
 [Option.some (Value.string (ByteArray.mk #[(120 : UInt8)])), Option.some (Value.string (ByteArray.mk #[(121 : UInt8), (49 : UInt8)])),
 Option.some (Value.string (ByteArray.mk #[(122 : UInt8), (95 : UInt8)])),
 Option.some (Value.string (ByteArray.mk #[(112 : UInt8), (114 : UInt8), (105 : UInt8), (99 : UInt8), (101 : UInt8)])),
 Option.some (Value.string (ByteArray.mk #[(99 : UInt8), (97 : UInt8), (102 : UInt8), (195 : UInt8), (169 : UInt8)])),
 Option.some (Value.string (ByteArray.mk #[(98 : UInt8), (50 : UInt8)]))]
 ((0 : Nat) + Int.toNat (Int.tmod p (6 : Int)) * (1 : Nat)))
 (ByteArray.mk #[(43 : UInt8)]))
 (S
 [Option.some (Value.string (ByteArray.mk #[(120 : UInt8)])), Option.some (Value.string (ByteArray.mk #[(121 : UInt8), (49 : UInt8)])),
 Option.some (Value.string (ByteArray.mk #[(122 : UInt8), (95 : UInt8)])),
 Option.some (Value.string (ByteArray.mk #[(112 : UInt8), (114 : UInt8), (105 : UInt8), (99 : UInt8), (101 : UInt8)])),
 Option.some (Value.string (ByteArray.mk #[(99 : UInt8), (97 : UInt8), (102 : UInt8), (195 : UInt8), (169 : UInt8)])),
 Option.some (Value.string (ByteArray.mk #[(98 : UInt8), (50 : UInt8)]))]
 ((0 : Nat) + Int.toNat (Int.tmod q (6 : Int)) * (1 : Nat)))),
 Value.string
 (strCat
 (strCat
 (strCat
 (strCat (ByteArray.mk #[(40 : UInt8)])
 (S
 [Option.some (Value.string (ByteArray.mk #[(120 : UInt8)])), Option.some (Value.string (ByteArray.mk #[(121 : UInt8), (49 : UInt8)])),
 Option.some (Value.string (ByteArray.mk #[(122 : UInt8), (95 : UInt8)])),
 Option.some (Value.string (ByteArray.mk #[(112 : UInt8), (114 : UInt8), (105 : UInt8), (99 : UInt8), (101 : UInt8)])),
 Option.some (Value.string (ByteArray.mk #[(99 : UInt8), (97 : UInt8), (102 : UInt8), (195 : UInt8), (169 : UInt8)])),
 Option.some (Value.string (ByteArray.mk #[(98 : UInt8), (50 : UInt8)]))]
 ((0 : Nat) + Int.toNat (Int.tmod p (6 : Int)) * (1 : Nat))))
 (ByteArray.mk #[(41 : UInt8), (32 : UInt8), (43 : UInt8), (32 : UInt8), (40 : UInt8)]))
 (S
 [Option.some (Value.string (ByteArray.mk #[(120 : UInt8)])), Option.some (Value.string (ByteArray.mk #[(121 : UInt8), (49 : UInt8)])),
 Option.some (Value.string (ByteArray.mk #[(122 : UInt8), (95 : UInt8)])),
 Option.some (Value.string (ByteArray.mk #[(112 : UInt8), (114 : UInt8), (105 : UInt8), (99 : UInt8), (101 : UInt8)])),
 Option.some (Value.string (ByteArray.mk #[(99 : UInt8), (97 : UInt8), (102 : UInt8), (195 : UInt8), (169 : UInt8)])),
 Option.some (Value.string (ByteArray.mk #[(98 : UInt8), (50 : UInt8)]))]
 ((0 : Nat) + Int.toNat (Int.tmod q (6 : Int)) * (1 : Nat))))
 (ByteArray.mk #[(41 : UInt8)])),
 Value.slice Option.none (0 : Nat) (0 : Nat)]
 (Value.bool Bool.true) ∧
 bsel
 (Nat.ble
 ((1 : Nat) +
 strLen
 (strCat
 (strCat
 (S
 [Option.some (Value.string (ByteArray.mk #[(120 : UInt8)])), Option.some (Value.string (ByteArray.mk #[(121 : UInt8), (49 : UInt8)])),
 Option.some (Value.string (ByteArray.mk #[(122 : UInt8), (95 : UInt8)])),
 Option.some (Value.string (ByteArray.mk #[(112 : UInt8), (114 : UInt8), (105 : UInt8), (99 : UInt8), (101 : UInt8)])),
 Option.some (Value.string (ByteArray.mk #[(99 : UInt8), (97 : UInt8), (102 : UInt8), (195 : UInt8), (169 : UInt8)])),
 Option.some (Value.string (ByteArray.mk #[(98 : UInt8), (50 : UInt8)]))]
 ((0 : Nat) + Int.toNat (Int.tmod p (6 : Int)) * (1 : Nat)))
 (ByteArray.mk #[(32 : UInt8)]))
 (S
 [Option.some (Value.string (ByteArray.mk #[(120 : UInt8)])), Option.some (Value.string (ByteArray.mk #[(121 : UInt8), (49 : UInt8)])),
 Option.some (Value.string (ByteArray.mk #[(122 : UInt8), (95 : UInt8)])),
 Option.some (Value.string (ByteArray.mk #[(112 : UInt8), (114 : UInt8), (105 : UInt8), (99 : UInt8), (101 : UInt8)])),
 Option.some (Value.string (ByteArray.mk #[(99 : UInt8), (97 : UInt8), (102 : UInt8), (195 : UInt8), (169 : UInt8)])),
 Option.some (Value.string (ByteArray.mk #[(98 : UInt8), (50 : UInt8)]))]
 ((0 : Nat) + Int.toNat (Int.tmod q (6 : Int)) * (1 : Nat)))))
 (9223372036854775807 : Nat))
 (bsel
 (Nat.ble
 (strLen
 (strCat (ByteArray.mk #[(123 : UInt8)])
 (strCat
 (strCat
 (S
 [Option.some (Value.string (ByteArray.mk #[(120 : UInt8)])), Option.some (Value.string (ByteArray.mk #[(121 : UInt8), (49 : UInt8)])),
 Option.some (Value.string (ByteArray.mk #[(122 : UInt8), (95 : UInt8)])),
 Option.some (Value.string (ByteArray.mk #[(112 : UInt8), (114 : UInt8), (105 : UInt8), (99 : UInt8), (101 : UInt8)])),
 Option.some (Value.string (ByteArray.mk #[(99 : UInt8), (97 : UInt8), (102 : UInt8), (195 : UInt8), (169 : UInt8)])),
 Option.some (Value.string (ByteArray.mk #[(98 : UInt8), (50 : UInt8)]))]
 ((0 : Nat) + Int.toNat (Int.tmod p (6 : Int)) * (1 : Nat)))
 (ByteArray.mk #[(32 : UInt8)]))
 (S
 [Option.some (Value.string (ByteArray.mk #[(120 : UInt8)])), Option.some (Value.string (ByteArray.mk #[(121 : UInt8), (49 : UInt8)])),
 Option.some (Value.string (ByteArray.mk #[(122 : UInt8), (95 : UInt8)])),
 Option.some (Value.string (ByteArray.mk #[(112 : UInt8), (114 : UInt8), (105 : UInt8), (99 : UInt8), (101 : UInt8)])),
 Option.some (Value.string (ByteArray.mk #[(99 : UInt8), (97 : UInt8), (102 : UInt8), (195 : UInt8), (169 : UInt8)])),
 Option.some (Value.string (ByteArray.mk #[(98 : UInt8), (50 : UInt8)]))]
 ((0 : Nat) + Int.toNat (Int.tmod q (6 : Int)) * (1 : Nat))))) +
 (8 : Nat))
 (9223372036854775807 : Nat))
 (bsel
 (Nat.ble
 (strLen
 (strCat
 (strCat (ByteArray.mk #[(123 : UInt8)])
 (strCat
 (strCat
 (S
 [Option.some (Value.string (ByteArray.mk #[(120 : UInt8)])), Option.some (Value.string (ByteArray.mk #[(121 : UInt8), (49 : UInt8)])),
 Option.some (Value.string (ByteArray.mk #[(122 : UInt8), (95 : UInt8)])),
 Option.some (Value.string (ByteArray.mk #[(112 : UInt8), (114 : UInt8), (105 : UInt8), (99 : UInt8), (101 : UInt8)])),
 Option.some (Value.string (ByteArray.mk #[(99 : UInt8), (97 : UInt8), (102 : UInt8), (195 : UInt8), (169 : UInt8)])),
 Option.some (Value.string (ByteArray.mk #[(98 : UInt8), (50 : UInt8)]))]
 ((0 : Nat) + Int.toNat (Int.tmod p (6 : Int)) * (1 : Nat)))
 (ByteArray.mk #[(32 : UInt8)]))
 (S
 [Option.some (Value.string (ByteArray.mk #[(120 : UInt8)])), Option.some (Value.string (ByteArray.mk #[(121 : UInt8), (49 : UInt8)])),
 Option.some (Value.string (ByteArray.mk #[(122 : UInt8), (95 : UInt8)])),
 Option.some (Value.string (ByteArray.mk #[(112 : UInt8), (114 : UInt8), (105 : UInt8), (99 : UInt8), (101 : UInt8)])),
 Option.some (Value.string (ByteArray.mk #[(99 : UInt8), (97 : UInt8), (102 : UInt8), (195 : UInt8), (169 : UInt8)])),
 Option.some (Value.string (ByteArray.mk #[(98 : UInt8), (50 : UInt8)]))]
 ((0 : Nat) + Int.toNat (Int.tmod q (6 : Int)) * (1 : Nat)))))
 (ByteArray.mk #[(58 : UInt8), (32 : UInt8), (49 : UInt8), (44 : UInt8), (32 : UInt8), (107 : UInt8), (58 : UInt8), (32 : UInt8)])) +
 strLen
 (strCat
 (strCat
 (S
 [Option.some (Value.string (ByteArray.mk #[(120 : UInt8)])), Option.some (Value.string (ByteArray.mk #[(121 : UInt8), (49 : UInt8)])),
 Option.some (Value.string (ByteArray.mk #[(122 : UInt8), (95 : UInt8)])),
 Option.some (Value.string (ByteArray.mk #[(112 : UInt8), (114 : UInt8), (105 : UInt8), (99 : UInt8), (101 : UInt8)])),
 Option.some (Value.string (ByteArray.mk #[(99 : UInt8), (97 : UInt8), (102 : UInt8), (195 : UInt8), (169 : UInt8)])),
 Option.some (Value.string (ByteArray.mk #[(98 : UInt8), (50 : UInt8)]))]
 ((0 : Nat) + Int.toNat (Int.tmod p (6 : Int)) * (1 : Nat)))
 (ByteArray.mk #[(32 : UInt8)]))
 (S
 [Option.some (Value.string (ByteArray.mk #[(120 : UInt8)])), Option.some (Value.string (ByteArray.mk #[(121 : UInt8), (49 : UInt8)])),
 Option.some (Value.string (ByteArray.mk #[(122 : UInt8), (95 : UInt8)])),
 Option.some (Value.string (ByteArray.mk #[(112 : UInt8), (114 : UInt8), (105 : UInt8), (99 : UInt8), (101 : UInt8)])),
 Option.some (Value.string (ByteArray.mk #[(99 : UInt8), (97 : UInt8), (102 : UInt8), (195 : UInt8), (169 : UInt8)])),
 Option.some (Value.string (ByteArray.mk #[(98 : UInt8), (50 : UInt8)]))]
 ((0 : Nat) + Int.toNat (Int.tmod q (6 : Int)) * (1 : Nat)))))
 (9223372036854775807 : Nat))
 (bsel
 (Nat.ble
 (strLen
 (strCat
 (strCat
 (strCat (ByteArray.mk #[(123 : UInt8)])
 (strCat
 (strCat
 (S
 [Option.some (Value.string (ByteArray.mk #[(120 : UInt8)])), Option.some (Value.string (ByteArray.mk #[(121 : UInt8), (49 : UInt8)])),
 Option.some (Value.string (ByteArray.mk #[(122 : UInt8), (95 : UInt8)])),
 Option.some (Value.string (ByteArray.mk #[(112 : UInt8), (114 : UInt8), (105 : UInt8), (99 : UInt8), (101 : UInt8)])),
 Option.some (Value.string (ByteArray.mk #[(99 : UInt8), (97 : UInt8), (102 : UInt8), (195 : UInt8), (169 : UInt8)])),
 Option.some (Value.string (ByteArray.mk #[(98 : UInt8), (50 : UInt8)]))]
 ((0 : Nat) + Int.toNat (Int.tmod p (6 : Int)) * (1 : Nat)))
 (ByteArray.mk #[(32 : UInt8)]))
 (S
 [Option.some (Value.string (ByteArray.mk #[(120 : UInt8)])), Option.some (Value.string (ByteArray.mk #[(121 : UInt8), (49 : UInt8)])),
 Option.some (Value.string (ByteArray.mk #[(122 : UInt8), (95 : UInt8)])),
 Option.some (Value.string (ByteArray.mk #[(112 : UInt8), (114 : UInt8), (105 : UInt8), (99 : UInt8), (101 : UInt8)])),
 Option.some (Value.string (ByteArray.mk #[(99 : UInt8), (97 : UInt8), (102 : UInt8), (195 : UInt8), (169 : UInt8)])),
 Option.some (Value.string (ByteArray.mk #[(98 : UInt8), (50 : UInt8)]))]
 ((0 : Nat) + Int.toNat (Int.tmod q (6 : Int)) * (1 : Nat)))))
 (ByteArray.mk #[(58 : UInt8), (32 : UInt8), (49 : UInt8), (44 : UInt8), (32 : UInt8), (107 : UInt8), (58 : UInt8), (32 : UInt8)]))
 (strCat
 (strCat
 (S
 [Option.some (Value.string (ByteArray.mk #[(120 : UInt8)])), Option.some (Value.string (ByteArray.mk #[(121 : UInt8), (49 : UInt8)])),
 Option.some (Value.string (ByteArray.mk #[(122 : UInt8), (95 : UInt8)])),
 Option.some (Value.string (ByteArray.mk #[(112 : UInt8), (114 : UInt8), (105 : UInt8), (99 : UInt8), (101 : UInt8)])),
 Option.some (Value.string (ByteArray.mk #[(99 : UInt8), (97 : UInt8), (102 : UInt8), (195 : UInt8), (169 : UInt8)])),
 Option.some (Value.string (ByteArray.mk #[(98 : UInt8), (50 : UInt8)]))]
 ((0 : Nat) + Int.toNat (Int.tmod p (6 : Int)) * (1 : Nat)))
 (ByteArray.mk #[(32 : UInt8)]))
 (S
 [Option.some (Value.string (ByteArray.mk #[(120 : UInt8)])), Option.some (Value.string (ByteArray.mk #[(121 : UInt8), (49 : UInt8)])),
 Option.some (Value.string (ByteArray.mk #[(122 : UInt8), (95 : UInt8)])),
 Option.some (Value.string (ByteArray.mk #[(112 : UInt8), (114 : UInt8), (105 : UInt8), (99 : UInt8), (101 : UInt8)])),
 Option.some (Value.string (ByteArray.mk #[(99 : UInt8), (97 : UInt8), (102 : UInt8), (195 : UInt8), (169 : UInt8)])),
 Option.some (Value.string (ByteArray.mk #[(98 : UInt8), (50 : UInt8)]))]
 ((0 : Nat) + Int.toNat (Int.tmod q (6 : Int)) * (1 : Nat))))) +
 (1 : Nat))
 (9223372036854775807 : Nat))
 (bsel
 (Nat.ble
 ((2 : Nat) +
 strLen
 (strCat
 (strCat
 (S
 [Option.some (Value.string (ByteArray.mk #[(120 : UInt8)])), Option.some (Value.string (ByteArray.mk #[(121 : UInt8), (49 : UInt8)])),
 Option.some (Value.string (ByteArray.mk #[(122 : UInt8), (95 : UInt8)])),
 Option.some (Value.string (ByteArray.mk #[(112 : UInt8), (114 : UInt8), (105 : UInt8), (99 : UInt8), (101 : UInt8)])),
 Option.some (Value.string (ByteArray.mk #[(99 : UInt8), (97 : UInt8), (102 : UInt8), (195 : UInt8), (169 : UInt8)])),
 Option.some (Value.string (ByteArray.mk #[(98 : UInt8), (50 : UInt8)]))]
 ((0 : Nat) + Int.toNat (Int.tmod p (6 : Int)) * (1 : Nat)))
 (ByteArray.mk #[(32 : UInt8)]))
 (S
 [Option.some (Value.string (ByteArray.mk #[(120 : UInt8)])), Option.some (Value.string (ByteArray.mk #[(121 : UInt8), (49 : UInt8)])),
 Option.some (Value.string (ByteArray.mk #[(122 : UInt8), (95 : UInt8)])),
 Option.some (Value.string (ByteArray.mk #[(112 : UInt8), (114 : UInt8), (105 : UInt8), (99 : UInt8), (101 : UInt8)])),
 Option.some (Value.string (ByteArray.mk #[(99 : UInt8), (97 : UInt8), (102 : UInt8), (195 : UInt8), (169 : UInt8)])),
 Option.some (Value.string (ByteArray.mk #[(98 : UInt8), (50 : UInt8)]))]
 ((0 : Nat) + Int.toNat (Int.tmod q (6 : Int)) * (1 : Nat)))))
 (9223372036854775807 : Nat))
 (bsel
 (Nat.ble
 (strLen
 (strCat (ByteArray.mk #[(123 : UInt8), (34 : UInt8)])
 (strCat
 (strCat
 (S
 [Option.some (Value.string (ByteArray.mk #[(120 : UInt8)])), Option.some (Value.string (ByteArray.mk #[(121 : UInt8), (49 : UInt8)])),
 Option.some (Value.string (ByteArray.mk #[(122 : UInt8), (95 : UInt8)])),
 Option.some (Value.string (ByteArray.mk #[(112 : UInt8), (114 : UInt8), (105 : UInt8), (99 : UInt8), (101 : UInt8)])),
 Option.some (Value.string (ByteArray.mk #[(99 : UInt8), (97 : UInt8), (102 : UInt8), (195 : UInt8), (169 : UInt8)])),
 Option.some (Value.string (ByteArray.mk #[(98 : UInt8), (50 : UInt8)]))]
 ((0 : Nat) + Int.toNat (Int.tmod p (6 : Int)) * (1 : Nat)))
 (ByteArray.mk #[(32 : UInt8)]))
 (S
 [Option.some (Value.string (ByteArray.mk #[(120 : UInt8)])), Option.some (Value.string (ByteArray.mk #[(121 : UInt8), (49 : UInt8)])),
 Option.some (Value.string (ByteArray.mk #[(122 : UInt8), (95 : UInt8)])),
 Option.some (Value.string (ByteArray.mk #[(112 : UInt8), (114 : UInt8), (105 : UInt8), (99 : UInt8), (101 : UInt8)])),
 Option.some (Value.string (ByteArray.mk #[(99 : UInt8), (97 : UInt8), (102 : UInt8), (195 : UInt8), (169 : UInt8)])),
 Option.some (Value.string (ByteArray.mk #[(98 : UInt8), (50 : UInt8)]))]
 ((0 : Nat) + Int.toNat (Int.tmod q (6 : Int)) * (1 : Nat))))) +
 (11 : Nat))
 (9223372036854775807 : Nat))
 (bsel
 (Nat.ble
 (strLen
 (strCat
 (strCat (ByteArray.mk #[(123 : UInt8), (34 : UInt8)])
 (strCat
 (strCat
 (S
 [Option.some (Value.string (ByteArray.mk #[(120 : UInt8)])),
 Option.some (Value.string (ByteArray.mk #[(121 : UInt8), (49 : UInt8)])),
 Option.some (Value.string (ByteArray.mk #[(122 : UInt8), (95 : UInt8)])),
 Option.some (Value.string (ByteArray.mk #[(112 : UInt8), (114 : UInt8), (105 : UInt8), (99 : UInt8), (101 : UInt8)])),
 Option.some (Value.string (ByteArray.mk #[(99 : UInt8), (97 : UInt8), (102 : UInt8), (195 : UInt8), (169 : UInt8)])),
 Option.some (Value.string (ByteArray.mk #[(98 : UInt8), (50 : UInt8)]))]
 ((0 : Nat) + Int.toNat (Int.tmod p (6 : Int)) * (1 : Nat)))
 (ByteArray.mk #[(32 : UInt8)]))
 (S
 [Option.some (Value.string (ByteArray.mk #[(120 : UInt8)])), Option.some (Value.string (ByteArray.mk #[(121 : UInt8), (49 : UInt8)])),
 Option.some (Value.string (ByteArray.mk #[(122 : UInt8), (95 : UInt8)])),
 Option.some (Value.string (ByteArray.mk #[(112 : UInt8), (114 : UInt8), (105 : UInt8), (99 : UInt8), (101 : UInt8)])),
 Option.some (Value.string (ByteArray.mk #[(99 : UInt8), (97 : UInt8), (102 : UInt8), (195 : UInt8), (169 : UInt8)])),
 Option.some (Value.string (ByteArray.mk #[(98 : UInt8), (50 : UInt8)]))]
 ((0 : Nat) + Int.toNat (Int.tmod q (6 : Int)) * (1 : Nat)))))
 (ByteArray.mk
 #[(34 : UInt8), (58 : UInt8), (32 : UInt8), (49 : UInt8), (44 : UInt8), (32 : UInt8), (34 : UInt8), (107 : UInt8), (34 : UInt8), (58 : UInt8),
 (32 : UInt8)])) +
 strLen
 (strCat
 (strCat
 (S
 [Option.some (Value.string (ByteArray.mk #[(120 : UInt8)])), Option.some (Value.string (ByteArray.mk #[(121 : UInt8), (49 : UInt8)])),
 Option.some (Value.string (ByteArray.mk #[(122 : UInt8), (95 : UInt8)])),
 Option.some (Value.string (ByteArray.mk #[(112 : UInt8), (114 : UInt8), (105 : UInt8), (99 : UInt8), (101 : UInt8)])),
 Option.some (Value.string (ByteArray.mk #[(99 : UInt8), (97 : UInt8), (102 : UInt8), (195 : UInt8), (169 : UInt8)])),
 Option.some (Value.string (ByteArray.mk #[(98 : UInt8), (50 : UInt8)]))]
 ((0 : Nat) + Int.toNat (Int.tmod p (6 : Int)) * (1 : Nat)))
 (ByteArray.mk #[(32 : UInt8)]))
 (S
 [Option.some (Value.string (ByteArray.mk #[(120 : UInt8)])), Option.some (Value.string (ByteArray.mk #[(121 : UInt8), (49 : UInt8)])),
 Option.some (Value.string (ByteArray.mk #[(122 : UInt8), (95 : UInt8)])),
 Option.some (Value.string (ByteArray.mk #[(112 : UInt8), (114 : UInt8), (105 : UInt8), (99 : UInt8), (101 : UInt8)])),
 Option.some (Value.string (ByteArray.mk #[(99 : UInt8), (97 : UInt8), (102 : UInt8), (195 : UInt8), (169 : UInt8)])),
 Option.some (Value.string (ByteArray.mk #[(98 : UInt8), (50 : UInt8)]))]
 ((0 : Nat) + Int.toNat (Int.tmod q (6 : Int)) * (1 : Nat)))))
 (9223372036854775807 : Nat))
 (bsel
 (Nat.ble
 (strLen
 (strCat
 (strCat
 (strCat (ByteArray.mk #[(123 : UInt8), (34 : UInt8)])
 (strCat
 (strCat
 (S
 [Option.some (Value.string (ByteArray.mk #[(120 : UInt8)])),
 Option.some (Value.string (ByteArray.mk #[(121 : UInt8), (49 : UInt8)])),
 Option.some (Value.string (ByteArray.mk #[(122 : UInt8), (95 : UInt8)])),
 Option.some (Value.string (ByteArray.mk #[(112 : UInt8), (114 : UInt8), (105 : UInt8), (99 : UInt8), (101 : UInt8)])),
 Option.some (Value.string (ByteArray.mk #[(99 : UInt8), (97 : UInt8), (102 : UInt8), (195 : UInt8), (169 : UInt8)])),
 Option.some (Value.string (ByteArray.mk #[(98 : UInt8), (50 : UInt8)]))]
 ((0 : Nat) + Int.toNat (Int.tmod p (6 : Int)) * (1 : Nat)))
 (ByteArray.mk #[(32 : UInt8)]))
 (S
 [Option.some (Value.string (ByteArray.mk #[(120 : UInt8)])),
 Option.some (Value.string (ByteArray.mk #[(121 : UInt8), (49 : UInt8)])),
 Option.some (Value.string (ByteArray.mk #[(122 : UInt8), (95 : UInt8)])),
 Option.some (Value.string (ByteArray.mk #[(112 : UInt8), (114 : UInt8), (105 : UInt8), (99 : UInt8), (101 : UInt8)])),
 Option.some (Value.string (ByteArray.mk #[(99 : UInt8), (97 : UInt8), (102 : UInt8), (195 : UInt8), (169 : UInt8)])),
 Option.some (Value.string (ByteArray.mk #[(98 : UInt8), (50 : UInt8)]))]
 ((0 : Nat) + Int.toNat (Int.tmod q (6 : Int)) * (1 : Nat)))))
 (ByteArray.mk
 #[(34 : UInt8), (58 : UInt8), (32 : UInt8), (49 : UInt8), (44 : UInt8), (32 : UInt8), (34 : UInt8), (107 : UInt8), (34 : UInt8),
 (58 : UInt8), (32 : UInt8)]))
 (strCat
 (strCat
 (S
 [Option.some (Value.string (ByteArray.mk #[(120 : UInt8)])),
 Option.some (Value.string (ByteArray.mk #[(121 : UInt8), (49 : UInt8)])),
 Option.some (Value.string (ByteArray.mk #[(122 : UInt8), (95 : UInt8)])),
 Option.some (Value.string (ByteArray.mk #[(112 : UInt8), (114 : UInt8), (105 : UInt8), (99 : UInt8), (101 : UInt8)])),
 Option.some (Value.string (ByteArray.mk #[(99 : UInt8), (97 : UInt8), (102 : UInt8), (195 : UInt8), (169 : UInt8)])),
 Option.some (Value.string (ByteArray.mk #[(98 : UInt8), (50 : UInt8)]))]
 ((0 : Nat) + Int.toNat (Int.tmod p (6 : Int)) * (1 : Nat)))
 (ByteArray.mk #[(32 : UInt8)]))
 (S
 [Option.some (Value.string (ByteArray.mk #[(120 : UInt8)])), Option.some (Value.string (ByteArray.mk #[(121 : UInt8), (49 : UInt8)])),
 Option.some (Value.string (ByteArray.mk #[(122 : UInt8), (95 : UInt8)])),
 Option.some (Value.string (ByteArray.mk #[(112 : UInt8), (114 : UInt8), (105 : UInt8), (99 : UInt8), (101 : UInt8)])),
 Option.some (Value.string (ByteArray.mk #[(99 : UInt8), (97 : UInt8), (102 : UInt8), (195 : UInt8), (169 : UInt8)])),
 Option.some (Value.string (ByteArray.mk #[(98 : UInt8), (50 : UInt8)]))]
 ((0 : Nat) + Int.toNat (Int.tmod q (6 : Int)) * (1 : Nat))))) +
 (1 : Nat))
 (9223372036854775807 : Nat))
 (TotP base (11 : Nat)
 [Value.string
 (strCat
 (strCat
 (strCat
 (strCat (ByteArray.mk #[(123 : UInt8)])
 (strCat
 (strCat
 (S
 [Option.some (Value.string (ByteArray.mk #[(120 : UInt8)])),
 Option.some (Value.string (ByteArray.mk #[(121 : UInt8), (49 : UInt8)])),
 Option.some (Value.string (ByteArray.mk #[(122 : UInt8), (95 : UInt8)])),
 Option.some (Value.string (ByteArray.mk #[(112 : UInt8), (114 : UInt8), (105 : UInt8), (99 : UInt8), (101 : UInt8)])),
 Option.some (Value.string (ByteArray.mk #[(99 : UInt8), (97 : UInt8), (102 : UInt8), (195 : UInt8), (169 : UInt8)])),
 Option.some (Value.string (ByteArray.mk #[(98 : UInt8), (50 : UInt8)]))]
 ((0 : Nat) + Int.toNat (Int.tmod p (6 : Int)) * (1 : Nat)))
 (ByteArray.mk #[(32 : UInt8)]))
 (S
 [Option.some (Value.string (ByteArray.mk #[(120 : UInt8)])),
 Option.some (Value.string (ByteArray.mk #[(121 : UInt8), (49 : UInt8)])),
 Option.some (Value.string (ByteArray.mk #[(122 : UInt8), (95 : UInt8)])),
 Option.some (Value.string (ByteArray.mk #[(112 : UInt8), (114 : UInt8), (105 : UInt8), (99 : UInt8), (101 : UInt8)])),
 Option.some (Value.string (ByteArray.mk #[(99 : UInt8), (97 : UInt8), (102 : UInt8), (195 : UInt8), (169 : UInt8)])),
 Option.some (Value.string (ByteArray.mk #[(98 : UInt8), (50 : UInt8)]))]
 ((0 : Nat) + Int.toNat (Int.tmod q (6 : Int)) * (1 : Nat)))))
 (ByteArray.mk #[(58 : UInt8), (32 : UInt8), (49 : UInt8), (44 : UInt8), (32 : UInt8), (107 : UInt8), (58 : UInt8), (32 : UInt8)]))
 (strCat
 (strCat
 (S
 [Option.some (Value.string (ByteArray.mk #[(120 : UInt8)])),
 Option.some (Value.string (ByteArray.mk #[(121 : UInt8), (49 : UInt8)])),
 Option.some (Value.string (ByteArray.mk #[(122 : UInt8), (95 : UInt8)])),
 Option.some (Value.string (ByteArray.mk #[(112 : UInt8), (114 : UInt8), (105 : UInt8), (99 : UInt8), (101 : UInt8)])),
 Option.some (Value.string (ByteArray.mk #[(99 : UInt8), (97 : UInt8), (102 : UInt8), (195 : UInt8), (169 : UInt8)])),
 Option.some (Value.string (ByteArray.mk #[(98 : UInt8), (50 : UInt8)]))]
 ((0 : Nat) + Int.toNat (Int.tmod p (6 : Int)) * (1 : Nat)))
 (ByteArray.mk #[(32 : UInt8)]))
 (S
 [Option.some (Value.string (ByteArray.mk #[(120 : UInt8)])),
 Option.some (Value.string (ByteArray.mk #[(121 : UInt8), (49 : UInt8)])),
 Option.some (Value.string (ByteArray.mk #[(122 : UInt8), (95 : UInt8)])),
 Option.some (Value.string (ByteArray.mk #[(112 : UInt8), (114 : UInt8), (105 : UInt8), (99 : UInt8), (101 : UInt8)])),
 Option.some (Value.string (ByteArray.mk #[(99 : UInt8), (97 : UInt8), (102 : UInt8), (195 : UInt8), (169 : UInt8)])),
 Option.some (Value.string (ByteArray.mk #[(98 : UInt8), (50 : UInt8)]))]
 ((0 : Nat) + Int.toNat (Int.tmod q (6 : Int)) * (1 : Nat)))))
 (ByteArray.mk #[(125 : UInt8)])),
 Value.string
 (strCat
 (strCat
 (strCat
 (strCat (ByteArray.mk #[(123 : UInt8), (34 : UInt8)])
 (strCat
 (strCat
 (S
 [Option.some (Value.string (ByteArray.mk #[(120 : UInt8)])),
 Option.some (Value.string (ByteArray.mk #[(121 : UInt8), (49 : UInt8)])),
 Option.some (Value.string (ByteArray.mk #[(122 : UInt8), (95 : UInt8)])),
 Option.some (Value.string (ByteArray.mk #[(112 : UInt8), (114 : UInt8), (105 : UInt8), (99 : UInt8), (101 : UInt8)])),
 Option.some (Value.string (ByteArray.mk #[(99 : UInt8), (97 : UInt8), (102 : UInt8), (195 : UInt8), (169 : UInt8)])),
 Option.some (Value.string (ByteArray.mk #[(98 : UInt8), (50 : UInt8)]))]
 ((0 : Nat) + Int.toNat (Int.tmod p (6 : Int)) * (1 : Nat)))
 (ByteArray.mk #[(32 : UInt8)]))
 (S
 [Option.some (Value.string (ByteArray.mk #[(120 : UInt8)])),
 Option.some (Value.string (ByteArray.mk #[(121 : UInt8), (49 : UInt8)])),
 Option.some (Value.string (ByteArray.mk #[(122 : UInt8), (95 : UInt8)])),
 Option.some (Value.string (ByteArray.mk #[(112 : UInt8), (114 : UInt8), (105 : UInt8), (99 : UInt8), (101 : UInt8)])),
 Option.some (Value.string (ByteArray.mk #[(99 : UInt8), (97 : UInt8), (102 : UInt8), (195 : UInt8), (169 : UInt8)])),
 Option.some (Value.string (ByteArray.mk #[(98 : UInt8), (50 : UInt8)]))]
 ((0 : Nat) + Int.toNat (Int.tmod q (6 : Int)) * (1 : Nat)))))
 (ByteArray.mk
 #[(34 : UInt8), (58 : UInt8), (32 : UInt8), (49 : UInt8), (44 : UInt8), (32 : UInt8), (34 : UInt8), (107 : UInt8), (34 : UInt8),
 (58 : UInt8), (32 : UInt8)]))
 (strCat
 (strCat
 (S
 [Option.some (Value.string (ByteArray.mk #[(120 : UInt8)])),
 Option.some (Value.string (ByteArray.mk #[(121 : UInt8), (49 : UInt8)])),
 Option.some (Value.string (ByteArray.mk #[(122 : UInt8), (95 : UInt8)])),
 Option.some (Value.string (ByteArray.mk #[(112 : UInt8), (114 : UInt8), (105 : UInt8), (99 : UInt8), (101 : UInt8)])),
 Option.some (Value.string (ByteArray.mk #[(99 : UInt8), (97 : UInt8), (102 : UInt8), (195 : UInt8), (169 : UInt8)])),
 Option.some (Value.string (ByteArray.mk #[(98 : UInt8), (50 : UInt8)]))]
 ((0 : Nat) + Int.toNat (Int.tmod p (6 : Int)) * (1 : Nat)))
 (ByteArray.mk #[(32 : UInt8)]))
 (S
 [Option.some (Value.string (ByteArray.mk #[(120 : UInt8)])),
 Option.some (Value.string (ByteArray.mk #[(121 : UInt8), (49 : UInt8)])),
 Option.some (Value.string (ByteArray.mk #[(122 : UInt8), (95 : UInt8)])),
 Option.some (Value.string (ByteArray.mk #[(112 : UInt8), (114 : UInt8), (105 : UInt8), (99 : UInt8), (101 : UInt8)])),
 Option.some (Value.string (ByteArray.mk #[(99 : UInt8), (97 : UInt8), (102 : UInt8), (195 : UInt8), (169 : UInt8)])),
 Option.some (Value.string (ByteArray.mk #[(98 : UInt8), (50 : UInt8)]))]
 ((0 : Nat) + Int.toNat (Int.tmod q (6 : Int)) * (1 : Nat)))))
 (ByteArray.mk #[(125 : UInt8)])),
 Value.slice Option.none (0 : Nat) (0 : Nat)]
 (Value.bool Bool.true) ∧
 bsel
 (Nat.ble
 ((4 : Nat) +
 strLen
 (strCat
 (strCat
 (S
 [Option.some (Value.string (ByteArray.mk #[(120 : UInt8)])),
 Option.some (Value.string (ByteArray.mk #[(121 : UInt8), (49 : UInt8)])),
 Option.some (Value.string (ByteArray.mk #[(122 : UInt8), (95 : UInt8)])),
 Option.some (Value.string (ByteArray.mk #[(112 : UInt8), (114 : UInt8), (105 : UInt8), (99 : UInt8), (101 : UInt8)])),
 Option.some (Value.string (ByteArray.mk #[(99 : UInt8), (97 : UInt8), (102 : UInt8), (195 : UInt8), (169 : UInt8)])),
 Option.some (Value.string (ByteArray.mk #[(98 : UInt8), (50 : UInt8)]))]
 ((0 : Nat) + Int.toNat (Int.tmod p (6 : Int)) * (1 : Nat)))
 (ByteArray.mk #[(32 : UInt8)]))
 (S
 [Option.some (Value.string (ByteArray.mk #[(120 : UInt8)])),
 Option.some (Value.string (ByteArray.mk #[(121 : UInt8), (49 : UInt8)])),
 Option.some (Value.string (ByteArray.mk #[(122 : UInt8), (95 : UInt8)])),
 Option.some (Value.string (ByteArray.mk #[(112 : UInt8), (114 : UInt8), (105 : UInt8), (99 : UInt8), (101 : UInt8)])),
 Option.some (Value.string (ByteArray.mk #[(99 : UInt8), (97 : UInt8), (102 : UInt8), (195 : UInt8), (169 : UInt8)])),
 Option.some (Value.string (ByteArray.mk #[(98 : UInt8), (50 : UInt8)]))]
 ((0 : Nat) + Int.toNat (Int.tmod q (6 : Int)) * (1 : Nat)))))
 (9223372036854775807 : Nat))
 (bsel
 (Nat.ble
 (strLen
 (strCat (ByteArray.mk #[(102 : UInt8), (111 : UInt8), (114 : UInt8), (32 : UInt8)])
 (strCat
 (strCat
 (S
 [Option.some (Value.string (ByteArray.mk #[(120 : UInt8)])),
 Option.some (Value.string (ByteArray.mk #[(121 : UInt8), (49 : UInt8)])),
 Option.some (Value.string (ByteArray.mk #[(122 : UInt8), (95 : UInt8)])),
 Option.some (Value.string (ByteArray.mk #[(112 : UInt8), (114 : UInt8), (105 : UInt8), (99 : UInt8), (101 : UInt8)])),
 Option.some (Value.string (ByteArray.mk #[(99 : UInt8), (97 : UInt8), (102 : UInt8), (195 : UInt8), (169 : UInt8)])),
 Option.some (Value.string (ByteArray.mk #[(98 : UInt8), (50 : UInt8)]))]
 ((0 : Nat) + Int.toNat (Int.tmod p (6 : Int)) * (1 : Nat)))
 (ByteArray.mk #[(32 : UInt8)]))
 (S
 [Option.some (Value.string (ByteArray.mk #[(120 : UInt8)])),
 Option.some (Value.string (ByteArray.mk #[(121 : UInt8), (49 : UInt8)])),
 Option.some (Value.string (ByteArray.mk #[(122 : UInt8), (95 : UInt8)])),
 Option.some (Value.string (ByteArray.mk #[(112 : UInt8), (114 : UInt8), (105 : UInt8), (99 : UInt8), (101 : UInt8)])),
 Option.some (Value.string (ByteArray.mk #[(99 : UInt8), (97 : UInt8), (102 : UInt8), (195 : UInt8), (169 : UInt8)])),
 Option.some (Value.string (ByteArray.mk #[(98 : UInt8), (50 : UInt8)]))]
 ((0 : Nat) + Int.toNat (Int.tmod q (6 : Int)) * (1 : Nat))))) +
 (15 : Nat))
 (9223372036854775807 : Nat))
 (bsel
 (Nat.ble
 (strLen
 (strCat
 (strCat (ByteArray.mk #[(102 : UInt8), (111 : UInt8), (114 : UInt8), (32 : UInt8)])
 (strCat
 (strCat
 (S
 [Option.some (Value.string (ByteArray.mk #[(120 : UInt8)])),
 Option.some (Value.string (ByteArray.mk #[(121 : UInt8), (49 : UInt8)])),
 Option.some (Value.string (ByteArray.mk #[(122 : UInt8), (95 : UInt8)])),
 Option.some (Value.string (ByteArray.mk #[(112 : UInt8), (114 : UInt8), (105 : UInt8), (99 : UInt8), (101 : UInt8)])),
 Option.some (Value.string (ByteArray.mk #[(99 : UInt8), (97 : UInt8), (102 : UInt8), (195 : UInt8), (169 : UInt8)])),
 Option.some (Value.string (ByteArray.mk #[(98 : UInt8), (50 : UInt8)]))]
 ((0 : Nat) + Int.toNat (Int.tmod p (6 : Int)) * (1 : Nat)))
 (ByteArray.mk #[(32 : UInt8)]))
 (S
 [Option.some (Value.string (ByteArray.mk #[(120 : UInt8)])),
 Option.some (Value.string (ByteArray.mk #[(121 : UInt8), (49 : UInt8)])),
 Option.some (Value.string (ByteArray.mk #[(122 : UInt8), (95 : UInt8)])),
 Option.some (Value.string (ByteArray.mk #[(112 : UInt8), (114 : UInt8), (105 : UInt8), (99 : UInt8), (101 : UInt8)])),
 Option.some (Value.string (ByteArray.mk #[(99 : UInt8), (97 : UInt8), (102 : UInt8), (195 : UInt8), (169 : UInt8)])),
 Option.some (Value.string (ByteArray.mk #[(98 : UInt8), (50 : UInt8)]))]
 ((0 : Nat) + Int.toNat (Int.tmod q (6 : Int)) * (1 : Nat)))))
 (ByteArray.mk
 #[(32 : UInt8), (105 : UInt8), (110 : UInt8), (32 : UInt8), (91 : UInt8), (49 : UInt8), (93 : UInt8), (32 : UInt8), (114 : UInt8),
 (101 : UInt8), (116 : UInt8), (117 : UInt8), (114 : UInt8), (110 : UInt8), (32 : UInt8)])) +
 strLen
 (strCat
 (strCat
 (S
 [Option.some (Value.string (ByteArray.mk #[(120 : UInt8)])),
 Option.some (Value.string (ByteArray.mk #[(121 : UInt8), (49 : UInt8)])),
 Option.some (Value.string (ByteArray.mk #[(122 : UInt8), (95 : UInt8)])),
 Option.some (Value.string (ByteArray.mk #[(112 : UInt8), (114 : UInt8), (105 : UInt8), (99 : UInt8), (101 : UInt8)])),
 Option.some (Value.string (ByteArray.mk #[(99 : UInt8), (97 : UInt8), (102 : UInt8), (195 : UInt8), (169 : UInt8)])),
 Option.some (Value.string (ByteArray.mk #[(98 : UInt8), (50 : UInt8)]))]
 ((0 : Nat) + Int.toNat (Int.tmod p (6 : Int)) * (1 : Nat)))
 (ByteArray.mk #[(32 : UInt8)]))
 (S
 [Option.some (Value.string (ByteArray.mk #[(120 : UInt8)])),
 Option.some (Value.string (ByteArray.mk #[(121 : UInt8), (49 : UInt8)])),
 Option.some (Value.string (ByteArray.mk #[(122 : UInt8), (95 : UInt8)])),
 Option.some (Value.string (ByteArray.mk #[(112 : UInt8), (114 : UInt8), (105 : UInt8), (99 : UInt8), (101 : UInt8)])),
 Option.some (Value.string (ByteArray.mk #[(99 : UInt8), (97 : UInt8), (102 : UInt8), (195 : UInt8), (169 : UInt8)])),
 Option.some (Value.string (ByteArray.mk #[(98 : UInt8), (50 : UInt8)]))]
 ((0 : Nat) + Int.toNat (Int.tmod q (6 : Int)) * (1 : Nat)))))
 (9223372036854775807 : Nat))
 (bsel
 (Nat.ble
 ((4 : Nat) +
 strLen
 (strCat
 (strCat
 (S
 [Option.some (Value.string (ByteArray.mk #[(120 : UInt8)])),
 Option.some (Value.string (ByteArray.mk #[(121 : UInt8), (49 : UInt8)])),
 Option.some (Value.string (ByteArray.mk #[(122 : UInt8), (95 : UInt8)])),
 Option.some (Value.string (ByteArray.mk #[(112 : UInt8), (114 : UInt8), (105 : UInt8), (99 : UInt8), (101 : UInt8)])),
 Option.some (Value.string (ByteArray.mk #[(99 : UInt8), (97 : UInt8), (102 : UInt8), (195 : UInt8), (169 : UInt8)])),
 Option.some (Value.string (ByteArray.mk #[(98 : UInt8), (50 : UInt8)]))]
 ((0 : Nat) + Int.toNat (Int.tmod p (6 : Int)) * (1 : Nat)))
 (ByteArray.mk #[(32 : UInt8)]))
 (S
 [Option.some (Value.string (ByteArray.mk #[(120 : UInt8)])),
 Option.some (Value.string (ByteArray.mk #[(121 : UInt8), (49 : UInt8)])),
 Option.some (Value.string (ByteArray.mk #[(122 : UInt8), (95 : UInt8)])),
 Option.some (Value.string (ByteArray.mk #[(112 : UInt8), (114 : UInt8), (105 : UInt8), (99 : UInt8), (101 : UInt8)])),
 Option.some (Value.string (ByteArray.mk #[(99 : UInt8), (97 : UInt8), (102 : UInt8), (195 : UInt8), (169 : UInt8)])),
 Option.some (Value.string (ByteArray.mk #[(98 : UInt8), (50 : UInt8)]))]
 ((0 : Nat) + Int.toNat (Int.tmod q (6 : Int)) * (1 : Nat)))))
 (9223372036854775807 : Nat))
 (bsel
 (Nat.ble
 (strLen
 (strCat (ByteArray.mk #[(102 : UInt8), (111 : UInt8), (114 : UInt8), (32 : UInt8)])
 (strCat
 (strCat
 (S
 [Option.some (Value.string (ByteArray.mk #[(120 : UInt8)])),
 Option.some (Value.string (ByteArray.mk #[(121 : UInt8), (49 : UInt8)])),
 Option.some (Value.string (ByteArray.mk #[(122 : UInt8), (95 : UInt8)])),
 Option.some (Value.string (ByteArray.mk #[(112 : UInt8), (114 : UInt8), (105 : UInt8), (99 : UInt8), (101 : UInt8)])),
 Option.some (Value.string (ByteArray.mk #[(99 : UInt8), (97 : UInt8), (102 : UInt8), (195 : UInt8), (169 : UInt8)])),
 Option.some (Value.string (ByteArray.mk #[(98 : UInt8), (50 : UInt8)]))]
 ((0 : Nat) + Int.toNat (Int.tmod p (6 : Int)) * (1 : Nat)))
 (ByteArray.mk #[(32 : UInt8)]))
 (S
 [Option.some (Value.string (ByteArray.mk #[(120 : UInt8)])),
 Option.some (Value.string (ByteArray.mk #[(121 : UInt8), (49 : UInt8)])),
 Option.some (Value.string (ByteArray.mk #[(122 : UInt8), (95 : UInt8)])),
 Option.some (Value.string (ByteArray.mk #[(112 : UInt8), (114 : UInt8), (105 : UInt8), (99 : UInt8), (101 : UInt8)])),
 Option.some (Value.string (ByteArray.mk #[(99 : UInt8), (97 : UInt8), (102 : UInt8), (195 : UInt8), (169 : UInt8)])),
 Option.some (Value.string (ByteArray.mk #[(98 : UInt8), (50 : UInt8)]))]
 ((0 : Nat) + Int.toNat (Int.tmod q (6 : Int)) * (1 : Nat))))) +
 (16 : Nat))
 (9223372036854775807 : Nat))
 (bsel
 (Nat.ble
 (strLen
 (strCat
 (strCat (ByteArray.mk #[(102 : UInt8), (111 : UInt8), (114 : UInt8), (32 : UInt8)])
 (strCat
 (strCat
 (S
 [Option.some (Value.string (ByteArray.mk #[(120 : UInt8)])),
 Option.some (Value.string (ByteArray.mk #[(121 : UInt8), (49 : UInt8)])),
 Option.some (Value.string (ByteArray.mk #[(122 : UInt8), (95 : UInt8)])),
 Option.some
 (Value.string (ByteArray.mk #[(112 : UInt8), (114 : UInt8), (105 : UInt8), (99 : UInt8), (101 : UInt8)])),
 Option.some (Value.string (ByteArray.mk #[(99 : UInt8), (97 : UInt8), (102 : UInt8), (195 : UInt8), (169 : UInt8)])),
 Option.some (Value.string (ByteArray.mk #[(98 : UInt8), (50 : UInt8)]))]
 ((0 : Nat) + Int.toNat (Int.tmod p (6 : Int)) * (1 : Nat)))
 (ByteArray.mk #[(32 : UInt8)]))
 (S
 [Option.some (Value.string (ByteArray.mk #[(120 : UInt8)])),
 Option.some (Value.string (ByteArray.mk #[(121 : UInt8), (49 : UInt8)])),
 Option.some (Value.string (ByteArray.mk #[(122 : UInt8), (95 : UInt8)])),
 Option.some (Value.string (ByteArray.mk #[(112 : UInt8), (114 : UInt8), (105 : UInt8), (99 : UInt8), (101 : UInt8)])),
 Option.some (Value.string (ByteArray.mk #[(99 : UInt8), (97 : UInt8), (102 : UInt8), (195 : UInt8), (169 : UInt8)])),
 Option.some (Value.string (ByteArray.mk #[(98 : UInt8), (50 : UInt8)]))]
 ((0 : Nat) + Int.toNat (Int.tmod q (6 : Int)) * (1 : Nat)))))
 (ByteArray.mk
 #[(32 : UInt8), (105 : UInt8), (110 : UInt8), (32 : UInt8), (91 : UInt8), (49 : UInt8), (93 : UInt8), (32 : UInt8),
 (114 : UInt8), (101 : UInt8), (116 : UInt8), (117 : UInt8), (114 : UInt8), (110 : UInt8), (32 : UInt8), (40 : UInt8)])) +
 strLen
 (strCat
 (strCat
 (S
 [Option.some (Value.string (ByteArray.mk #[(120 : UInt8)])),
 Option.some (Value.string (ByteArray.mk #[(121 : UInt8), (49 : UInt8)])),
 Option.some (Value.string (ByteArray.mk #[(122 : UInt8), (95 : UInt8)])),
 Option.some (Value.string (ByteArray.mk #[(112 : UInt8), (114 : UInt8), (105 : UInt8), (99 : UInt8), (101 : UInt8)])),
 Option.some (Value.string (ByteArray.mk #[(99 : UInt8), (97 : UInt8), (102 : UInt8), (195 : UInt8), (169 : UInt8)])),
 Option.some (Value.string (ByteArray.mk #[(98 : UInt8), (50 : UInt8)]))]
 ((0 : Nat) + Int.toNat (Int.tmod p (6 : Int)) * (1 : Nat)))
 (ByteArray.mk #[(32 : UInt8)]))
 (S
 [Option.some (Value.string (ByteArray.mk #[(120 : UInt8)])),
 Option.some (Value.string (ByteArray.mk #[(121 : UInt8), (49 : UInt8)])),
 Option.some (Value.string (ByteArray.mk #[(122 : UInt8), (95 : UInt8)])),
 Option.some (Value.string (ByteArray.mk #[(112 : UInt8), (114 : UInt8), (105 : UInt8), (99 : UInt8), (101 : UInt8)])),
 Option.some (Value.string (ByteArray.mk #[(99 : UInt8), (97 : UInt8), (102 : UInt8), (195 : UInt8), (169 : UInt8)])),
 Option.some (Value.string (ByteArray.mk #[(98 : UInt8), (50 : UInt8)]))]
 ((0 : Nat) + Int.toNat (Int.tmod q (6 : Int)) * (1 : Nat)))))
 (9223372036854775807 : Nat))
 (bsel
 (Nat.ble
 (strLen
 (strCat
 (strCat
 (strCat (ByteArray.mk #[(102 : UInt8), (111 : UInt8), (114 : UInt8), (32 : UInt8)])
 (strCat
 (strCat
 (S
 [Option.some (Value.string (ByteArray.mk #[(120 : UInt8)])),
 Option.some (Value.string (ByteArray.mk #[(121 : UInt8), (49 : UInt8)])),
 Option.some (Value.string (ByteArray.mk #[(122 : UInt8), (95 : UInt8)])),
 Option.some
 (Value.string (ByteArray.mk #[(112 : UInt8), (114 : UInt8), (105 : UInt8), (99 : UInt8), (101 : UInt8)])),
 Option.some
 (Value.string (ByteArray.mk #[(99 : UInt8), (97 : UInt8), (102 : UInt8), (195 : UInt8), (169 : UInt8)])),
 Option.some (Value.string (ByteArray.mk #[(98 : UInt8), (50 : UInt8)]))]
 ((0 : Nat) + Int.toNat (Int.tmod p (6 : Int)) * (1 : Nat)))
 (ByteArray.mk #[(32 : UInt8)]))
 (S
 [Option.some (Value.string (ByteArray.mk #[(120 : UInt8)])),
 Option.some (Value.string (ByteArray.mk #[(121 : UInt8), (49 : UInt8)])),
 Option.some (Value.string (ByteArray.mk #[(122 : UInt8), (95 : UInt8)])),
 Option.some
 (Value.string (ByteArray.mk #[(112 : UInt8), (114 : UInt8), (105 : UInt8), (99 : UInt8), (101 : UInt8)])),
 Option.some
 (Value.string (ByteArray.mk #[(99 : UInt8), (97 : UInt8), (102 : UInt8), (195 : UInt8), (169 : UInt8)])),
 Option.some (Value.string (ByteArray.mk #[(98 : UInt8), (50 : UInt8)]))]
 ((0 : Nat) + Int.toNat (Int.tmod q (6 : Int)) * (1 : Nat)))))
 (ByteArray.mk
 #[(32 : UInt8), (105 : UInt8), (110 : UInt8), (32 : UInt8), (91 : UInt8), (49 : UInt8), (93 : UInt8), (32 : UInt8),
 (114 : UInt8), (101 : UInt8), (116 : UInt8), (117 : UInt8), (114 : UInt8), (110 : UInt8), (32 : UInt8), (40 : UInt8)]))
 (strCat
 (strCat
 (S
 [Option.some (Value.string (ByteArray.mk #[(120 : UInt8)])),
 Option.some (Value.string (ByteArray.mk #[(121 : UInt8), (49 : UInt8)])),
 Option.some (Value.string (ByteArray.mk #[(122 : UInt8), (95 : UInt8)])),
 Option.some
 (Value.string (ByteArray.mk #[(112 : UInt8), (114 : UInt8), (105 : UInt8), (99 : UInt8), (101 : UInt8)])),
 Option.some (Value.string (ByteArray.mk #[(99 : UInt8), (97 : UInt8), (102 : UInt8), (195 : UInt8), (169 : UInt8)])),
 Option.some (Value.string (ByteArray.mk #[(98 : UInt8), (50 : UInt8)]))]
 ((0 : Nat) + Int.toNat (Int.tmod p (6 : Int)) * (1 : Nat)))
 (ByteArray.mk #[(32 : UInt8)]))
 (S
 [Option.some (Value.string (ByteArray.mk #[(120 : UInt8)])),
 Option.some (Value.string (ByteArray.mk #[(121 : UInt8), (49 : UInt8)])),
 Option.some (Value.string (ByteArray.mk #[(122 : UInt8), (95 : UInt8)])),
 Option.some (Value.string (ByteArray.mk #[(112 : UInt8), (114 : UInt8), (105 : UInt8), (99 : UInt8), (101 : UInt8)])),
 Option.some (Value.string (ByteArray.mk #[(99 : UInt8), (97 : UInt8), (102 : UInt8), (195 : UInt8), (169 : UInt8)])),
 Option.some (Value.string (ByteArray.mk #[(98 : UInt8), (50 : UInt8)]))]
 ((0 : Nat) + Int.toNat (Int.tmod q (6 : Int)) * (1 : Nat))))) +
 (1 : Nat))
 (9223372036854775807 : Nat))
 (TotP base (11 : Nat)
 [Value.string
 (strCat
 (strCat
 (strCat (ByteArray.mk #[(102 : UInt8), (111 : UInt8), (114 : UInt8), (32 : UInt8)])
 (strCat
 (strCat
 (S
 [Option.some (Value.string (ByteArray.mk #[(120 : UInt8)])),
 Option.some (Value.string (ByteArray.mk #[(121 : UInt8), (49 : UInt8)])),
 Option.some (Value.string (ByteArray.mk #[(122 : UInt8), (95 : UInt8)])),
 Option.some
 (Value.string (ByteArray.mk #[(112 : UInt8), (114 : UInt8), (105 : UInt8), (99 : UInt8), (101 : UInt8)])),
 Option.some
 (Value.string (ByteArray.mk #[(99 : UInt8), (97 : UInt8), (102 : UInt8), (195 : UInt8), (169 : UInt8)])),
 Option.some (Value.string (ByteArray.mk #[(98 : UInt8), (50 : UInt8)]))]
 ((0 : Nat) + Int.toNat (Int.tmod p (6 : Int)) * (1 : Nat)))
 (ByteArray.mk #[(32 : UInt8)]))
 (S
 [Option.some (Value.string (ByteArray.mk #[(120 : UInt8)])),
 Option.some (Value.string (ByteArray.mk #[(121 : UInt8), (49 : UInt8)])),
 Option.some (Value.string (ByteArray.mk #[(122 : UInt8), (95 : UInt8)])),
 Option.some
 (Value.string (ByteArray.mk #[(112 : UInt8), (114 : UInt8), (105 : UInt8), (99 : UInt8), (101 : UInt8)])),
 Option.some
 (Value.string (ByteArray.mk #[(99 : UInt8), (97 : UInt8), (102 : UInt8), (195 : UInt8), (169 : UInt8)])),
 Option.some (Value.string (ByteArray.mk #[(98 : UInt8), (50 : UInt8)]))]
 ((0 : Nat) + Int.toNat (Int.tmod q (6 : Int)) * (1 : Nat)))))
 (ByteArray.mk
 #[(32 : UInt8), (105 : UInt8), (110 : UInt8), (32 : UInt8), (91 : UInt8), (49 : UInt8), (93 : UInt8), (32 : UInt8),
 (114 : UInt8), (101 : UInt8), (116 : UInt8), (117 : UInt8), (114 : UInt8), (110 : UInt8), (32 : UInt8)]))
 (strCat
 (strCat
 (S
 [Option.some (Value.string (ByteArray.mk #[(120 : UInt8)])),
 Option.some (Value.string (ByteArray.mk #[(121 : UInt8), (49 : UInt8)])),
 Option.some (Value.string (ByteArray.mk #[(122 : UInt8), (95 : UInt8)])),
 Option.some
 (Value.string (ByteArray.mk #[(112 : UInt8), (114 : UInt8), (105 : UInt8), (99 : UInt8), (101 : UInt8)])),
 Option.some
 (Value.string (ByteArray.mk #[(99 : UInt8), (97 : UInt8), (102 : UInt8), (195 : UInt8), (169 : UInt8)])),
 Option.some (Value.string (ByteArray.mk #[(98 : UInt8), (50 : UInt8)]))]
 ((0 : Nat) + Int.toNat (Int.tmod p (6 : Int)) * (1 : Nat)))
 (ByteArray.mk #[(32 : UInt8)]))
 (S
 [Option.some (Value.string (ByteArray.mk #[(120 : UInt8)])),
 Option.some (Value.string (ByteArray.mk #[(121 : UInt8), (49 : UInt8)])),
 Option.some (Value.string (ByteArray.mk #[(122 : UInt8), (95 : UInt8)])),
 Option.some
 (Value.string (ByteArray.mk #[(112 : UInt8), (114 : UInt8), (105 : UInt8), (99 : UInt8), (101 : UInt8)])),
 Option.some (Value.string (ByteArray.mk #[(99 : UInt8), (97 : UInt8), (102 : UInt8), (195 : UInt8), (169 : UInt8)])),
 Option.some (Value.string (ByteArray.mk #[(98 : UInt8), (50 : UInt8)]))]
 ((0 : Nat) + Int.toNat (Int.tmod q (6 : Int)) * (1 : Nat))))),
 Value.string
 (strCat
 (strCat
 (strCat
 (strCat (ByteArray.mk #[(102 : UInt8), (111 : UInt8), (114 : UInt8), (32 : UInt8)])
 (strCat
 (strCat
 (S
 [Option.some (Value.string (ByteArray.mk #[(120 : UInt8)])),
 Option.some (Value.string (ByteArray.mk #[(121 : UInt8), (49 : UInt8)])),
 Option.some (Value.string (ByteArray.mk #[(122 : UInt8), (95 : UInt8)])),
 Option.some
 (Value.string (ByteArray.mk #[(112 : UInt8), (114 : UInt8), (105 : UInt8), (99 : UInt8), (101 : UInt8)])),
 Option.some
 (Value.string (ByteArray.mk #[(99 : UInt8), (97 : UInt8), (102 : UInt8), (195 : UInt8), (169 : UInt8)])),
 Option.some (Value.string (ByteArray.mk #[(98 : UInt8), (50 : UInt8)]))]
 ((0 : Nat) + Int.toNat (Int.tmod p (6 : Int)) * (1 : Nat)))
 (ByteArray.mk #[(32 : UInt8)]))
 (S
 [Option.some (Value.string (ByteArray.mk #[(120 : UInt8)])),
 Option.some (Value.string (ByteArray.mk #[(121 : UInt8), (49 : UInt8)])),
 Option.some (Value.string (ByteArray.mk #[(122 : UInt8), (95 : UInt8)])),
 Option.some
 (Value.string (ByteArray.mk #[(112 : UInt8), (114 : UInt8), (105 : UInt8), (99 : UInt8), (101 : UInt8)])),
 Option.some
 (Value.string (ByteArray.mk #[(99 : UInt8), (97 : UInt8), (102 : UInt8), (195 : UInt8), (169 : UInt8)])),
 Option.some (Value.string (ByteArray.mk #[(98 : UInt8), (50 : UInt8)]))]
 ((0 : Nat) + Int.toNat (Int.tmod q (6 : Int)) * (1 : Nat)))))
 (ByteArray.mk
 #[(32 : UInt8), (105 : UInt8), (110 : UInt8), (32 : UInt8), (91 : UInt8), (49 : UInt8), (93 : UInt8), (32 : UInt8),
 (114 : UInt8), (101 : UInt8), (116 : UInt8), (117 : UInt8), (114 : UInt8), (110 : UInt8), (32 : UInt8),
 (40 : UInt8)]))
 (strCat
 (strCat
 (S
 [Option.some (Value.string (ByteArray.mk #[(120 : UInt8)])),
 Option.some (Value.string (ByteArray.mk #[(121 : UInt8), (49 : UInt8)])),
 Option.some (Value.string (ByteArray.mk #[(122 : UInt8), (95 : UInt8)])),
 Option.some
 (Value.string (ByteArray.mk #[(112 : UInt8), (114 : UInt8), (105 : UInt8), (99 : UInt8), (101 : UInt8)])),
 Option.some
 (Value.string (ByteArray.mk #[(99 : UInt8), (97 : UInt8), (102 : UInt8), (195 : UInt8), (169 : UInt8)])),
 Option.some (Value.string (ByteArray.mk #[(98 : UInt8), (50 : UInt8)]))]
 ((0 : Nat) + Int.toNat (Int.tmod p (6 : Int)) * (1 : Nat)))
 (ByteArray.mk #[(32 : UInt8)]))
 (S
 [Option.some (Value.string (ByteArray.mk #[(120 : UInt8)])),
 Option.some (Value.string (ByteArray.mk #[(121 : UInt8), (49 : UInt8)])),
 Option.some (Value.string (ByteArray.mk #[(122 : UInt8), (95 : UInt8)])),
 Option.some
 (Value.string (ByteArray.mk #[(112 : UInt8), (114 : UInt8), (105 : UInt8), (99 : UInt8), (101 : UInt8)])),
 Option.some
 (Value.string (ByteArray.mk #[(99 : UInt8), (97 : UInt8), (102 : UInt8), (195 : UInt8), (169 : UInt8)])),
 Option.some (Value.string (ByteArray.mk #[(98 : UInt8), (50 : UInt8)]))]
 ((0 : Nat) + Int.toNat (Int.tmod q (6 : Int)) * (1 : Nat)))))
 (ByteArray.mk #[(41 : UInt8)])),
 Value.slice Option.none (0 : Nat) (0 : Nat)]
 (Value.bool Bool.true) ∧
 K (Value.bool Bool.true) (12 : Nat))
 False)
 False)
 False)
 False)
 False)
 False)
 False)
 False)
 False)
 False)
 False)
 False)
 False)
 False)
 False)
 False)
 False)
 False)
 False)
 False)
 False))
 False)
 False)
 False)
 False)
 False)
 False) := by kernel_rfl

end Go.Proofs.YtapmcocefoccdaaGreatDoor
