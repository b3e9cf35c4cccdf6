/-
  The moment that a law makes; the days of the week.
-/
import Derived.Test.YtdbjbmdaekgbhaaGreatDoorEg
namespace Go.Proofs.YtdbjbmdaekgbhaaGreatDoor
open Go Go.Pe Go.RowKit

theorem make_tree1 (K : Value → Nat → Prop) (y m d s o : Int) :
    funcK (env rules4) 30 56 [.agg ⟨[.int .i64 y, .int .i64 m, .int .i64 d, .int .i64 s, .int .i64 o, .bool true]⟩] tabs Tryz.prog.globals.size (fun u _ _ mw => K u mw) =
  (bsel (decide (IntKind.wrap IntKind.i64 (Int.tmod (IntKind.wrap IntKind.i64 (Int.tmod m (12 : Int) + (12 : Int))) (12 : Int) + (1 : Int)) < (1 : Int))) False
 (bsel (decide (IntKind.wrap IntKind.i64 (Int.tmod (IntKind.wrap IntKind.i64 (Int.tmod m (12 : Int) + (12 : Int))) (12 : Int) + (1 : Int)) > (12 : Int))) False
 (bsel (IntKind.wrap IntKind.i64 (Int.tmod (IntKind.wrap IntKind.i64 (Int.tmod m (12 : Int) + (12 : Int))) (12 : Int) + (1 : Int)) == (4 : Int))
 (K
 (Value.agg
 (Array.mk
 [Value.int IntKind.i64 (Int.tmod y (1000000000 : Int)),
 Value.int IntKind.i64 (IntKind.wrap IntKind.i64 (Int.tmod (IntKind.wrap IntKind.i64 (Int.tmod m (12 : Int) + (12 : Int))) (12 : Int) + (1 : Int))),
 Value.int IntKind.i64 (IntKind.wrap IntKind.i64 (Int.tmod (IntKind.wrap IntKind.i64 (Int.tmod d (30 : Int) + (30 : Int))) (30 : Int) + (1 : Int))),
 Value.int IntKind.i64 (Int.tmod (IntKind.wrap IntKind.i64 (Int.tmod s (86400 : Int) + (86400 : Int))) (86400 : Int)), Value.bool Bool.true,
 Value.int IntKind.i64 (Int.tmod o (64801 : Int))]))
 (11 : Nat))
 (bsel (IntKind.wrap IntKind.i64 (Int.tmod (IntKind.wrap IntKind.i64 (Int.tmod m (12 : Int) + (12 : Int))) (12 : Int) + (1 : Int)) == (6 : Int))
 (K
 (Value.agg
 (Array.mk
 [Value.int IntKind.i64 (Int.tmod y (1000000000 : Int)),
 Value.int IntKind.i64 (IntKind.wrap IntKind.i64 (Int.tmod (IntKind.wrap IntKind.i64 (Int.tmod m (12 : Int) + (12 : Int))) (12 : Int) + (1 : Int))),
 Value.int IntKind.i64 (IntKind.wrap IntKind.i64 (Int.tmod (IntKind.wrap IntKind.i64 (Int.tmod d (30 : Int) + (30 : Int))) (30 : Int) + (1 : Int))),
 Value.int IntKind.i64 (Int.tmod (IntKind.wrap IntKind.i64 (Int.tmod s (86400 : Int) + (86400 : Int))) (86400 : Int)), Value.bool Bool.true,
 Value.int IntKind.i64 (Int.tmod o (64801 : Int))]))
 (11 : Nat))
 (bsel (IntKind.wrap IntKind.i64 (Int.tmod (IntKind.wrap IntKind.i64 (Int.tmod m (12 : Int) + (12 : Int))) (12 : Int) + (1 : Int)) == (9 : Int))
 (K
 (Value.agg
 (Array.mk
 [Value.int IntKind.i64 (Int.tmod y (1000000000 : Int)),
 Value.int IntKind.i64 (IntKind.wrap IntKind.i64 (Int.tmod (IntKind.wrap IntKind.i64 (Int.tmod m (12 : Int) + (12 : Int))) (12 : Int) + (1 : Int))),
 Value.int IntKind.i64 (IntKind.wrap IntKind.i64 (Int.tmod (IntKind.wrap IntKind.i64 (Int.tmod d (30 : Int) + (30 : Int))) (30 : Int) + (1 : Int))),
 Value.int IntKind.i64 (Int.tmod (IntKind.wrap IntKind.i64 (Int.tmod s (86400 : Int) + (86400 : Int))) (86400 : Int)), Value.bool Bool.true,
 Value.int IntKind.i64 (Int.tmod o (64801 : Int))]))
 (11 : Nat))
 (bsel (IntKind.wrap IntKind.i64 (Int.tmod (IntKind.wrap IntKind.i64 (Int.tmod m (12 : Int) + (12 : Int))) (12 : Int) + (1 : Int)) == (11 : Int))
 (K
 (Value.agg
 (Array.mk
 [Value.int IntKind.i64 (Int.tmod y (1000000000 : Int)),
 Value.int IntKind.i64 (IntKind.wrap IntKind.i64 (Int.tmod (IntKind.wrap IntKind.i64 (Int.tmod m (12 : Int) + (12 : Int))) (12 : Int) + (1 : Int))),
 Value.int IntKind.i64 (IntKind.wrap IntKind.i64 (Int.tmod (IntKind.wrap IntKind.i64 (Int.tmod d (30 : Int) + (30 : Int))) (30 : Int) + (1 : Int))),
 Value.int IntKind.i64 (Int.tmod (IntKind.wrap IntKind.i64 (Int.tmod s (86400 : Int) + (86400 : Int))) (86400 : Int)), Value.bool Bool.true,
 Value.int IntKind.i64 (Int.tmod o (64801 : Int))]))
 (11 : Nat))
 (bsel (IntKind.wrap IntKind.i64 (Int.tmod (IntKind.wrap IntKind.i64 (Int.tmod m (12 : Int) + (12 : Int))) (12 : Int) + (1 : Int)) != (2 : Int))
 (K
 (Value.agg
 (Array.mk
 [Value.int IntKind.i64 (Int.tmod y (1000000000 : Int)),
 Value.int IntKind.i64 (IntKind.wrap IntKind.i64 (Int.tmod (IntKind.wrap IntKind.i64 (Int.tmod m (12 : Int) + (12 : Int))) (12 : Int) + (1 : Int))),
 Value.int IntKind.i64 (IntKind.wrap IntKind.i64 (Int.tmod (IntKind.wrap IntKind.i64 (Int.tmod d (31 : Int) + (31 : Int))) (31 : Int) + (1 : Int))),
 Value.int IntKind.i64 (Int.tmod (IntKind.wrap IntKind.i64 (Int.tmod s (86400 : Int) + (86400 : Int))) (86400 : Int)), Value.bool Bool.true,
 Value.int IntKind.i64 (Int.tmod o (64801 : Int))]))
 (11 : Nat))
 (bsel (Int.tmod (Int.tmod y (1000000000 : Int)) (400 : Int) == (0 : Int))
 (K
 (Value.agg
 (Array.mk
 [Value.int IntKind.i64 (Int.tmod y (1000000000 : Int)),
 Value.int IntKind.i64 (IntKind.wrap IntKind.i64 (Int.tmod (IntKind.wrap IntKind.i64 (Int.tmod m (12 : Int) + (12 : Int))) (12 : Int) + (1 : Int))),
 Value.int IntKind.i64 (IntKind.wrap IntKind.i64 (Int.tmod (IntKind.wrap IntKind.i64 (Int.tmod d (29 : Int) + (29 : Int))) (29 : Int) + (1 : Int))),
 Value.int IntKind.i64 (Int.tmod (IntKind.wrap IntKind.i64 (Int.tmod s (86400 : Int) + (86400 : Int))) (86400 : Int)), Value.bool Bool.true,
 Value.int IntKind.i64 (Int.tmod o (64801 : Int))]))
 (11 : Nat))
 (bsel (Int.tmod (Int.tmod y (1000000000 : Int)) (4 : Int) == (0 : Int))
 (bsel (Int.tmod (Int.tmod y (1000000000 : Int)) (100 : Int) != (0 : Int))
 (K
 (Value.agg
 (Array.mk
 [Value.int IntKind.i64 (Int.tmod y (1000000000 : Int)),
 Value.int IntKind.i64 (IntKind.wrap IntKind.i64 (Int.tmod (IntKind.wrap IntKind.i64 (Int.tmod m (12 : Int) + (12 : Int))) (12 : Int) + (1 : Int))),
 Value.int IntKind.i64 (IntKind.wrap IntKind.i64 (Int.tmod (IntKind.wrap IntKind.i64 (Int.tmod d (29 : Int) + (29 : Int))) (29 : Int) + (1 : Int))),
 Value.int IntKind.i64 (Int.tmod (IntKind.wrap IntKind.i64 (Int.tmod s (86400 : Int) + (86400 : Int))) (86400 : Int)), Value.bool Bool.true,
 Value.int IntKind.i64 (Int.tmod o (64801 : Int))]))
 (11 : Nat))
 (K
 (Value.agg
 (Array.mk
 [Value.int IntKind.i64 (Int.tmod y (1000000000 : Int)),
 Value.int IntKind.i64 (IntKind.wrap IntKind.i64 (Int.tmod (IntKind.wrap IntKind.i64 (Int.tmod m (12 : Int) + (12 : Int))) (12 : Int) + (1 : Int))),
 Value.int IntKind.i64 (IntKind.wrap IntKind.i64 (Int.tmod (IntKind.wrap IntKind.i64 (Int.tmod d (28 : Int) + (28 : Int))) (28 : Int) + (1 : Int))),
 Value.int IntKind.i64 (Int.tmod (IntKind.wrap IntKind.i64 (Int.tmod s (86400 : Int) + (86400 : Int))) (86400 : Int)), Value.bool Bool.true,
 Value.int IntKind.i64 (Int.tmod o (64801 : Int))]))
 (11 : Nat)))
 (K
 (Value.agg
 (Array.mk
 [Value.int IntKind.i64 (Int.tmod y (1000000000 : Int)),
 Value.int IntKind.i64 (IntKind.wrap IntKind.i64 (Int.tmod (IntKind.wrap IntKind.i64 (Int.tmod m (12 : Int) + (12 : Int))) (12 : Int) + (1 : Int))),
 Value.int IntKind.i64 (IntKind.wrap IntKind.i64 (Int.tmod (IntKind.wrap IntKind.i64 (Int.tmod d (28 : Int) + (28 : Int))) (28 : Int) + (1 : Int))),
 Value.int IntKind.i64 (Int.tmod (IntKind.wrap IntKind.i64 (Int.tmod s (86400 : Int) + (86400 : Int))) (86400 : Int)), Value.bool Bool.true,
 Value.int IntKind.i64 (Int.tmod o (64801 : Int))]))
 (11 : Nat))))))))))) := by kernel_rfl
theorem make_tree2 (K : Value → Nat → Prop) (y m d s o : Int) :
    funcK (env rules4) 30 56 [.agg ⟨[.int .i64 y, .int .i64 m, .int .i64 d, .int .i64 s, .int .i64 o, .bool false]⟩] tabs Tryz.prog.globals.size (fun u _ _ mw => K u mw) =
  (bsel (decide (IntKind.wrap IntKind.i64 (Int.tmod (IntKind.wrap IntKind.i64 (Int.tmod m (12 : Int) + (12 : Int))) (12 : Int) + (1 : Int)) < (1 : Int))) False
 (bsel (decide (IntKind.wrap IntKind.i64 (Int.tmod (IntKind.wrap IntKind.i64 (Int.tmod m (12 : Int) + (12 : Int))) (12 : Int) + (1 : Int)) > (12 : Int))) False
 (bsel (IntKind.wrap IntKind.i64 (Int.tmod (IntKind.wrap IntKind.i64 (Int.tmod m (12 : Int) + (12 : Int))) (12 : Int) + (1 : Int)) == (4 : Int))
 (K
 (Value.agg
 (Array.mk
 [Value.int IntKind.i64 (Int.tmod y (1000000000 : Int)),
 Value.int IntKind.i64 (IntKind.wrap IntKind.i64 (Int.tmod (IntKind.wrap IntKind.i64 (Int.tmod m (12 : Int) + (12 : Int))) (12 : Int) + (1 : Int))),
 Value.int IntKind.i64 (IntKind.wrap IntKind.i64 (Int.tmod (IntKind.wrap IntKind.i64 (Int.tmod d (30 : Int) + (30 : Int))) (30 : Int) + (1 : Int))),
 Value.int IntKind.i64 (Int.tmod (IntKind.wrap IntKind.i64 (Int.tmod s (86400 : Int) + (86400 : Int))) (86400 : Int)), Value.bool Bool.false,
 Value.int IntKind.i64 (Int.ofNat (0 : Nat))]))
 (11 : Nat))
 (bsel (IntKind.wrap IntKind.i64 (Int.tmod (IntKind.wrap IntKind.i64 (Int.tmod m (12 : Int) + (12 : Int))) (12 : Int) + (1 : Int)) == (6 : Int))
 (K
 (Value.agg
 (Array.mk
 [Value.int IntKind.i64 (Int.tmod y (1000000000 : Int)),
 Value.int IntKind.i64 (IntKind.wrap IntKind.i64 (Int.tmod (IntKind.wrap IntKind.i64 (Int.tmod m (12 : Int) + (12 : Int))) (12 : Int) + (1 : Int))),
 Value.int IntKind.i64 (IntKind.wrap IntKind.i64 (Int.tmod (IntKind.wrap IntKind.i64 (Int.tmod d (30 : Int) + (30 : Int))) (30 : Int) + (1 : Int))),
 Value.int IntKind.i64 (Int.tmod (IntKind.wrap IntKind.i64 (Int.tmod s (86400 : Int) + (86400 : Int))) (86400 : Int)), Value.bool Bool.false,
 Value.int IntKind.i64 (Int.ofNat (0 : Nat))]))
 (11 : Nat))
 (bsel (IntKind.wrap IntKind.i64 (Int.tmod (IntKind.wrap IntKind.i64 (Int.tmod m (12 : Int) + (12 : Int))) (12 : Int) + (1 : Int)) == (9 : Int))
 (K
 (Value.agg
 (Array.mk
 [Value.int IntKind.i64 (Int.tmod y (1000000000 : Int)),
 Value.int IntKind.i64 (IntKind.wrap IntKind.i64 (Int.tmod (IntKind.wrap IntKind.i64 (Int.tmod m (12 : Int) + (12 : Int))) (12 : Int) + (1 : Int))),
 Value.int IntKind.i64 (IntKind.wrap IntKind.i64 (Int.tmod (IntKind.wrap IntKind.i64 (Int.tmod d (30 : Int) + (30 : Int))) (30 : Int) + (1 : Int))),
 Value.int IntKind.i64 (Int.tmod (IntKind.wrap IntKind.i64 (Int.tmod s (86400 : Int) + (86400 : Int))) (86400 : Int)), Value.bool Bool.false,
 Value.int IntKind.i64 (Int.ofNat (0 : Nat))]))
 (11 : Nat))
 (bsel (IntKind.wrap IntKind.i64 (Int.tmod (IntKind.wrap IntKind.i64 (Int.tmod m (12 : Int) + (12 : Int))) (12 : Int) + (1 : Int)) == (11 : Int))
 (K
 (Value.agg
 (Array.mk
 [Value.int IntKind.i64 (Int.tmod y (1000000000 : Int)),
 Value.int IntKind.i64 (IntKind.wrap IntKind.i64 (Int.tmod (IntKind.wrap IntKind.i64 (Int.tmod m (12 : Int) + (12 : Int))) (12 : Int) + (1 : Int))),
 Value.int IntKind.i64 (IntKind.wrap IntKind.i64 (Int.tmod (IntKind.wrap IntKind.i64 (Int.tmod d (30 : Int) + (30 : Int))) (30 : Int) + (1 : Int))),
 Value.int IntKind.i64 (Int.tmod (IntKind.wrap IntKind.i64 (Int.tmod s (86400 : Int) + (86400 : Int))) (86400 : Int)), Value.bool Bool.false,
 Value.int IntKind.i64 (Int.ofNat (0 : Nat))]))
 (11 : Nat))
 (bsel (IntKind.wrap IntKind.i64 (Int.tmod (IntKind.wrap IntKind.i64 (Int.tmod m (12 : Int) + (12 : Int))) (12 : Int) + (1 : Int)) != (2 : Int))
 (K
 (Value.agg
 (Array.mk
 [Value.int IntKind.i64 (Int.tmod y (1000000000 : Int)),
 Value.int IntKind.i64 (IntKind.wrap IntKind.i64 (Int.tmod (IntKind.wrap IntKind.i64 (Int.tmod m (12 : Int) + (12 : Int))) (12 : Int) + (1 : Int))),
 Value.int IntKind.i64 (IntKind.wrap IntKind.i64 (Int.tmod (IntKind.wrap IntKind.i64 (Int.tmod d (31 : Int) + (31 : Int))) (31 : Int) + (1 : Int))),
 Value.int IntKind.i64 (Int.tmod (IntKind.wrap IntKind.i64 (Int.tmod s (86400 : Int) + (86400 : Int))) (86400 : Int)), Value.bool Bool.false,
 Value.int IntKind.i64 (Int.ofNat (0 : Nat))]))
 (11 : Nat))
 (bsel (Int.tmod (Int.tmod y (1000000000 : Int)) (400 : Int) == (0 : Int))
 (K
 (Value.agg
 (Array.mk
 [Value.int IntKind.i64 (Int.tmod y (1000000000 : Int)),
 Value.int IntKind.i64 (IntKind.wrap IntKind.i64 (Int.tmod (IntKind.wrap IntKind.i64 (Int.tmod m (12 : Int) + (12 : Int))) (12 : Int) + (1 : Int))),
 Value.int IntKind.i64 (IntKind.wrap IntKind.i64 (Int.tmod (IntKind.wrap IntKind.i64 (Int.tmod d (29 : Int) + (29 : Int))) (29 : Int) + (1 : Int))),
 Value.int IntKind.i64 (Int.tmod (IntKind.wrap IntKind.i64 (Int.tmod s (86400 : Int) + (86400 : Int))) (86400 : Int)), Value.bool Bool.false,
 Value.int IntKind.i64 (Int.ofNat (0 : Nat))]))
 (11 : Nat))
 (bsel (Int.tmod (Int.tmod y (1000000000 : Int)) (4 : Int) == (0 : Int))
 (bsel (Int.tmod (Int.tmod y (1000000000 : Int)) (100 : Int) != (0 : Int))
 (K
 (Value.agg
 (Array.mk
 [Value.int IntKind.i64 (Int.tmod y (1000000000 : Int)),
 Value.int IntKind.i64 (IntKind.wrap IntKind.i64 (Int.tmod (IntKind.wrap IntKind.i64 (Int.tmod m (12 : Int) + (12 : Int))) (12 : Int) + (1 : Int))),
 Value.int IntKind.i64 (IntKind.wrap IntKind.i64 (Int.tmod (IntKind.wrap IntKind.i64 (Int.tmod d (29 : Int) + (29 : Int))) (29 : Int) + (1 : Int))),
 Value.int IntKind.i64 (Int.tmod (IntKind.wrap IntKind.i64 (Int.tmod s (86400 : Int) + (86400 : Int))) (86400 : Int)), Value.bool Bool.false,
 Value.int IntKind.i64 (Int.ofNat (0 : Nat))]))
 (11 : Nat))
 (K
 (Value.agg
 (Array.mk
 [Value.int IntKind.i64 (Int.tmod y (1000000000 : Int)),
 Value.int IntKind.i64 (IntKind.wrap IntKind.i64 (Int.tmod (IntKind.wrap IntKind.i64 (Int.tmod m (12 : Int) + (12 : Int))) (12 : Int) + (1 : Int))),
 Value.int IntKind.i64 (IntKind.wrap IntKind.i64 (Int.tmod (IntKind.wrap IntKind.i64 (Int.tmod d (28 : Int) + (28 : Int))) (28 : Int) + (1 : Int))),
 Value.int IntKind.i64 (Int.tmod (IntKind.wrap IntKind.i64 (Int.tmod s (86400 : Int) + (86400 : Int))) (86400 : Int)), Value.bool Bool.false,
 Value.int IntKind.i64 (Int.ofNat (0 : Nat))]))
 (11 : Nat)))
 (K
 (Value.agg
 (Array.mk
 [Value.int IntKind.i64 (Int.tmod y (1000000000 : Int)),
 Value.int IntKind.i64 (IntKind.wrap IntKind.i64 (Int.tmod (IntKind.wrap IntKind.i64 (Int.tmod m (12 : Int) + (12 : Int))) (12 : Int) + (1 : Int))),
 Value.int IntKind.i64 (IntKind.wrap IntKind.i64 (Int.tmod (IntKind.wrap IntKind.i64 (Int.tmod d (28 : Int) + (28 : Int))) (28 : Int) + (1 : Int))),
 Value.int IntKind.i64 (Int.tmod (IntKind.wrap IntKind.i64 (Int.tmod s (86400 : Int) + (86400 : Int))) (86400 : Int)), Value.bool Bool.false,
 Value.int IntKind.i64 (Int.ofNat (0 : Nat))]))
 (11 : Nat))))))))))) := by kernel_rfl

theorem tmodB (x k : Int) (hk : 0 < k) : -k < Int.tmod x k ∧ Int.tmod x k < k ∧ (0 ≤ x → 0 ≤ Int.tmod x k) :=
  ⟨by have := Int.lt_tmod_of_pos x hk; omega, Int.tmod_lt_of_pos x hk, fun h => Int.tmod_nonneg k h⟩

theorem norm1 (x k : Int) (hk : 0 < k) (hk2 : k ≤ 1000000000) : ∃ c, 1 ≤ c ∧ c ≤ k ∧ IntKind.wrap .i64 (Int.tmod (IntKind.wrap .i64 (Int.tmod x k + k)) k + 1) = c := by
  obtain ⟨h1, h2, _⟩ := tmodB x k hk
  rw [wrap_i64 (Int.tmod x k + k) (by unfold rng; omega)]
  obtain ⟨h3, h4, h5⟩ := tmodB (Int.tmod x k + k) k hk
  have h6 := h5 (by omega)
  exact ⟨_, by omega, by omega, wrap_i64 _ (by unfold rng; omega)⟩

theorem norm0 (x k : Int) (hk : 0 < k) (hk2 : k ≤ 1000000000) : ∃ c, 0 ≤ c ∧ c < k ∧ Int.tmod (IntKind.wrap .i64 (Int.tmod x k + k)) k = c := by
  obtain ⟨h1, h2, _⟩ := tmodB x k hk
  rw [wrap_i64 (Int.tmod x k + k) (by unfold rng; omega)]
  obtain ⟨h3, h4, h5⟩ := tmodB (Int.tmod x k + k) k hk
  exact ⟨_, h5 (by omega), h4, rfl⟩

/-- A moment that there is. -/
def isMoment (u : Value) : Prop := ∃ y m d s z o, u = momentC y m d s z o ∧ dateOk y m d ∧ timeOk s z o

theorem make_hk (y m d s o : Int) (z : Bool) : ReckS rules4 30 56 [.agg ⟨[.int .i64 y, .int .i64 m, .int .i64 d, .int .i64 s, .int .i64 o, .bool z]⟩] isMoment := by
  obtain ⟨mm, m1, m2, hm⟩ := norm1 m 12 (by decide) (by decide)
  obtain ⟨ss, s1, s2, hs⟩ := norm0 s 86400 (by decide) (by decide)
  obtain ⟨d28, a1, a2, h28⟩ := norm1 d 28 (by decide) (by decide)
  obtain ⟨d29, b1, b2, h29⟩ := norm1 d 29 (by decide) (by decide)
  obtain ⟨d30, c1, c2, h30⟩ := norm1 d 30 (by decide) (by decide)
  obtain ⟨d31, e1, e2, h31⟩ := norm1 d 31 (by decide) (by decide)
  obtain ⟨y1, y2, _⟩ := tmodB y 1000000000 (by decide)
  obtain ⟨o1, o2, _⟩ := tmodB o 64801 (by decide)
  have hmw : Tryz.prog.globals.size ≤ 11 := Nat.le_of_ble_eq_true (by kernel_rfl)
  have leaf : ∀ (dd ss oo : Int) (z : Bool), dateOk (Int.tmod y 1000000000) mm dd → timeOk ss z oo → isMoment (.agg ⟨[.int .i64 (Int.tmod y 1000000000), .int .i64 mm, .int .i64 dd, .int .i64 ss, .bool z, .int .i64 oo]⟩) ∧ Tryz.prog.globals.size ≤ 11 :=
    fun dd ss oo z h1 h2 => ⟨⟨_, _, _, _, _, _, rfl, h1, h2⟩, hmw⟩
  cases z
  · constructor
    rw [make_tree2 fun u mw => isMoment u ∧ Tryz.prog.globals.size ≤ mw]
    simp only [hm, hs, h28, h29, h30, h31]
    clear hm hs h28 h29 h30 h31
    have ht : timeOk ss false 0 := ⟨by omega, by omega, by omega, by omega, fun _ => rfl⟩
    repeat' (refine bsel_of (fun _ => ?_) (fun _ => ?_))
    all_goals first
      | (refine leaf _ _ _ _ ⟨by omega, by omega, m1, m2, by assumption, ?_⟩ ht
         clear leaf ht
         grind [lenF, leapF])
      | (exfalso
         simp only [decide_eq_true_eq, decide_eq_false_iff_not] at *
         omega)
  · constructor
    rw [make_tree1 fun u mw => isMoment u ∧ Tryz.prog.globals.size ≤ mw]
    simp only [hm, hs, h28, h29, h30, h31]
    clear hm hs h28 h29 h30 h31
    have ht : timeOk ss true (Int.tmod o 64801) := ⟨by omega, by omega, by omega, by omega, fun h => by cases h⟩
    repeat' (refine bsel_of (fun _ => ?_) (fun _ => ?_))
    all_goals first
      | (refine leaf _ _ _ _ ⟨by omega, by omega, m1, m2, by assumption, ?_⟩ ht
         clear leaf ht
         grind [lenF, leapF])
      | (exfalso
         simp only [decide_eq_true_eq, decide_eq_false_iff_not] at *
         omega)

theorem moment_pure : ∀ v, isMoment v → pureV 6 v = true := by
  rintro v ⟨_, _, _, _, _, _, rfl, _, _⟩
  kernel_rfl

theorem make_tot (base : World) (y m d s o : Int) (z : Bool) : ∃ v, isMoment v ∧ Tot base 56 [.agg ⟨[.int .i64 y, .int .i64 m, .int .i64 d, .int .i64 s, .int .i64 o, .bool z]⟩] v :=
  tot_of (S := isMoment) (rules4_ok base) (make_hk y m d s o z) moment_pure (pure1 (by kernel_rfl))

end Go.Proofs.YtdbjbmdaekgbhaaGreatDoor
