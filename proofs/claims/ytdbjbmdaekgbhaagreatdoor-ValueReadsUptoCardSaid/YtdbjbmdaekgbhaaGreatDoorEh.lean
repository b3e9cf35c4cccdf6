/-
  The moment that a law makes; the days of the week.
-/
import Derived.Test.YtdbjbmdaekgbhaaGreatDoorEf
namespace Go.Proofs.YtdbjbmdaekgbhaaGreatDoor
open Go Go.Pe Go.RowKit

theorem tmodB (x k : Int) (hk : 0 < k) : -k < Int.tmod x k ∧ Int.tmod x k < k ∧ (0 ≤ x → 0 ≤ Int.tmod x k) :=
  ⟨by have := Int.lt_tmod_of_pos x hk; omega, Int.tmod_lt_of_pos x hk, fun h => Int.tmod_nonneg k h⟩

end Go.Proofs.YtdbjbmdaekgbhaaGreatDoor
