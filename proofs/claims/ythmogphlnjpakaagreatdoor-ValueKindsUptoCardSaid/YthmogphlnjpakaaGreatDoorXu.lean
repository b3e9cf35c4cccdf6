/-
  value.Of and value.Plain of simple kinds.
-/
import Derived.Test.YthmogphlnjpakaaGreatDoorXq1
namespace Go.Proofs.YthmogphlnjpakaaGreatDoor
open Go Go.Pe Go.RowKit
def rulesQ (f : Nat) (xs : List Value) (v : Value) : List (Nat × Rule) := (f, ruleAt xs v) :: rules4
theorem rulesQ_ok {base : World} {f : Nat} {xs : List Value} {v : Value} (h : Tot base f xs v) : ∀ x ∈ rulesQ f xs v, RuleOk Tryz.prog base x.1 x.2 := List.forall_mem_cons.2 ⟨ruleOk_at h, rules4_ok base⟩
def boolV (b : Bool) : Value := .agg ⟨[.iface 181 (.bool b)]⟩
end Go.Proofs.YthmogphlnjpakaaGreatDoor
