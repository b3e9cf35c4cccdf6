/-
  The environment of this seat's laws: tables, what is run in place.
-/
import Derived.Test.YtdbjbmdaekgbhaaGreatDoorPeP1
import Derived.Test.YtdbjbmdaekgbhaaGreatDoorRows
namespace Go.Proofs.YtdbjbmdaekgbhaaGreatDoor
open Go Go.Pe Go.RowKit

def pow10s : List Int := [1, 10, 100, 1000, 10000, 100000, 1000000, 10000000, 100000000, 1000000000, 10000000000, 100000000000, 1000000000000, 10000000000000, 100000000000000, 1000000000000000, 10000000000000000, 100000000000000000, 1000000000000000000, 10000000000000000000]
def tabs : Heap := [(7, tabBlk .u64 pow10s)]
def bools (t : TypeId) : Bool := Nat.beq t 4
  || Nat.beq t 229
def rules0 : List (Nat × Rule) := [
  (190, ruleCount),
  (267, ruleIndexByte),
  (239, ruleSame),
  (215, ruleAdd), (216, ruleSub)]

theorem rules0_ok (base : World) : ∀ x ∈ rules0, RuleOk Tryz.prog base x.1 x.2 := by
  unfold rules0
  refine List.forall_mem_cons.2 ⟨ruleOk_count (inPlace Tryz.f190 Tryz.func190 (by kernel_rfl) (by kernel_rfl) (by kernel_rfl) (by kernel_rfl)), ?_⟩
  refine List.forall_mem_cons.2 ⟨ruleOk_indexByte (inPlace Tryz.f267 Tryz.func267 (by kernel_rfl) (by kernel_rfl) (by kernel_rfl) (by kernel_rfl)), ?_⟩
  refine List.forall_mem_cons.2 ⟨ruleOk_same (inPlace Tryz.f239 Tryz.func239 (by kernel_rfl) (by kernel_rfl) (by kernel_rfl) (by kernel_rfl)), ?_⟩
  refine List.forall_mem_cons.2 ⟨ruleOk_add (inPlace Tryz.f215 Tryz.func215 (by kernel_rfl) (by kernel_rfl) (by kernel_rfl) (by kernel_rfl)), ?_⟩
  refine List.forall_mem_cons.2 ⟨ruleOk_sub (inPlace Tryz.f216 Tryz.func216 (by kernel_rfl) (by kernel_rfl) (by kernel_rfl) (by kernel_rfl)), ?_⟩
  exact fun _ h => by cases h

theorem plain_ok : plainOk Tryz.prog = true := by kernel_rfl
theorem mixed_ok : Tryz.prog.follows .mixedOrders = true := by kernel_rfl

/-- An environment of these rules. -/
noncomputable def env (rules : List (Nat × Rule)) : Env :=
  { P := Tryz.prog, isBool := bools, oracle := findR rules, eqAgg := fun _ _ _ => none, loops := 100000, loopP := fun _ _ => none, guess := fun _ _ => none, strF := strAt }

theorem env_ok {rules : List (Nat × Rule)} {base : World} (hr : ∀ x ∈ rules, RuleOk Tryz.prog base x.1 x.2) : EnvOk (env rules) base :=
  envOk_of (E := env rules) rfl rfl mixed_ok plain_ok hr fun _ _ _ _ h => by cases h

theorem env_loops {rules : List (Nat × Rule)} {base : World} : LoopsOk (env rules) base := fun _ _ _ _ _ _ h => by cases h

theorem tabs_ok : HWF (· < Tryz.prog.globals.size) tabs := hwf_of (by kernel_rfl)

end Go.Proofs.YtdbjbmdaekgbhaaGreatDoor
