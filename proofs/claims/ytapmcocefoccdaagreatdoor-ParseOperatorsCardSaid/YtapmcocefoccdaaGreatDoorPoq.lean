/-
  ParseOperators: the statement.
-/
import Derived.Test.YtapmcocefoccdaaGreatDoorPop
namespace Go.Proofs.YtapmcocefoccdaaGreatDoor
open Go Go.Pe Go.RowKit Go.ChangeShapes Go.WideShapes Go.ChangeAt

theorem parseOperators_inPlace : Tryz.prog.inPlace 3 = Rows.parseOperatorsRow.inPlace := by kernel_rfl
theorem parseOperators_unfollowed : Tryz.prog.unfollowed 3 = Rows.parseOperatorsRow.unfollowed := by kernel_rfl
theorem parseOperators_named : Tryz.prog.varsNamed 3 = Rows.parseOperatorsRow.named := by kernel_rfl
theorem parseOperators_recurses : Tryz.prog.recurses 3 = Rows.parseOperatorsRow.recurses := by kernel_rfl
theorem parseOperators_closed : joinedFacts Tryz.prog 3 Tryz.f3 (OpenSpec.ofChange Rows.parseOperatorsSpec).bare Rows.parseOperatorsRow = true := by
  unfold joinedFacts
  rw [parseOperators_inPlace, parseOperators_unfollowed, parseOperators_named, parseOperators_recurses]
  kernel_rfl

theorem parseOperators_said : Rows.ParseOperatorsSaid :=
  OpenClaim.holds_of_cond 3 Tryz.f3 rfl rfl rfl rfl rfl rfl rfl ⟨rfl, rfl, rfl, rfl, rfl⟩ rfl rfl rfl rfl rfl (by kernel_rfl) Tryz.func3 parseOperators_closed
    (of_decide_eq_true (by kernel_rfl)) (by unfold Func.isWrapper; first | (rw [if_pos (by decide +kernel)]; kernel_rfl) | (rw [if_neg (by decide +kernel)]; exact ⟨rfl, rfl⟩))
    (fun os started H enc _ F => by rw [OpenClaim.pre_eq_preRow]; exact parseOperators_lifted os started H enc F)

end Go.Proofs.YtapmcocefoccdaaGreatDoor
