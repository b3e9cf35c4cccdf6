/-
  ValueMakes: the statement.
-/
import Derived.Test.YtolniekeocnanaaGreatDoorVf
namespace Go.Proofs.YtolniekeocnanaaGreatDoor
open Go Go.Pe Go.RowKit Go.ChangeShapes Go.WideShapes Go.ChangeAt

theorem vmk_inPlace : Tryz.prog.inPlace 4 = Rows.valueMakesRow.inPlace := by kernel_rfl
theorem vmk_unfollowed : Tryz.prog.unfollowed 4 = Rows.valueMakesRow.unfollowed := by kernel_rfl
theorem vmk_named : Tryz.prog.varsNamed 4 = Rows.valueMakesRow.named := by kernel_rfl
theorem vmk_recurses : Tryz.prog.recurses 4 = Rows.valueMakesRow.recurses := by kernel_rfl
theorem vmk_closed : joinedFacts Tryz.prog 4 Tryz.f4 (OpenSpec.ofChange Rows.valueMakesSpec).bare Rows.valueMakesRow = true := by
  unfold joinedFacts
  rw [vmk_inPlace, vmk_unfollowed, vmk_named, vmk_recurses]
  kernel_rfl

theorem valueMakes_said : Rows.ValueMakesSaid :=
  OpenClaim.holds_of_cond 4 Tryz.f4 rfl rfl rfl rfl rfl rfl rfl ⟨rfl, rfl, rfl, rfl, rfl⟩ rfl rfl rfl rfl rfl (by kernel_rfl) Tryz.func4 vmk_closed
    (of_decide_eq_true (by kernel_rfl)) (by unfold Func.isWrapper; first | (rw [if_pos (by decide +kernel)]; kernel_rfl) | (rw [if_neg (by decide +kernel)]; exact ⟨rfl, rfl⟩))
    (fun os started H enc _ F => by rw [OpenClaim.pre_eq_preRow]; exact valueMakes_lifted os started H enc F)

end Go.Proofs.YtolniekeocnanaaGreatDoor
