/-
  CheckOrders: the statement.
-/
import Derived.Test.YtamkkkkonigglaaGreatDoorOxp
namespace Go.Proofs.YtamkkkkonigglaaGreatDoor
open Go Go.Pe Go.RowKit Go.ChangeShapes Go.WideShapes Go.ChangeAt

theorem checkOrders_inPlace : Tryz.prog.inPlace 4 = Rows.checkOrdersRow.inPlace := by kernel_rfl
theorem checkOrders_unfollowed : Tryz.prog.unfollowed 4 = Rows.checkOrdersRow.unfollowed := by kernel_rfl
theorem checkOrders_named : Tryz.prog.varsNamed 4 = Rows.checkOrdersRow.named := by kernel_rfl
theorem checkOrders_recurses : Tryz.prog.recurses 4 = Rows.checkOrdersRow.recurses := by kernel_rfl
theorem checkOrders_closed : joinedFacts Tryz.prog 4 Tryz.f4 (OpenSpec.ofChange Rows.checkOrdersSpec).bare Rows.checkOrdersRow = true := by
  unfold joinedFacts
  rw [checkOrders_inPlace, checkOrders_unfollowed, checkOrders_named, checkOrders_recurses]
  kernel_rfl

theorem checkOrders_said : Rows.CheckOrdersSaid :=
  OpenClaim.holds_of_cond 4 Tryz.f4 rfl rfl rfl rfl rfl rfl rfl ⟨rfl, rfl, rfl, rfl, rfl⟩ rfl rfl rfl rfl rfl (by kernel_rfl) Tryz.func4 checkOrders_closed
    (of_decide_eq_true (by kernel_rfl)) (by unfold Func.isWrapper; first | (rw [if_pos (by decide +kernel)]; kernel_rfl) | (rw [if_neg (by decide +kernel)]; exact ⟨rfl, rfl⟩))
    (fun os started H enc _ F => by rw [OpenClaim.pre_eq_preRow]; exact checkOrders_lifted os started H enc F)

end Go.Proofs.YtamkkkkonigglaaGreatDoor
