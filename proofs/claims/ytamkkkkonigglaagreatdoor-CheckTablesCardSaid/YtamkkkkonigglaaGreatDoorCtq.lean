/-
  CheckTables: the statement.
-/
import Derived.Test.YtamkkkkonigglaaGreatDoorCtp
namespace Go.Proofs.YtamkkkkonigglaaGreatDoor
open Go Go.Pe Go.RowKit Go.ChangeShapes Go.WideShapes Go.ChangeAt

theorem checkTables_inPlace : Tryz.prog.inPlace 3 = Rows.checkTablesRow.inPlace := by kernel_rfl
theorem checkTables_unfollowed : Tryz.prog.unfollowed 3 = Rows.checkTablesRow.unfollowed := by kernel_rfl
theorem checkTables_named : Tryz.prog.varsNamed 3 = Rows.checkTablesRow.named := by kernel_rfl
theorem checkTables_recurses : Tryz.prog.recurses 3 = Rows.checkTablesRow.recurses := by kernel_rfl
theorem checkTables_closed : joinedFacts Tryz.prog 3 Tryz.f3 (OpenSpec.ofChange Rows.checkTablesSpec).bare Rows.checkTablesRow = true := by
  unfold joinedFacts
  rw [checkTables_inPlace, checkTables_unfollowed, checkTables_named, checkTables_recurses]
  kernel_rfl

theorem checkTables_said : Rows.CheckTablesSaid :=
  OpenClaim.holds_of_cond 3 Tryz.f3 rfl rfl rfl rfl rfl rfl rfl ⟨rfl, rfl, rfl, rfl, rfl⟩ rfl rfl rfl rfl rfl (by kernel_rfl) Tryz.func3 checkTables_closed
    (of_decide_eq_true (by kernel_rfl)) (by unfold Func.isWrapper; first | (rw [if_pos (by decide +kernel)]; kernel_rfl) | (rw [if_neg (by decide +kernel)]; exact ⟨rfl, rfl⟩))
    (fun os started H enc _ F => by rw [OpenClaim.pre_eq_preRow]; exact checkTables_lifted os started H enc F)

end Go.Proofs.YtamkkkkonigglaaGreatDoor
