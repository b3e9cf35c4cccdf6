/-
  ValueKinds: the statement.
-/
import Derived.Test.YthmogphlnjpakaaGreatDoorXz1
namespace Go.Proofs.YthmogphlnjpakaaGreatDoor
open Go Go.Pe Go.RowKit Go.ChangeShapes Go.WideShapes Go.ChangeAt
theorem valueKinds_inPlace : Tryz.prog.inPlace 5 = Rows.valueKindsUptoRow.inPlace := by kernel_rfl
theorem valueKinds_unfollowed : Tryz.prog.unfollowed 5 = Rows.valueKindsUptoRow.unfollowed := by kernel_rfl
theorem valueKinds_named : Tryz.prog.varsNamed 5 = Rows.valueKindsUptoRow.named := by kernel_rfl
theorem valueKinds_recurses : Tryz.prog.recurses 5 = Rows.valueKindsUptoRow.recurses := by kernel_rfl
theorem valueKinds_closed : joinedFacts Tryz.prog 5 Tryz.f5 (Rows.OpenSpec.upto Rows.valueKindsSpec).bare Rows.valueKindsUptoRow = true := by
  unfold joinedFacts
  rw [valueKinds_inPlace, valueKinds_unfollowed, valueKinds_named, valueKinds_recurses]
  kernel_rfl
theorem valueKinds_said : Rows.ValueKindsUptoSaid :=
  OpenClaim.holds_of_cond 5 Tryz.f5 rfl rfl rfl rfl rfl rfl rfl ⟨rfl, rfl, rfl, rfl, rfl⟩ rfl rfl rfl rfl rfl (by kernel_rfl) Tryz.func5 valueKinds_closed
    (of_decide_eq_true (by kernel_rfl)) (by unfold Func.isWrapper; first | (rw [if_pos (by decide +kernel)]; kernel_rfl) | (rw [if_neg (by decide +kernel)]; exact ⟨rfl, rfl⟩))
    (fun os started H enc _ F => by rw [OpenClaim.pre_eq_preRow]; exact valueKinds_lifted os started H enc F)
end Go.Proofs.YthmogphlnjpakaaGreatDoor
