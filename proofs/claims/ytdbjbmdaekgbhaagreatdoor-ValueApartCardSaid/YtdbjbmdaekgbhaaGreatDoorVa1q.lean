/-
  ValueApart: the statement.
-/
import Derived.Test.YtdbjbmdaekgbhaaGreatDoorVa1p
namespace Go.Proofs.YtdbjbmdaekgbhaaGreatDoor
open Go Go.Pe Go.RowKit Go.ChangeShapes Go.WideShapes Go.ChangeAt

theorem valueApart_inPlace : Tryz.prog.inPlace 7 = Rows.valueApartRow.inPlace := by kernel_rfl
theorem valueApart_unfollowed : Tryz.prog.unfollowed 7 = Rows.valueApartRow.unfollowed := by kernel_rfl
theorem valueApart_named : Tryz.prog.varsNamed 7 = Rows.valueApartRow.named := by kernel_rfl
theorem valueApart_recurses : Tryz.prog.recurses 7 = Rows.valueApartRow.recurses := by kernel_rfl
theorem valueApart_closed : joinedFacts Tryz.prog 7 Tryz.f7 (OpenSpec.ofChange Rows.valueApartSpec).bare Rows.valueApartRow = true := by
  unfold joinedFacts
  rw [valueApart_inPlace, valueApart_unfollowed, valueApart_named, valueApart_recurses]
  kernel_rfl

theorem valueApart_said : Rows.ValueApartSaid :=
  OpenClaim.holds_of_cond 7 Tryz.f7 rfl rfl rfl rfl rfl rfl rfl ⟨rfl, rfl, rfl, rfl, rfl⟩ rfl rfl rfl rfl rfl (by kernel_rfl) Tryz.func7 valueApart_closed
    (of_decide_eq_true (by kernel_rfl)) (by unfold Func.isWrapper; first | (rw [if_pos (by decide +kernel)]; kernel_rfl) | (rw [if_neg (by decide +kernel)]; exact ⟨rfl, rfl⟩))
    (fun os started H enc _ F => by rw [OpenClaim.pre_eq_preRow]; exact valueApart_lifted os started H enc F)

end Go.Proofs.YtdbjbmdaekgbhaaGreatDoor
