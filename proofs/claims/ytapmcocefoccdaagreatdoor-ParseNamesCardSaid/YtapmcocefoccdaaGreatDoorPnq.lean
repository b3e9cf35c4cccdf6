/-
  ParseNames: the statement.
-/
import Derived.Test.YtapmcocefoccdaaGreatDoorPnp
namespace Go.Proofs.YtapmcocefoccdaaGreatDoor
open Go Go.Pe Go.RowKit Go.ChangeShapes Go.WideShapes Go.ChangeAt

theorem parseNames_inPlace : Tryz.prog.inPlace 4 = Rows.parseNamesRow.inPlace := by kernel_rfl
theorem parseNames_unfollowed : Tryz.prog.unfollowed 4 = Rows.parseNamesRow.unfollowed := by kernel_rfl
theorem parseNames_named : Tryz.prog.varsNamed 4 = Rows.parseNamesRow.named := by kernel_rfl
theorem parseNames_recurses : Tryz.prog.recurses 4 = Rows.parseNamesRow.recurses := by kernel_rfl
theorem parseNames_closed : joinedFacts Tryz.prog 4 Tryz.f4 (OpenSpec.ofChange Rows.parseNamesSpec).bare Rows.parseNamesRow = true := by
  unfold joinedFacts
  rw [parseNames_inPlace, parseNames_unfollowed, parseNames_named, parseNames_recurses]
  kernel_rfl

theorem parseNames_said : Rows.ParseNamesSaid :=
  OpenClaim.holds_of_cond 4 Tryz.f4 rfl rfl rfl rfl rfl rfl rfl ⟨rfl, rfl, rfl, rfl, rfl⟩ rfl rfl rfl rfl rfl (by kernel_rfl) Tryz.func4 parseNames_closed
    (of_decide_eq_true (by kernel_rfl)) (by unfold Func.isWrapper; first | (rw [if_pos (by decide +kernel)]; kernel_rfl) | (rw [if_neg (by decide +kernel)]; exact ⟨rfl, rfl⟩))
    (fun os started H enc _ F => by rw [OpenClaim.pre_eq_preRow]; exact parseNames_lifted os started H enc F)

end Go.Proofs.YtapmcocefoccdaaGreatDoor
