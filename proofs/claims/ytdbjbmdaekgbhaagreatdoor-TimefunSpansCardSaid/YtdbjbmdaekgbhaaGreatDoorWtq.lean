/-
  TimefunSpans: the statement.
-/
import Derived.Test.YtdbjbmdaekgbhaaGreatDoorWtp
namespace Go.Proofs.YtdbjbmdaekgbhaaGreatDoor
open Go Go.Pe Go.RowKit Go.ChangeShapes Go.WideShapes Go.ChangeAt

theorem timefunSpans_inPlace : Tryz.prog.inPlace 3 = Rows.timefunSpansRow.inPlace := by kernel_rfl
theorem timefunSpans_unfollowed : Tryz.prog.unfollowed 3 = Rows.timefunSpansRow.unfollowed := by kernel_rfl
theorem timefunSpans_named : Tryz.prog.varsNamed 3 = Rows.timefunSpansRow.named := by kernel_rfl
theorem timefunSpans_recurses : Tryz.prog.recurses 3 = Rows.timefunSpansRow.recurses := by kernel_rfl
theorem timefunSpans_closed : joinedFacts Tryz.prog 3 Tryz.f3 (OpenSpec.ofChange Rows.timefunSpansSpec).bare Rows.timefunSpansRow = true := by
  unfold joinedFacts
  rw [timefunSpans_inPlace, timefunSpans_unfollowed, timefunSpans_named, timefunSpans_recurses]
  kernel_rfl

theorem timefunSpans_said : Rows.TimefunSpansSaid :=
  OpenClaim.holds_of_cond 3 Tryz.f3 rfl rfl rfl rfl rfl rfl rfl ⟨rfl, rfl, rfl, rfl, rfl⟩ rfl rfl rfl rfl rfl (by kernel_rfl) Tryz.func3 timefunSpans_closed
    (of_decide_eq_true (by kernel_rfl)) (by unfold Func.isWrapper; first | (rw [if_pos (by decide +kernel)]; kernel_rfl) | (rw [if_neg (by decide +kernel)]; exact ⟨rfl, rfl⟩))
    (fun os started H enc _ F => by rw [OpenClaim.pre_eq_preRow]; exact timefunSpans_lifted os started H enc F)

end Go.Proofs.YtdbjbmdaekgbhaaGreatDoor
