/-
  ValueReads: the statement.
  ValueReads: the statement's card.
-/
import Derived.Test.YtdbjbmdaekgbhaaGreatDoorVrp

namespace Go.Proofs.YtdbjbmdaekgbhaaGreatDoor
open Go Go.Pe Go.RowKit Go.ChangeShapes Go.WideShapes Go.ChangeAt

theorem valueReads_inPlace : Tryz.prog.inPlace 6 = Rows.valueReadsUptoRow.inPlace := by kernel_rfl
theorem valueReads_unfollowed : Tryz.prog.unfollowed 6 = Rows.valueReadsUptoRow.unfollowed := by kernel_rfl
theorem valueReads_named : Tryz.prog.varsNamed 6 = Rows.valueReadsUptoRow.named := by kernel_rfl
theorem valueReads_recurses : Tryz.prog.recurses 6 = Rows.valueReadsUptoRow.recurses := by kernel_rfl
theorem valueReads_closed : joinedFacts Tryz.prog 6 Tryz.f6 (Rows.OpenSpec.upto Rows.valueReadsSpec).bare Rows.valueReadsUptoRow = true := by
  unfold joinedFacts
  rw [valueReads_inPlace, valueReads_unfollowed, valueReads_named, valueReads_recurses]
  kernel_rfl

theorem valueReads_said : Rows.ValueReadsUptoSaid :=
  OpenClaim.holds_of_cond 6 Tryz.f6 rfl rfl rfl rfl rfl rfl rfl ⟨rfl, rfl, rfl, rfl, rfl⟩ rfl rfl rfl rfl rfl (by kernel_rfl) Tryz.func6 valueReads_closed
    (of_decide_eq_true (by kernel_rfl)) (by unfold Func.isWrapper; first | (rw [if_pos (by decide +kernel)]; kernel_rfl) | (rw [if_neg (by decide +kernel)]; exact ⟨rfl, rfl⟩))
    (fun os started H enc _ F => by rw [OpenClaim.pre_eq_preRow]; exact valueReads_lifted os started H enc F)

end Go.Proofs.YtdbjbmdaekgbhaaGreatDoor

namespace Go.Proofs.YtdbjbmdaekgbhaaGreatDoor
open Go Go.Pe Go.RowKit Go.ChangeShapes Go.WideShapes Go.ChangeAt

theorem valueReads_goes : false = Rows.valueReadsUptoRow.goesBy Tryz.prog := by kernel_rfl

theorem valueReads_plain (f : FuncId) (fn : Func) (hf : Tryz.pinned.checked.prog.funcNamed "casuist/casuistlaw11.ValueReads" = some f) (hfn : Tryz.pinned.checked.prog.funcs[f]? = some fn) :
    true = Tryz.pinned.checked.prog.looks [] ∧ ∀ (j : Nat) t, fn.params[j]? = some t → Tryz.pinned.checked.prog.wantsStandIn t = false := by
  obtain rfl : f = 6 := Option.some.inj ((show Tryz.prog.funcNamed "casuist/casuistlaw11.ValueReads" = some 6 by kernel_rfl).symm.trans hf) |>.symm
  obtain rfl : fn = Tryz.f6 := (Option.some.inj (Tryz.func6.symm.trans hfn)).symm
  refine ⟨by kernel_rfl, fun j t ht => ?_⟩
  rw [Tryz.params6] at ht
  match j, ht with
  | 0, ht => cases ht; exact (show Tryz.prog.wantsStandIn 5 = false by kernel_rfl)
  | 1, ht => cases ht; exact (show Tryz.prog.wantsStandIn 9 = false by kernel_rfl)
  | _ + 2, ht => simp at ht

/-- The statement's card. -/
theorem valueReads_card : Rows.ValueReadsUptoCardSaid :=
  Claim7.holds_tied_plain_at .later [] _ _ _ _ valueReads_said (fun _ h => by cases h) (by kernel_rfl) (fun _ h => by cases h) valueReadsUpto_row_tie rfl ⟨rfl, rfl⟩ (by kernel_rfl) rfl valueReads_plain valueReads_goes

end Go.Proofs.YtdbjbmdaekgbhaaGreatDoor
