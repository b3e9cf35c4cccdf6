/-
  TimefunSpans: the statement's card.
-/
import Derived.Test.YtdbjbmdaekgbhaaGreatDoorWtq
namespace Go.Proofs.YtdbjbmdaekgbhaaGreatDoor
open Go Go.Pe Go.RowKit Go.ChangeShapes Go.WideShapes Go.ChangeAt

theorem timefunSpans_goes : false = Rows.timefunSpansRow.goesBy Tryz.prog := by kernel_rfl

theorem timefunSpans_plain (f : FuncId) (fn : Func) (hf : Tryz.pinned.checked.prog.funcNamed "casuist/casuistlaw24.TimefunSpans" = some f) (hfn : Tryz.pinned.checked.prog.funcs[f]? = some fn) :
    true = Tryz.pinned.checked.prog.looks [] ∧ ∀ (j : Nat) t, fn.params[j]? = some t → Tryz.pinned.checked.prog.wantsStandIn t = false := by
  obtain rfl : f = 3 := Option.some.inj ((show Tryz.prog.funcNamed "casuist/casuistlaw24.TimefunSpans" = some 3 by kernel_rfl).symm.trans hf) |>.symm
  obtain rfl : fn = Tryz.f3 := (Option.some.inj (Tryz.func3.symm.trans hfn)).symm
  refine ⟨by kernel_rfl, fun j t ht => ?_⟩
  rw [Tryz.params3] at ht
  match j, ht with
  | 0, ht => cases ht; exact (show Tryz.prog.wantsStandIn 3 = false by kernel_rfl)
  | 1, ht => cases ht; exact (show Tryz.prog.wantsStandIn 3 = false by kernel_rfl)
  | 2, ht => cases ht; exact (show Tryz.prog.wantsStandIn 26 = false by kernel_rfl)
  | _ + 3, ht => simp at ht

/-- The statement's card. -/
theorem timefunSpans_card : Rows.TimefunSpansCardSaid :=
  Claim7.holds_tied_plain_at .later [] _ _ _ _ timefunSpans_said (fun _ h => by cases h) (by kernel_rfl) (fun _ h => by cases h) timefunSpans_row_tie rfl ⟨rfl, rfl⟩ (by kernel_rfl) rfl timefunSpans_plain timefunSpans_goes

end Go.Proofs.YtdbjbmdaekgbhaaGreatDoor
