/-
  ParseNames: the statement's card.
-/
import Derived.Test.YtapmcocefoccdaaGreatDoorPnq
namespace Go.Proofs.YtapmcocefoccdaaGreatDoor
open Go Go.Pe Go.RowKit Go.ChangeShapes Go.WideShapes Go.ChangeAt

theorem parseNames_goes : false = Rows.parseNamesRow.goesBy Tryz.prog := by kernel_rfl

theorem parseNames_plain (f : FuncId) (fn : Func) (hf : Tryz.pinned.checked.prog.funcNamed "casuist/casuistlaw19.ParseNames" = some f) (hfn : Tryz.pinned.checked.prog.funcs[f]? = some fn) :
    true = Tryz.pinned.checked.prog.looks [] ∧ ∀ (j : Nat) t, fn.params[j]? = some t → Tryz.pinned.checked.prog.wantsStandIn t = false := by
  obtain rfl : f = 4 := Option.some.inj ((show Tryz.prog.funcNamed "casuist/casuistlaw19.ParseNames" = some 4 by kernel_rfl).symm.trans hf) |>.symm
  obtain rfl : fn = Tryz.f4 := (Option.some.inj (Tryz.func4.symm.trans hfn)).symm
  refine ⟨by kernel_rfl, fun j t ht => ?_⟩
  rw [Tryz.params4] at ht
  match j, ht with
  | 0, ht => cases ht; exact (show Tryz.prog.wantsStandIn 5 = false by kernel_rfl)
  | 1, ht => cases ht; exact (show Tryz.prog.wantsStandIn 5 = false by kernel_rfl)
  | 2, ht => cases ht; exact (show Tryz.prog.wantsStandIn 4 = false by kernel_rfl)
  | _ + 3, ht => simp at ht

/-- The statement's card. -/
theorem parseNames_card : Rows.ParseNamesCardSaid :=
  Claim7.holds_tied_plain_at .later [] _ _ _ _ parseNames_said (fun _ h => by cases h) (by kernel_rfl) (fun _ h => by cases h) parseNames_row_tie rfl ⟨rfl, rfl⟩ (by kernel_rfl) rfl parseNames_plain parseNames_goes

end Go.Proofs.YtapmcocefoccdaaGreatDoor
