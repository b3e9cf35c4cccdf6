/-
  ValueApart: the statement's card.
-/
import Derived.Test.YtdbjbmdaekgbhaaGreatDoorVa1q
namespace Go.Proofs.YtdbjbmdaekgbhaaGreatDoor
open Go Go.Pe Go.RowKit Go.ChangeShapes Go.WideShapes Go.ChangeAt

theorem valueApart_goes : false = Rows.valueApartRow.goesBy Tryz.prog := by kernel_rfl

theorem valueApart_plain (f : FuncId) (fn : Func) (hf : Tryz.pinned.checked.prog.funcNamed "casuist/casuistlaw11.ValueApart" = some f) (hfn : Tryz.pinned.checked.prog.funcs[f]? = some fn) :
    true = Tryz.pinned.checked.prog.looks [] ∧ ∀ (j : Nat) t, fn.params[j]? = some t → Tryz.pinned.checked.prog.wantsStandIn t = false := by
  obtain rfl : f = 7 := Option.some.inj ((show Tryz.prog.funcNamed "casuist/casuistlaw11.ValueApart" = some 7 by kernel_rfl).symm.trans hf) |>.symm
  obtain rfl : fn = Tryz.f7 := (Option.some.inj (Tryz.func7.symm.trans hfn)).symm
  refine ⟨by kernel_rfl, fun j t ht => ?_⟩
  rw [Tryz.params7] at ht
  match j, ht with
  | 0, ht => cases ht; exact (show Tryz.prog.wantsStandIn 92 = false by kernel_rfl)
  | 1, ht => cases ht; exact (show Tryz.prog.wantsStandIn 26 = false by kernel_rfl)
  | 2, ht => cases ht; exact (show Tryz.prog.wantsStandIn 9 = false by kernel_rfl)
  | _ + 3, ht => simp at ht

/-- The statement's card. -/
theorem valueApart_card : Rows.ValueApartCardSaid :=
  Claim7.holds_tied_plain_at .later [] _ _ _ _ valueApart_said (fun _ h => by cases h) (by kernel_rfl) (fun _ h => by cases h) valueApart_row_tie rfl ⟨rfl, rfl⟩ (by kernel_rfl) rfl valueApart_plain valueApart_goes

end Go.Proofs.YtdbjbmdaekgbhaaGreatDoor
