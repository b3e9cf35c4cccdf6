/-
  ValueMakes: the statement's card.
-/
import Derived.Test.YtolniekeocnanaaGreatDoorVg
namespace Go.Proofs.YtolniekeocnanaaGreatDoor
open Go Go.Pe Go.RowKit Go.ChangeShapes Go.WideShapes Go.ChangeAt

theorem vmk_goes : false = Rows.valueMakesRow.goesBy Tryz.prog := by kernel_rfl

theorem valueMakes_plain (f : FuncId) (fn : Func) (hf : Tryz.pinned.checked.prog.funcNamed "casuist/casuistlaw11.ValueMakes" = some f) (hfn : Tryz.pinned.checked.prog.funcs[f]? = some fn) :
    true = Tryz.pinned.checked.prog.looks [] ∧ ∀ (j : Nat) t, fn.params[j]? = some t → Tryz.pinned.checked.prog.wantsStandIn t = false := by
  obtain rfl : f = 4 := Option.some.inj ((show Tryz.prog.funcNamed "casuist/casuistlaw11.ValueMakes" = some 4 by kernel_rfl).symm.trans hf) |>.symm
  obtain rfl : fn = Tryz.f4 := (Option.some.inj (Tryz.func4.symm.trans hfn)).symm
  refine ⟨by kernel_rfl, fun j t ht => ?_⟩
  rw [Tryz.params4] at ht
  match j, ht with
  | 0, ht => cases ht; exact (show Tryz.prog.wantsStandIn 28 = false by kernel_rfl)
  | 1, ht => cases ht; exact (show Tryz.prog.wantsStandIn 50 = false by kernel_rfl)
  | 2, ht => cases ht; exact (show Tryz.prog.wantsStandIn 52 = false by kernel_rfl)
  | 3, ht => cases ht; exact (show Tryz.prog.wantsStandIn 9 = false by kernel_rfl)
  | 4, ht => cases ht; exact (show Tryz.prog.wantsStandIn 3 = false by kernel_rfl)
  | 5, ht => cases ht; exact (show Tryz.prog.wantsStandIn 4 = false by kernel_rfl)
  | _ + 6, ht => simp at ht

/-- The statement's card. -/
theorem valueMakes_card : Rows.ValueMakesCardSaid :=
  Claim7.holds_tied_plain_at .later [] _ _ _ _ valueMakes_said (fun _ h => by cases h) (by kernel_rfl) (fun _ h => by cases h) valueMakes_row_tie rfl ⟨rfl, rfl⟩ (by kernel_rfl) rfl valueMakes_plain vmk_goes

end Go.Proofs.YtolniekeocnanaaGreatDoor
