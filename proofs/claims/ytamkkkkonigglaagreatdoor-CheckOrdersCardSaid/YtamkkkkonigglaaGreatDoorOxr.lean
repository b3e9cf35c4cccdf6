/-
  CheckOrders: the statement's card.
-/
import Derived.Test.YtamkkkkonigglaaGreatDoorOxq
namespace Go.Proofs.YtamkkkkonigglaaGreatDoor
open Go Go.Pe Go.RowKit Go.ChangeShapes Go.WideShapes Go.ChangeAt

theorem checkOrders_goes : false = Rows.checkOrdersRow.goesBy Tryz.prog := by kernel_rfl

theorem checkOrders_plain (f : FuncId) (fn : Func) (hf : Tryz.pinned.checked.prog.funcNamed "casuist/casuistlaw26.CheckOrders" = some f) (hfn : Tryz.pinned.checked.prog.funcs[f]? = some fn) :
    true = Tryz.pinned.checked.prog.looks [] ∧ ∀ (j : Nat) t, fn.params[j]? = some t → Tryz.pinned.checked.prog.wantsStandIn t = false := by
  obtain rfl : f = 4 := Option.some.inj ((show Tryz.prog.funcNamed "casuist/casuistlaw26.CheckOrders" = some 4 by kernel_rfl).symm.trans hf) |>.symm
  obtain rfl : fn = Tryz.f4 := (Option.some.inj (Tryz.func4.symm.trans hfn)).symm
  refine ⟨by kernel_rfl, fun j t ht => ?_⟩
  rw [Tryz.params4] at ht
  match j, ht with
  | 0, ht => cases ht; exact (show Tryz.prog.wantsStandIn 27 = false by kernel_rfl)
  | 1, ht => cases ht; exact (show Tryz.prog.wantsStandIn 27 = false by kernel_rfl)
  | 2, ht => cases ht; exact (show Tryz.prog.wantsStandIn 5 = false by kernel_rfl)
  | _ + 3, ht => simp at ht

/-- The statement's card. -/
theorem checkOrders_card : Rows.CheckOrdersCardSaid :=
  Claim7.holds_tied_plain_at .later [] _ _ _ _ checkOrders_said (fun _ h => by cases h) (by kernel_rfl) (fun _ h => by cases h) checkOrders_row_tie rfl ⟨rfl, rfl⟩ (by kernel_rfl) rfl checkOrders_plain checkOrders_goes

end Go.Proofs.YtamkkkkonigglaaGreatDoor
