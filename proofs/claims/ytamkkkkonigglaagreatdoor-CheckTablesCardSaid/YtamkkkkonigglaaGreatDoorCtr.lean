/-
  CheckTables: the statement's card.
-/
import Derived.Test.YtamkkkkonigglaaGreatDoorCtq
namespace Go.Proofs.YtamkkkkonigglaaGreatDoor
open Go Go.Pe Go.RowKit Go.ChangeShapes Go.WideShapes Go.ChangeAt

theorem checkTables_goes : false = Rows.checkTablesRow.goesBy Tryz.prog := by kernel_rfl

theorem checkTables_plain (f : FuncId) (fn : Func) (hf : Tryz.pinned.checked.prog.funcNamed "casuist/casuistlaw26.CheckTables" = some f) (hfn : Tryz.pinned.checked.prog.funcs[f]? = some fn) :
    true = Tryz.pinned.checked.prog.looks [] ∧ ∀ (j : Nat) t, fn.params[j]? = some t → Tryz.pinned.checked.prog.wantsStandIn t = false := by
  obtain rfl : f = 3 := Option.some.inj ((show Tryz.prog.funcNamed "casuist/casuistlaw26.CheckTables" = some 3 by kernel_rfl).symm.trans hf) |>.symm
  obtain rfl : fn = Tryz.f3 := (Option.some.inj (Tryz.func3.symm.trans hfn)).symm
  refine ⟨by kernel_rfl, fun j t ht => ?_⟩
  rw [Tryz.params3] at ht
  match j, ht with
  | 0, ht => cases ht; exact (show Tryz.prog.wantsStandIn 9 = false by kernel_rfl)
  | 1, ht => cases ht; exact (show Tryz.prog.wantsStandIn 5 = false by kernel_rfl)
  | 2, ht => cases ht; exact (show Tryz.prog.wantsStandIn 5 = false by kernel_rfl)
  | 3, ht => cases ht; exact (show Tryz.prog.wantsStandIn 9 = false by kernel_rfl)
  | _ + 4, ht => simp at ht

/-- The statement's card. -/
theorem checkTables_card : Rows.CheckTablesCardSaid :=
  Claim7.holds_tied_plain_at .later [] _ _ _ _ checkTables_said (fun _ h => by cases h) (by kernel_rfl) (fun _ h => by cases h) checkTables_row_tie rfl ⟨rfl, rfl⟩ (by kernel_rfl) rfl checkTables_plain checkTables_goes

end Go.Proofs.YtamkkkkonigglaaGreatDoor
