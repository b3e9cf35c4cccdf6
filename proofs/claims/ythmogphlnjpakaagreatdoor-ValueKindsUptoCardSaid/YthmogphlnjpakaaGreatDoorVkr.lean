/-
  ValueKinds: the statement's card.
-/
import Derived.Test.YthmogphlnjpakaaGreatDoorVkq
namespace Go.Proofs.YthmogphlnjpakaaGreatDoor
open Go Go.Pe Go.RowKit Go.ChangeShapes Go.WideShapes Go.ChangeAt
theorem valueKinds_goes : false = Rows.valueKindsUptoRow.goesBy Tryz.prog := by kernel_rfl
theorem valueKinds_plain (f : FuncId) (fn : Func) (hf : Tryz.pinned.checked.prog.funcNamed "casuist/casuistlaw11.ValueKinds" = some f) (hfn : Tryz.pinned.checked.prog.funcs[f]? = some fn) :
    true = Tryz.pinned.checked.prog.looks [] ∧ ∀ (j : Nat) t, fn.params[j]? = some t → Tryz.pinned.checked.prog.wantsStandIn t = false := by
  obtain rfl : f = 5 := Option.some.inj ((show Tryz.prog.funcNamed "casuist/casuistlaw11.ValueKinds" = some 5 by kernel_rfl).symm.trans hf) |>.symm
  obtain rfl : fn = Tryz.f5 := (Option.some.inj (Tryz.func5.symm.trans hfn)).symm
  refine ⟨by kernel_rfl, fun j t ht => ?_⟩
  rw [Tryz.params5] at ht
  match j, ht with
  | 0, ht => cases ht; exact (show Tryz.prog.wantsStandIn 35 = false by kernel_rfl)
  | 1, ht => cases ht; exact (show Tryz.prog.wantsStandIn 3 = false by kernel_rfl)
  | _ + 2, ht => simp at ht
theorem valueKinds_card : Rows.ValueKindsUptoCardSaid :=
  Claim7.holds_tied_plain_at .later [] _ _ _ _ valueKinds_said (fun _ h => by cases h) (by kernel_rfl) (fun _ h => by cases h) valueKindsUpto_row_tie rfl ⟨rfl, rfl⟩ (by kernel_rfl) rfl valueKinds_plain valueKinds_goes
end Go.Proofs.YthmogphlnjpakaaGreatDoor
