/-
  TimefunMakes: the statement and its card.
-/
import Derived.Test.YteaebpmgbpnbeaaGreatDoorHp
namespace Go.Proofs.YteaebpmgbpnbeaaGreatDoor
open Go Go.Pe Go.RowKit Go.ChangeShapes Go.WideShapes Go.ChangeAt

theorem timefunMakes_said : Rows.TimefunMakesSaid :=
  OpenClaim.holds_of_cond 7 Tryz.f7 rfl rfl rfl rfl rfl rfl rfl ⟨rfl, rfl, rfl, rfl, rfl⟩ rfl rfl rfl rfl rfl (by kernel_rfl) Tryz.func7 (by kernel_rfl)
    (of_decide_eq_true (by kernel_rfl)) (by unfold Func.isWrapper; first | (rw [if_pos (by decide +kernel)]; kernel_rfl) | (rw [if_neg (by decide +kernel)]; exact ⟨rfl, rfl⟩))
    (fun os started H enc _ F => by rw [OpenClaim.pre_eq_preRow]; exact timefunMakes_lifted os started H enc F)

theorem timefunMakes_plain (f : FuncId) (fn : Func) (hf : Tryz.pinned.checked.prog.funcNamed "casuist/casuistlaw24.TimefunMakes" = some f) (hfn : Tryz.pinned.checked.prog.funcs[f]? = some fn) :
    true = Tryz.pinned.checked.prog.looks [] ∧ ∀ (j : Nat) t, fn.params[j]? = some t → Tryz.pinned.checked.prog.wantsStandIn t = false := by
  obtain rfl : f = 7 := Option.some.inj ((show Tryz.prog.funcNamed "casuist/casuistlaw24.TimefunMakes" = some 7 by kernel_rfl).symm.trans hf) |>.symm
  obtain rfl : fn = Tryz.f7 := (Option.some.inj (Tryz.func7.symm.trans hfn)).symm
  refine ⟨by kernel_rfl, fun j t ht => ?_⟩
  rw [Tryz.params7] at ht
  match j, ht with
  | 0, ht => cases ht; exact (show Tryz.prog.wantsStandIn 50 = false by kernel_rfl)
  | 1, ht => cases ht; exact (show Tryz.prog.wantsStandIn 3 = false by kernel_rfl)
  | 2, ht => cases ht; exact (show Tryz.prog.wantsStandIn 3 = false by kernel_rfl)
  | 3, ht => cases ht; exact (show Tryz.prog.wantsStandIn 3 = false by kernel_rfl)
  | 4, ht => cases ht; exact (show Tryz.prog.wantsStandIn 3 = false by kernel_rfl)
  | _ + 5, ht => simp at ht

/-- The statement's card. -/
theorem timefunMakes_card : Rows.TimefunMakesCardSaid :=
  Claim7.holds_tied_plain_at .later [] _ _ _ _ timefunMakes_said (fun _ h => by cases h) (by kernel_rfl) (fun _ h => by cases h) timefunMakes_row_tie rfl ⟨rfl, rfl⟩ (by kernel_rfl) rfl timefunMakes_plain (by kernel_rfl)

end Go.Proofs.YteaebpmgbpnbeaaGreatDoor
