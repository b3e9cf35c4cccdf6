/-
  The evaluator's last part: from what is reckoned to a contract.
-/
import Derived.Test.YtamkkkkonigglaaGreatDoorPeO
namespace Go.Pe
open Go Go.RowKit

section
variable {E : Env} {base : World}

/-- One heap has another one's blocks. -/
def Sub (h0 h : Heap) : Prop := ∀ k b, getBlk h0 k = some b → getBlk h k = some b

theorem Sub.nil (h : Heap) : Sub [] h := fun k b hb => by simp [getBlk] at hb
theorem Sub.refl (h : Heap) : Sub h h := fun _ _ hb => hb

/-- It hangs on the program alone. -/
theorem FuncSem.env {E' : Env} (hP : E'.P = E.P) {f : FuncId} {args : List Value} {n n' mw : Nat} {v : Value} {h h' : Heap} (hs : FuncSem E base f args h n v h' n' mw) : FuncSem E' base f args h n v h' n' mw := by
  unfold FuncSem OpWf at hs ⊢
  rw [hP]
  refine ⟨hs.1, fun μ κ w hr hh hx hg => ?_⟩
  have hout := hs.2 μ κ w hr hh hx hg
  generalize (callFunc f (args.map (renV μ κ)).toArray).run E.P w = r at *
  have key : ∀ u w', Out E base h' v mw n n' μ κ w u w' → Out E' base h' v mw n n' μ κ w u w' := fun u w' ⟨μ', κ', st, hu, hrel⟩ => ⟨μ', κ', st, hu, by rw [hP]; exact hrel⟩
  cases r with
  | halt x w' => exact hout.elim
  | ok nx w' =>
    cases nx with
    | value u => exact key _ _ hout
    | skip =>
      obtain ⟨μ', κ', st, hu, hrel⟩ := hout
      exact ⟨μ', κ', st, hu, by rw [hP]; exact hrel⟩
    | enter g as =>
      obtain ⟨rfl, hc⟩ := hout
      refine ⟨rfl, ?_⟩
      rw [hP]
      exact hc.mono fun e w'' ⟨u, he, hu⟩ => ⟨u, he, key _ _ hu⟩
    | _ => exact hout.elim

end
end Go.Pe
