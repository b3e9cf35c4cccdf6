/-
  From a contract ('Calls', nothing old touched) to a rule's word.
-/
import Derived.Test.YtamkkkkonigglaaGreatDoorPeR
namespace Go.Pe
open Go Go.RowKit

theorem FuncSem.ofContract {E : Env} {base : World} (hE : EnvOk E base) {f : FuncId} {fn : Func} (hf : E.P.funcs[f]? = some fn) (hb : fn.body.isSome = true) {args : List Value} (ha : ∀ x ∈ args, pureV 6 x = true) {v : Value} (hv : pureV 6 v = true)
    {h : Heap} {n : Nat} (H : ∀ w : World, Below base.heap.size base w → Calls E.P f args.toArray w fun e w' => e = .returned v ∧ Below w.heap.size w w') : FuncSem E base f args h n v h n big := by
  refine ⟨⟨Nat.le_refl _, fun D hD hG hx hh => ⟨WF.pure hv, hh.mono Dp_mono⟩⟩, fun μ κ w hr hh hx hg => ?_⟩
  have hargs : args.map (renV μ κ) = args := by
    have : args.map (renV μ κ) = args.map id := List.map_congr_left fun x hx => ren_pure _ _ 6 x (ha x hx)
    simpa using this
  rw [hargs, hE.enter f fn hf hb]
  refine ⟨rfl, (H w hr.below).mono fun e w' ⟨he, hbl⟩ => ⟨v, he, μ, κ, ⟨Nat.le_refl _, fun _ _ => ⟨rfl, rfl⟩, hbl.size, fun b hb _ => hbl.block b hb, fun _ h1 h2 => by omega⟩, (ren_pure _ _ 6 v hv).symm, hr.grow hbl⟩⟩

end Go.Pe
