/-
  The evaluator's last part: from what is reckoned to a contract.
-/
import Derived.Test.YtamkkkkonigglaaGreatDoorPeO
namespace Go.Pe
open Go Go.RowKit

/-- A choice between two propositions. -/
def bsel (b : Bool) (t f : Prop) : Prop := match b with | true => t | false => f

theorem bsel_of {b : Bool} {t f : Prop} (ht : b = true → t) (hf : b = false → f) : bsel b t f := by
  cases b
  · exact hf rfl
  · exact ht rfl

section
variable {E : Env} {base : World}

/-- The evaluator's word as a contract: what a call returns, and that nothing old is touched. -/
theorem calls_of_funcK (hE : EnvOk E base) (hL : LoopsOk E base) {d : Nat} {f : FuncId} {fn : Func} (hf : E.P.funcs[f]? = some fn) (hb : fn.body.isSome = true) {args : List Value} {h : Heap} {n : Nat} {v : Value}
    (hk : funcK E d f args h n (fun u _ _ mw => u = v ∧ n ≤ mw)) (hrel : Rel E.P base id (fun _ => 0) h base) (hh : HWF (· < n) h) (ha : ∀ x ∈ args, pureV 6 x = true) (hv : pureV 6 v = true) (hg : E.P.globals.size ≤ n) :
    Calls E.P f args.toArray base (fun e w' => e = .returned v ∧ Below base.heap.size base w') := by
  obtain ⟨u, h', n', mw, ⟨rfl, hmw⟩, hs⟩ := funcK_sound hE hL d f args h n _ hk
  have hout := hs.2 id (fun _ => 0) base hrel hh (fun x hx => WF.pure (ha x hx)) hg
  have hargs : args.map (renV id fun _ => 0) = args := by
    have : args.map (renV id fun _ => 0) = args.map id := List.map_congr_left fun x hx => ren_pure _ _ 6 x (ha x hx)
    simpa using this
  rw [hargs, hE.enter f fn hf hb] at hout
  refine hout.2.mono fun e w' ⟨x, he, μ', κ', hst, hx, hr⟩ => ?_
  subst he
  rw [hx, ren_pure _ _ 6 u hv]
  exact ⟨rfl, hr.below⟩

/-- One heap has another one's blocks. -/
def Sub (h0 h : Heap) : Prop := ∀ k b, getBlk h0 k = some b → getBlk h k = some b

theorem Sub.nil (h : Heap) : Sub [] h := fun k b hb => by simp [getBlk] at hb
theorem Sub.refl (h : Heap) : Sub h h := fun _ _ hb => hb

/-- A function of plain values that may read some blocks, told for every heap that has them, under any names. -/
theorem FuncSem.anywhere {f : FuncId} {args : List Value} {n0 n' mw : Nat} {v : Value} {h0 h' : Heap} (hs : FuncSem E base f args h0 n0 v h' n' mw) (hm : n0 ≤ mw) (hv : pureV 6 v = true) (ha : ∀ x ∈ args, pureV 6 x = true) (hh0 : HWF (· < n0) h0)
    (hg0 : E.P.globals.size ≤ n0) {h : Heap} (hsub : Sub h0 h) (n : Nat) : FuncSem E base f args h n v h n big := by
  obtain ⟨_, s2⟩ := hs
  refine ⟨⟨Nat.le_refl _, fun D hD hG hx hh => ⟨WF.pure hv, hh.mono Dp_mono⟩⟩, fun μ κ w hr hh hx hg => ?_⟩
  have hout := s2 μ κ w (hr.fewer hsub) hh0 (fun x hx => WF.pure (ha x hx)) hg0
  have key : ∀ u w', Out E base h' v mw n0 n' μ κ w u w' → Out E base h v big n n μ κ w u w' := fun u w' ⟨μ', κ', st, hu, hrel⟩ => by
    refine ⟨μ, κ, ⟨Nat.le_refl _, fun _ _ => ⟨rfl, rfl⟩, st.sz, fun b hb _ => st.fr b hb fun k k1 k2 => by omega, fun _ h1 h2 => by omega⟩, by rw [hu, ren_pure _ _ 6 v hv, ren_pure _ _ 6 v hv], ?_⟩
    refine ⟨hrel.below, fun k b hb => (hr.blk k b hb).same rfl rfl (fun _ _ => rfl) (st.fr _ (hr.blk k b hb).lt fun j j1 j2 => by omega), hr.inj, hr.glob, hr.gsz⟩
  generalize (callFunc f (args.map (renV μ κ)).toArray).run E.P w = r at *
  cases r with
  | halt x w' => exact hout.elim
  | ok nx w' =>
    cases nx with
    | value u => exact key _ _ hout
    | skip => exact key _ _ hout
    | enter g as =>
      obtain ⟨rfl, hc⟩ := hout
      exact ⟨rfl, hc.mono fun e w'' ⟨u, he, hu⟩ => ⟨u, he, key _ _ hu⟩⟩
    | _ => exact hout.elim

/-- From what is reckoned at one place to what is told everywhere. -/
theorem sem_of_funcK (hE : EnvOk E base) (hL : LoopsOk E base) {d : Nat} {f : FuncId} {args : List Value} {h0 : Heap} {n0 : Nat} {v : Value} (hk : funcK E d f args h0 n0 (fun u _ _ mw => u = v ∧ n0 ≤ mw)) (hv : pureV 6 v = true)
    (ha : ∀ x ∈ args, pureV 6 x = true) (hh0 : HWF (· < n0) h0) (hg0 : E.P.globals.size ≤ n0) {h : Heap} (hsub : Sub h0 h) (n : Nat) : FuncSem E base f args h n v h n big := by
  obtain ⟨u, h', n', mw, ⟨rfl, hmw⟩, hs⟩ := funcK_sound hE hL d f args h0 n0 _ hk
  exact hs.anywhere hmw hv ha hh0 hg0 hsub n

/-- It hangs on the program alone. -/
theorem FuncSem.env {E' : Env} (hP : E'.P = E.P) {f : FuncId} {args : List Value} {n n' mw : Nat} {v : Value} {h h' : Heap} (hs : FuncSem E base f args h n v h' n' mw) : FuncSem E' base f args h n v h' n' mw := by
  unfold FuncSem OpWf at hs ⊢
  rw [hP]
  refine ⟨hs.1, fun μ κ w hr hh hx hg => ?_⟩
  have hout := hs.2 μ κ w hr hh hx hg
  generalize (callFunc f (args.map (renV μ κ)).toArray).run E.P w = r at *
  have key : ∀ u w', Out E base h' v mw n n' μ κ w u w' → Out E' base h' v mw n n' μ κ w u w' := fun u w' ⟨μ', κ', st, hu, hrel⟩ => ⟨μ', κ', st, hu, by rw [hP]; exact hrel⟩
  cases r with
  | halt x w' => exact hout.elim
  | ok nx w' =>
    cases nx with
    | value u => exact key _ _ hout
    | skip =>
      obtain ⟨μ', κ', st, hu, hrel⟩ := hout
      exact ⟨μ', κ', st, hu, by rw [hP]; exact hrel⟩
    | enter g as =>
      obtain ⟨rfl, hc⟩ := hout
      refine ⟨rfl, ?_⟩
      rw [hP]
      exact hc.mono fun e w'' ⟨u, he, hu⟩ => ⟨u, he, key _ _ hu⟩
    | _ => exact hout.elim

end
end Go.Pe
