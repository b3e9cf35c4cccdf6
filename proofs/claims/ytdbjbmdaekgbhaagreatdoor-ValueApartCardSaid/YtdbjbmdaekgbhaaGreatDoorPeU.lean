/-
  Loops: a rule by an invariant and a number that falls.
-/
import Derived.Test.YtdbjbmdaekgbhaaGreatDoorPeS
namespace Go.Pe
open Go Go.RowKit

/-- Two states that code does not tell apart; the second one may have written more. -/
structure StEq (s t : St) : Prop where
  tmp : ∀ k, getTmp t.tmps k = getTmp s.tmps k
  heap : t.heap = s.heap
  next : t.next = s.next
  size : t.size = s.size
  df : t.df = s.df
  mw : t.mw ≤ s.mw

section
variable {E : Env} {base : World}

theorem StEq.twf {s t : St} (h : StEq s t) {D : Nat → Prop} : TWF D s ↔ TWF D t := by
  unfold TWF
  rw [h.heap]
  exact and_congr_right fun _ => ⟨fun x k => by rw [h.tmp]; exact x k, fun x k => by rw [← h.tmp]; exact x k⟩

theorem StEq.rel {s t : St} (h : StEq s t) {μ κ : Nat → Nat} {a : Act} {w : World} : StRel E base μ κ s a w ↔ StRel E base μ κ t a w := by
  constructor
  · intro r
    exact ⟨by rw [h.heap]; exact r.rel, by rw [h.size]; exact r.sz, fun k => by rw [h.tmp]; exact r.tmp k, by rw [h.df]; exact r.df, by rw [h.df, h.next]; exact r.dw, by rw [h.next]; exact h.twf.1 r.wf, by rw [h.next]; exact r.gl⟩
  · intro r
    exact ⟨by rw [← h.heap]; exact r.rel, by rw [← h.size]; exact r.sz, fun k => by rw [← h.tmp]; exact r.tmp k, by rw [← h.df]; exact r.df, by rw [← h.df, ← h.next]; exact r.dw, by rw [← h.next]; exact h.twf.2 r.wf, by rw [← h.next]; exact r.gl⟩

/-- What is told of the end may be told otherwise. -/
theorem CodeSem.right {c : Code} {s s1 s2 : St} {e : Exit} (h : CodeSem E base c s e s1) (q : StEq s1 s2) : CodeSem E base c s e s2 := by
  obtain ⟨h1, h2⟩ := h
  refine ⟨⟨⟨by rw [q.next]; exact h1.wf.1, fun D hD hG hT => by rw [q.next]; exact q.twf.1 (h1.wf.2 D hD hG hT)⟩, Nat.le_trans q.mw h1.mw, q.size.trans h1.size, fun D hD hG hT hd => by rw [q.next, q.df]; exact h1.dwf D hD hG hT hd⟩, fun μ κ a w hr => ?_⟩
  exact wp_mono (h2 μ κ a w hr) fun e' a' w' ⟨he, μ', κ', st, r⟩ => ⟨he, μ', κ', by rw [q.next]; exact st.mono q.mw, q.rel.1 r⟩

/-- So of the beginning. -/
theorem CodeSem.left {c : Code} {s t s1 : St} {e : Exit} (h : CodeSem E base c t e s1) (q : StEq s t) : CodeSem E base c s e s1 := by
  obtain ⟨h1, h2⟩ := h
  refine ⟨⟨⟨by rw [← q.next]; exact h1.wf.1, fun D hD hG hT => by rw [← q.next]; exact h1.wf.2 D (by rw [q.next]; exact hD) hG (q.twf.1 hT)⟩, Nat.le_trans h1.mw q.mw, h1.size.trans q.size, fun D hD hG hT hd => by rw [← q.next]; exact h1.dwf D (by rw [q.next]; exact hD) hG (q.twf.1 hT) (by rw [q.df]; exact hd)⟩, fun μ κ a w hr => ?_⟩
  exact wp_mono (h2 μ κ a w (q.rel.1 hr)) fun e' a' w' ⟨he, μ', κ', st, r⟩ => ⟨he, μ', κ', by rw [← q.next]; exact st, r⟩

theorem CodeSem.env {E' : Env} (hP : E'.P = E.P) {c : Code} {s s' : St} {e : Exit} (h : CodeSem E base c s e s') : CodeSem E' base c s e s' := by
  obtain ⟨h1, h2⟩ := h
  have hs : ∀ s, ∀ μ κ a w, StRel E' base μ κ s a w → StRel E base μ κ s a w := fun s μ κ a w r => ⟨by rw [← hP]; exact r.rel, r.sz, r.tmp, r.df, r.dw, r.wf, by rw [← hP]; exact r.gl⟩
  have hs' : ∀ s, ∀ μ κ a w, StRel E base μ κ s a w → StRel E' base μ κ s a w := fun s μ κ a w r => ⟨by rw [hP]; exact r.rel, r.sz, r.tmp, r.df, r.dw, r.wf, by rw [hP]; exact r.gl⟩
  refine ⟨⟨⟨h1.wf.1, fun D hD hG hT => h1.wf.2 D hD (by rw [← hP]; exact hG) hT⟩, h1.mw, h1.size, fun D hD hG hT hd => h1.dwf D hD (by rw [← hP]; exact hG) hT hd⟩, fun μ κ a w hr => ?_⟩
  rw [hP]
  exact wp_mono (h2 μ κ a w (hs s μ κ a w hr)) fun e' a' w' ⟨he, μ', κ', st, r⟩ => ⟨he, μ', κ', st, hs' s' μ' κ' a' w' r⟩

theorem rounds_mono {P : Program} {c : Code} : ∀ (n : Nat) (a : Act) (w : World) (Q Q' : Exit → Act → World → Prop), (∀ e a w, Q e a w → Q' e a w) → Code.rounds P c Q n a w → Code.rounds P c Q' n a w := by
  intro n
  induction n with
  | zero => intro a w Q Q' _ h; exact h
  | succ n ih =>
    intro a w Q Q' hq h
    rw [rounds_succ] at h ⊢
    refine wp_mono h fun e a w he => ?_
    cases e with
    | normal => exact ih _ _ _ _ hq he
    | _ => exact hq _ _ _ he

/-- What a loop's body is asked: from what holds ahead of a round it comes to what holds ahead of the next one, the number fallen, or out. -/
def RoundOk (E : Env) (call : CallFn) (c : Code) (Inv : Nat → St → Prop) (Q : Exit → St → Prop) : Prop :=
  ∀ n s, Inv n s → ∃ t, StEq s t ∧ codeK E call c t fun e s' => (e = .normal ∧ ∃ m, m < n ∧ Inv m s') ∨ (e ≠ .normal ∧ Q e s')

theorem loop_rule (hE : EnvOk E base) (hL : LoopsOk E base) {call : CallFn} (hcall : CallOk E base call) {c : Code} (hok : codeOk E.P.globals.size c = true) {Inv : Nat → St → Prop} {Q : Exit → St → Prop} (hb : RoundOk E call c Inv Q) :
    ∀ n s, Inv n s → ∃ e s', Q e s' ∧ CodeSem E base (.loop c) s e s' := by
  have key : ∀ n s, Inv n s → ∃ e s', Q e s' ∧ Sem1 E s s' ∧ ∃ k, ∀ μ κ a w, StRel E base μ κ s a w → Code.rounds E.P c (fun e' a' w' => e' = e ∧ StOut E base s s' μ κ w a' w') k a w := by
    intro n
    induction n using Nat.strongRecOn with
    | _ n ih =>
      intro s hs
      obtain ⟨t, hq, hk⟩ := hb n s hs
      obtain ⟨e1, s1, h1, hc⟩ := codeK_sound hE hL hcall c t _ hok hk
      obtain ⟨h2, h3⟩ := hc.left hq
      rcases h1 with ⟨rfl, m, hm, hi⟩ | ⟨hne, hQ⟩
      · obtain ⟨e, s', k1, k2, k, k3⟩ := ih m hm s1 hi
        refine ⟨e, s', k1, h2.trans k2, k + 1, fun μ κ a w hr => ?_⟩
        rw [rounds_succ]
        refine wp_mono (h3 μ κ a w hr) fun e' a' w' ⟨he, μ1, κ1, q1, q2⟩ => ?_
        subst he
        exact rounds_mono _ _ _ _ _ (fun e' a'' w'' ⟨he, ho⟩ => ⟨he, StOut.trans q1 k2.mw ho⟩) (k3 μ1 κ1 a' w' q2)
      · refine ⟨e1, s1, hQ, h2, 1, fun μ κ a w hr => ?_⟩
        rw [rounds_succ]
        refine wp_mono (h3 μ κ a w hr) fun e' a' w' ⟨he, ho⟩ => ?_
        subst he
        cases e' with
        | normal => exact absurd rfl hne
        | _ => exact ⟨rfl, ho⟩
  intro n s hs
  obtain ⟨e, s', k1, k2, k, k3⟩ := key n s hs
  exact ⟨e, s', k1, k2, fun μ κ a w hr => wp_loop_rounds _ (k3 μ κ a w hr)⟩

end

/-- The code of a loop, by the number of its first region. -/
def loopIn : Code → Nat → Option Code
  | .seq a b, id => match loopIn a id with | some c => some c | none => loopIn b id
  | .cond _ a b, id => match loopIn a id with | some c => some c | none => loopIn b id
  | .block _ c, id => loopIn c id
  | .loop c, id => match Nat.beq (firstId c) id with | true => some c | false => loopIn c id
  | _, _ => none

def loopOf (P : Program) (f id : Nat) : Code :=
  match P.funcs[f]? with
  | some fn => (match fn.body with
    | some c => (match loopIn c id with | some c => c | none => .skip)
    | none => .skip)
  | none => .skip

/-- A code is this one. -/
structure Is (d c : Code) : Prop where
  eq : c = d

end Go.Pe
