/-
  Loops: what a loop's states look like: some slots, the heap; the rest of the slots is not told.
-/
import Derived.Test.YtdbjbmdaekgbhaaGreatDoorPeU
namespace Go.Pe
open Go Go.RowKit

/-- Slots ahead of others. -/
def zipT : List Nat → List Value → List (Nat × Value) → List (Nat × Value)
  | k :: ks, v :: vs, u => (k, v) :: zipT ks vs u
  | _, _, u => u

noncomputable def getAll (tm : List (Nat × Value)) : List Nat → List Value
  | [] => []
  | k :: ks => getTmp tm k :: getAll tm ks

theorem getTmp_at (k : Nat) (v : Value) (tm : List (Nat × Value)) (j : Nat) : getTmp ((k, v) :: tm) j = if k = j then v else getTmp tm j := by
  rw [getTmp_cons]
  split
  · rename_i hb; rw [if_pos (beq_true hb)]
  · rename_i hb; rw [if_neg (beq_false hb)]

theorem zipT_same (tm : List (Nat × Value)) : ∀ (ks : List Nat) (vs : List Value), getAll tm ks = vs → ∀ k, getTmp (zipT ks vs tm) k = getTmp tm k := by
  intro ks
  induction ks with
  | nil => intro vs _ k; simp [zipT]
  | cons j ks ih =>
    intro vs h k
    subst h
    simp only [getAll, zipT]
    rw [getTmp_at]
    split
    · rename_i e; rw [e]
    · exact ih _ rfl k

/-- The look of a loop's states. -/
structure LoopS (α : Type) where
  fn : FuncId
  keys : List Nat
  kv : α → List Value
  hp : α → Heap
  nx : Nat
  mw : Nat
  size : Nat

def LoopS.st {α : Type} (L : LoopS α) (a : α) (u : List (Nat × Value)) : St := { tmps := zipT L.keys (L.kv a) u, heap := L.hp a, next := L.nx, mw := L.mw, size := L.size, fn := L.fn, df := [] }

/-- A state has that look. -/
def LoopS.At {α : Type} (L : LoopS α) (a : α) (l : List Value) (h : Heap) (nx mw size : Nat) (fn : FuncId) (df : List (FuncId × List Value)) : Prop :=
  l = L.kv a ∧ h = L.hp a ∧ nx = L.nx ∧ L.mw ≤ mw ∧ size = L.size ∧ fn = L.fn ∧ df = []

theorem LoopS.At.eq {α : Type} {L : LoopS α} {a : α} {s : St} (h : L.At a (getAll s.tmps L.keys) s.heap s.next s.mw s.size s.fn s.df) : StEq s (L.st a s.tmps) := by
  obtain ⟨h1, h2, h3, h4, h5, h6, h7⟩ := h
  refine ⟨fun k => ?_, h2.symm, h3.symm, h5.symm, h7.symm, h4⟩
  exact zipT_same s.tmps L.keys (L.kv a) h1 k

/-- What a loop's state is looked at for. -/
def LoopS.look {α : Type} (L : LoopS α) (P : Exit → List Value → Heap → Nat → Nat → Nat → FuncId → List (FuncId × List Value) → Prop) : Exit → St → Prop :=
  fun e s => P e (getAll s.tmps L.keys) s.heap s.next s.mw s.size s.fn s.df

/-- What a round is to come to: the next one's beginning, the number fallen; the way out; a return. -/
def LoopS.To {α : Type} (L : LoopS α) (I : Nat → α → Prop) (O R : α → Prop) (i : Nat) (n : Nat) (e : Exit) (l : List Value) (h : Heap) (nx mw size : Nat) (fn : FuncId) (df : List (FuncId × List Value)) : Prop :=
  match e with
  | .normal => ∃ m a, m < n ∧ I m a ∧ L.At a l h nx mw size fn df
  | .exit j => j = i ∧ ∃ a, O a ∧ L.At a l h nx mw size fn df
  | .ret => ∃ a, R a ∧ L.At a l h nx mw size fn df
  | _ => False

/-- A proposition hidden in a structure, so that no elaborator looks into it. -/
structure Hush (p : Prop) : Prop where
  out : p

/-- The rounds of a loop. -/
structure Rounds {α : Type} (E : Env) (d : Nat) (c : Code) (L : LoopS α) (I : Nat → α → Prop) (O R : α → Prop) (i : Nat) : Prop where
  go : ∀ n a u, I n a → Hush (codeK E (funcK E d) c (L.st a u) (L.look (L.To I O R i n)))

/-- A loop's word: its beginning; what is behind it. -/
def loopT {α : Type} (c0 : Code) (L : LoopS α) (I : Nat → α → Prop) (O : α → Prop) (i : Nat) : Code → St → (Exit → St → Prop) → Prop := fun c s K =>
  Is c0 c ∧ ∃ n a, (I n a ∧ L.At a (getAll s.tmps L.keys) s.heap s.next s.mw s.size s.fn s.df) ∧ ∀ a' u, O a' → K (.exit i) (L.st a' u)

def loopR {α : Type} (c0 : Code) (L : LoopS α) (I : Nat → α → Prop) (O R : α → Prop) (i : Nat) : Code → St → (Exit → St → Prop) → Prop := fun c s K =>
  Is c0 c ∧ ∃ n a, (I n a ∧ L.At a (getAll s.tmps L.keys) s.heap s.next s.mw s.size s.fn s.df) ∧ (∀ a' u, O a' → K (.exit i) (L.st a' u)) ∧ ∀ a' u, R a' → K .ret (L.st a' u)

section
variable {E : Env} {base : World} {α : Type}

theorem Rounds.sound (hE : EnvOk E base) (hL : LoopsOk E base) {d : Nat} {c : Code} (hok : codeOk E.P.globals.size c = true) {L : LoopS α} {I : Nat → α → Prop} {O R : α → Prop} {i : Nat} (H : Rounds E d c L I O R i)
    {n : Nat} {a : α} {s : St} (hI : I n a) (hA : L.At a (getAll s.tmps L.keys) s.heap s.next s.mw s.size s.fn s.df) :
    ∃ e s', (∃ a' u, (e = .exit i ∧ O a' ∨ e = .ret ∧ R a') ∧ s' = L.st a' u) ∧ CodeSem E base (.loop c) s e s' := by
  have hb : RoundOk E (funcK E d) c (fun n s => ∃ a, I n a ∧ L.At a (getAll s.tmps L.keys) s.heap s.next s.mw s.size s.fn s.df)
      (fun e s' => ∃ a', (e = .exit i ∧ O a' ∨ e = .ret ∧ R a') ∧ L.At a' (getAll s'.tmps L.keys) s'.heap s'.next s'.mw s'.size s'.fn s'.df) := by
    rintro n s ⟨a, hI, hA⟩
    refine ⟨_, hA.eq, ?_⟩
    have hk := (H.go n a s.tmps hI).out
    have : L.look (L.To I O R i n) = fun e s' => (e = .normal ∧ ∃ m, m < n ∧ ∃ a, I m a ∧ L.At a (getAll s'.tmps L.keys) s'.heap s'.next s'.mw s'.size s'.fn s'.df) ∨
        (e ≠ .normal ∧ ∃ a', (e = .exit i ∧ O a' ∨ e = .ret ∧ R a') ∧ L.At a' (getAll s'.tmps L.keys) s'.heap s'.next s'.mw s'.size s'.fn s'.df) := by
      funext e s'
      unfold LoopS.look LoopS.To
      cases e with
      | normal =>
        apply propext
        constructor
        · rintro ⟨m, a, h1, h2, h3⟩; exact .inl ⟨rfl, m, h1, a, h2, h3⟩
        · rintro (⟨_, m, h1, a, h2, h3⟩ | ⟨h, _⟩)
          · exact ⟨m, a, h1, h2, h3⟩
          · exact absurd rfl h
      | exit j =>
        apply propext
        constructor
        · rintro ⟨rfl, a, h1, h2⟩; exact .inr ⟨by simp, a, .inl ⟨rfl, h1⟩, h2⟩
        · rintro (⟨h, _⟩ | ⟨_, a, h | ⟨h, _⟩, h2⟩)
          · cases h
          · obtain ⟨h, h1⟩ := h; cases h; exact ⟨rfl, a, h1, h2⟩
          · cases h
      | ret =>
        apply propext
        constructor
        · rintro ⟨a, h1, h2⟩; exact .inr ⟨by simp, a, .inr ⟨rfl, h1⟩, h2⟩
        · rintro (⟨h, _⟩ | ⟨_, a, ⟨h, _⟩ | h, h2⟩)
          · cases h
          · cases h
          · exact ⟨a, h.2, h2⟩
      | _ =>
        apply propext
        constructor
        · intro h; exact h.elim
        · rintro (⟨h, _⟩ | ⟨_, a, ⟨h, _⟩ | ⟨h, _⟩, h2⟩) <;> cases h
    rw [this] at hk
    exact hk
  obtain ⟨e, s', ⟨a', h1, h2⟩, h3⟩ := loop_rule hE hL (funcK_sound hE hL d) hok hb n s ⟨a, hI, hA⟩
  exact ⟨e, _, ⟨a', s'.tmps, h1, rfl⟩, h3.right h2.eq⟩

theorem loopT_ok {E' : Env} (hP : E'.P = E.P) (hE : EnvOk E base) (hL : LoopsOk E base) {d : Nat} {c0 : Code} (hok : codeOk E.P.globals.size c0 = true) {L : LoopS α} {I : Nat → α → Prop} {O : α → Prop} {i : Nat} (H : Rounds E d c0 L I O (fun _ => False) i)
    {c : Code} {s : St} {K : Exit → St → Prop} (h : loopT c0 L I O i c s K) : ∃ e s', K e s' ∧ CodeSem E' base (.loop c) s e s' := by
  obtain ⟨⟨rfl⟩, n, a, ⟨h1, h2⟩, h3⟩ := h
  obtain ⟨e, s', ⟨a', u, h4, rfl⟩, h5⟩ := H.sound hE hL hok h1 h2
  rcases h4 with ⟨rfl, h4⟩ | ⟨_, h4⟩
  · exact ⟨_, _, h3 a' u h4, h5.env hP⟩
  · exact h4.elim

theorem loopR_ok {E' : Env} (hP : E'.P = E.P) (hE : EnvOk E base) (hL : LoopsOk E base) {d : Nat} {c0 : Code} (hok : codeOk E.P.globals.size c0 = true) {L : LoopS α} {I : Nat → α → Prop} {O R : α → Prop} {i : Nat} (H : Rounds E d c0 L I O R i)
    {c : Code} {s : St} {K : Exit → St → Prop} (h : loopR c0 L I O R i c s K) : ∃ e s', K e s' ∧ CodeSem E' base (.loop c) s e s' := by
  obtain ⟨⟨rfl⟩, n, a, ⟨h1, h2⟩, h3, h6⟩ := h
  obtain ⟨e, s', ⟨a', u, h4, rfl⟩, h5⟩ := H.sound hE hL hok h1 h2
  rcases h4 with ⟨rfl, h4⟩ | ⟨rfl, h4⟩
  · exact ⟨_, _, h3 a' u h4, h5.env hP⟩
  · exact ⟨_, _, h6 a' u h4, h5.env hP⟩

end

/-- The words of loops, by function and region. -/
abbrev LoopW := Code → St → (Exit → St → Prop) → Prop
def findL : List ((Nat × Nat) × LoopW) → FuncId → Nat → Option LoopW
  | [], _, _ => none
  | x :: l, f, i => match Nat.beq x.1.1 f && Nat.beq x.1.2 i with | true => some x.2 | false => findL l f i

def LoopOk (E : Env) (base : World) (T : LoopW) : Prop := ∀ c s K, T c s K → ∃ e s', K e s' ∧ CodeSem E base (.loop c) s e s'

theorem findL_ok {E : Env} {base : World} {l : List ((Nat × Nat) × LoopW)} (hl : E.loopP = findL l) (h : ∀ x ∈ l, LoopOk E base x.2) : LoopsOk E base := by
  intro f id T c s K hT hk
  rw [hl] at hT
  clear hl
  induction l with
  | nil => cases hT
  | cons x l ih =>
    unfold findL at hT
    split at hT
    · cases hT; exact h x (List.mem_cons_self ..) c s K hk
    · exact ih (fun y hy => h y (List.mem_cons_of_mem _ hy)) hT

end Go.Pe
