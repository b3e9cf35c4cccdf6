/-
  Days of the week, days of the year, weeks: whatever they are, they are numbers.
  A length of time as a text, of less than a day; texts that are values.
-/
import Derived.Test.YtdbjbmdaekgbhaaGreatDoorEh

namespace Go.Proofs.YtdbjbmdaekgbhaaGreatDoor
open Go Go.Pe Go.RowKit

/-- An environment whose loops end after so many rounds. -/
noncomputable def envN (k : Nat) (rules : List (Nat × Rule)) : Env :=
  { P := Tryz.prog, isBool := bools, oracle := findR rules, eqAgg := fun _ _ _ => none, loops := k, loopP := fun _ _ => none, guess := fun _ _ => none, strF := strAt }

theorem envN_ok {k : Nat} {rules : List (Nat × Rule)} {base : World} (hr : ∀ x ∈ rules, RuleOk Tryz.prog base x.1 x.2) : EnvOk (envN k rules) base :=
  envOk_of (E := envN k rules) rfl rfl mixed_ok plain_ok hr fun _ _ _ _ h => by cases h

theorem envN_loops {k : Nat} {rules : List (Nat × Rule)} {base : World} : LoopsOk (envN k rules) base := fun _ _ _ _ _ _ h => by cases h

/-- The evaluator comes to a value of a kind, in an environment. -/
structure ReckE (E : Env) (d : Nat) (f : FuncId) (args : List Value) (S : Value → Prop) : Prop where
  out : funcK E d f args tabs Tryz.prog.globals.size (fun u _ _ mw => S u ∧ Tryz.prog.globals.size ≤ mw)

theorem tot_ofE {E : Env} {base : World} (hE : EnvOk E base) (hL : LoopsOk E base) (hP : E.P = Tryz.prog) {d : Nat} {f : FuncId} {args : List Value} {S : Value → Prop} (hk : ReckE E d f args S)
    (hp : ∀ v, S v → pureV 6 v = true) (ha : ∀ x ∈ args, pureV 6 x = true) : ∃ v, S v ∧ Tot base f args v := by
  obtain ⟨u, h', n', mw, ⟨hS, hmw⟩, hs⟩ := funcK_sound hE hL d f args tabs Tryz.prog.globals.size _ hk.out
  exact ⟨u, hS, fun E' hE' h ht n => (hs.anywhere hmw (hp u hS) ha tabs_ok (by rw [hP]; exact Nat.le_refl _) (hasTab_sub ht) n).env (hE'.trans hP.symm)⟩

theorem lenF_le (y m : Int) : lenF y m ≤ 31 := by
  unfold lenF
  split
  · split <;> omega
  · split <;> omega

theorem dateOk_len {y m d : Int} (h : dateOk y m d) : d ≤ 31 := by
  have := lenF_le y m
  have := h.2.2.2.2.2
  omega

end Go.Proofs.YtdbjbmdaekgbhaaGreatDoor

namespace Go.Proofs.YtdbjbmdaekgbhaaGreatDoor
open Go Go.Pe Go.RowKit

/-- A short text. -/
def isShort (k : Nat) (u : Value) : Prop := ∃ s, u = .string s ∧ strLen s ≤ k
theorem isShort_pure {k : Nat} : ∀ v, isShort k v → pureV 6 v = true := by
  rintro v ⟨_, rfl, _⟩
  kernel_rfl

theorem strLen_cut (a : ByteArray) (l h : Nat) : strLen (strCut a l h) ≤ h - l := by
  simp only [strLen, strCut, List.length_take]
  omega

theorem strLen_cat (a b : ByteArray) : strLen (strCat a b) = strLen a + strLen b := by simp [strLen, strCat]

end Go.Proofs.YtdbjbmdaekgbhaaGreatDoor
