/-
  Words that hand on what was come to; an environment that parts no bools; small things.
-/
import Derived.Test.YtdbjbmdaekgbhaaGreatDoorFa
namespace Go.Proofs.YtdbjbmdaekgbhaaGreatDoor
open Go Go.Pe Go.RowKit

/-- What a law asks of a value that is told: here it is. -/
def ruleEx (base : World) (f : FuncId) : Rule := rule1 fun args => some fun K => ∃ x, Tot base f args (.agg ⟨[x]⟩) ∧ K (.agg ⟨[x]⟩)
theorem ex_ok {base : World} {f : FuncId} : RuleOk Tryz.prog base f (ruleEx base f) := ruleOk_of fun args T K hT hK => by
  cases hT
  obtain ⟨v, ht, hK⟩ := hK
  exact ⟨_, hK, ht⟩

/-- Null. -/
def ruleNull : Rule := rule1 fun args => match args with
  | [v] => some fun K => (v = nullV ∧ K (.bool true)) ∨ ((∃ t y, v = .agg ⟨[.iface t y]⟩ ∧ pureV 6 v = true) ∧ K (.bool false))
  | _ => none

theorem null_tt_tree (K : Value → Nat → Prop) :
    funcK (env (rules4)) 30 42 [nullV] tabs Tryz.prog.globals.size (fun u _ _ mw => K u mw) =
  (K (Value.bool Bool.true) (18446744073709551616 : Nat)) := by kernel_rfl
theorem null_tt_hk   : ReckE (env (rules4)) 30 42 [nullV] ((· = .bool true)) := by
  constructor
  rw [null_tt_tree fun u mw => u = .bool true ∧ Tryz.prog.globals.size ≤ mw]
  exact ⟨rfl, Nat.le_of_ble_eq_true (by kernel_rfl)⟩
theorem null_tt {base : World}   : Tot base 42 [nullV] (.bool true) := tot_lit (rules4_ok base) (null_tt_hk ) (by kernel_rfl) (by repeat' (first | refine List.forall_mem_cons.2 ⟨?_, ?_⟩ | exact (fun _ h => nomatch h) | assumption | kernel_rfl))
theorem null_ff_tree (K : Value → Nat → Prop) (t : TypeId) (y : Value) :
    funcK (env (rules4)) 30 42 [.agg ⟨[.iface t y]⟩] tabs Tryz.prog.globals.size (fun u _ _ mw => K u mw) =
  (K (Value.bool Bool.false) (18446744073709551616 : Nat)) := by kernel_rfl
theorem null_ff_hk (t : TypeId) (y : Value) (hp : pureV 6 (.agg ⟨[.iface t y]⟩) = true) : ReckE (env (rules4)) 30 42 [.agg ⟨[.iface t y]⟩] ((· = .bool false)) := by
  constructor
  rw [null_ff_tree fun u mw => u = .bool false ∧ Tryz.prog.globals.size ≤ mw]
  exact ⟨rfl, Nat.le_of_ble_eq_true (by kernel_rfl)⟩
theorem null_ff {base : World} (t : TypeId) (y : Value) (hp : pureV 6 (.agg ⟨[.iface t y]⟩) = true) : Tot base 42 [.agg ⟨[.iface t y]⟩] (.bool false) := tot_lit (rules4_ok base) (null_ff_hk t y hp) (by kernel_rfl) (by repeat' (first | refine List.forall_mem_cons.2 ⟨?_, ?_⟩ | exact (fun _ h => nomatch h) | assumption | kernel_rfl))

theorem null_ok {base : World} : RuleOk Tryz.prog base 42 ruleNull := ruleOk_of fun args T K hT hK => by
  split at hT
  · cases hT
    rcases hK with ⟨rfl, hK⟩ | ⟨⟨t, y, rfl, hp⟩, hK⟩
    · exact ⟨_, hK, null_tt⟩
    · exact ⟨_, hK, null_ff t y hp⟩
  · cases hT

/-- A call that is true. -/
def ruleTrue (base : World) (f : FuncId) : Rule := rule1 fun args => some fun K => Tot base f args (.bool true) ∧ K (.bool true)
theorem true_ok {base : World} {f : FuncId} : RuleOk Tryz.prog base f (ruleTrue base f) := ruleOk_of fun args T K hT hK => by
  cases hT
  exact ⟨_, hK.2, hK.1⟩

/-- The moment that is handed in. -/
def ruleMakeD : Rule := rule1 fun args => match args with
  | [.agg ⟨[.int .i64 _, .int .i64 _, .int .i64 _, .int .i64 _, .int .i64 _, .bool _]⟩] => some fun K => ∀ y m d s z o, dateOk y m d → timeOk s z o → K (momentC y m d s z o)
  | _ => none
theorem makeD_ok {base : World} : RuleOk Tryz.prog base 56 ruleMakeD := ruleOk_of fun args T K hT hK => by
  split at hT
  · cases hT
    obtain ⟨v, ⟨y, m, d, s, z, o, rfl, hd, ht⟩, hv⟩ := make_tot base _ _ _ _ _ _
    exact ⟨_, hK y m d s z o hd ht, hv⟩
  · cases hT

/-- An environment that parts no bools. -/
noncomputable def envB (rules : List (Nat × Rule)) : Env :=
  { P := Tryz.prog, isBool := fun _ => false, oracle := findR rules, eqAgg := fun _ _ _ => none, loops := 100000, loopP := fun _ _ => none, guess := fun _ _ => none, strF := strAt, lax := true }

theorem envB_ok {rules : List (Nat × Rule)} {base : World} (hr : ∀ x ∈ rules, RuleOk Tryz.prog base x.1 x.2) : EnvOk (envB rules) base :=
  envOk_of (E := envB rules) rfl rfl mixed_ok plain_ok hr fun _ _ _ _ h => by cases h
theorem envB_loops {rules : List (Nat × Rule)} {base : World} : LoopsOk (envB rules) base := fun _ _ _ _ _ _ h => by cases h

theorem array6 {α : Type} {cs : Array α} (h : cs.size = 6) : ∃ c0 c1 c2 c3 c4 c5, cs = #[c0, c1, c2, c3, c4, c5] := by
  obtain ⟨l⟩ := cs
  match l, h with
  | [c0, c1, c2, c3, c4, c5], _ => exact ⟨c0, c1, c2, c3, c4, c5, rfl⟩

theorem int_wf {n : Int} (h : (Lit.int .i64 n).wf = true) : rng n := by
  have h1 : (decide (IntKind.min .i64 ≤ n) && decide (n ≤ IntKind.max .i64)) = true := h
  have e1 : IntKind.min .i64 = -9223372036854775808 := by decide
  have e2 : IntKind.max .i64 = 9223372036854775807 := by decide
  rw [e1, e2] at h1
  simp only [Bool.and_eq_true, decide_eq_true_eq] at h1
  exact h1

end Go.Proofs.YtdbjbmdaekgbhaaGreatDoor
