/-
  What the layers below come to: words that hand on what was come to; months between moments.
-/
import Derived.Test.YteaebpmgbpnbeaaGreatDoorFc
namespace Go.Proofs.YteaebpmgbpnbeaaGreatDoor
open Go Go.Pe Go.RowKit

/-- A call comes to a moment and whether there is one; what it comes to is handed on. -/
def MomE (base : World) (f : FuncId) (args : List Value) : Prop := ∃ y m d s z o b, (b = true → dateOk y m d ∧ timeOk s z o) ∧ Tot base f args (.tuple #[momentC y m d s z o, .bool b])
def DayE (base : World) (f : FuncId) (args : List Value) : Prop := ∃ y m d b, (b = true → dateOk y m d) ∧ Tot base f args (.tuple #[dateC y m d, .bool b])
def TimeE (base : World) (f : FuncId) (args : List Value) : Prop := ∃ s z o k, timeOk s z o ∧ Tot base f args (.tuple #[timeC s z o, .int .i64 k])
def IntE (base : World) (f : FuncId) (args : List Value) : Prop := ∃ k b, Tot base f args (.tuple #[.int .i64 k, .bool b])

def ruleMomE (base : World) (f : FuncId) : Rule := rule1 fun args => some fun K => MomE base f args ∧ ∀ y m d s z o b, (b = true → dateOk y m d ∧ timeOk s z o) → Tot base f args (.tuple #[momentC y m d s z o, .bool b]) → K (.tuple #[momentC y m d s z o, .bool b])
def ruleDayE (base : World) (f : FuncId) : Rule := rule1 fun args => some fun K => DayE base f args ∧ ∀ y m d b, (b = true → dateOk y m d) → Tot base f args (.tuple #[dateC y m d, .bool b]) → K (.tuple #[dateC y m d, .bool b])
def ruleTimeE (base : World) (f : FuncId) : Rule := rule1 fun args => some fun K => TimeE base f args ∧ ∀ s z o k, timeOk s z o → Tot base f args (.tuple #[timeC s z o, .int .i64 k]) → K (.tuple #[timeC s z o, .int .i64 k])
def ruleIntE (base : World) (f : FuncId) : Rule := rule1 fun args => some fun K => IntE base f args ∧ ∀ k b, Tot base f args (.tuple #[.int .i64 k, .bool b]) → K (.tuple #[.int .i64 k, .bool b])

theorem momE_ok {base : World} {f : FuncId} : RuleOk Tryz.prog base f (ruleMomE base f) := ruleOk_of fun args T K hT hK => by
  cases hT
  obtain ⟨⟨y, m, d, s, z, o, b, h, ht⟩, hK⟩ := hK
  exact ⟨_, hK y m d s z o b h ht, ht⟩
theorem dayE_ok {base : World} {f : FuncId} : RuleOk Tryz.prog base f (ruleDayE base f) := ruleOk_of fun args T K hT hK => by
  cases hT
  obtain ⟨⟨y, m, d, b, h, ht⟩, hK⟩ := hK
  exact ⟨_, hK y m d b h ht, ht⟩
theorem timeE_ok {base : World} {f : FuncId} : RuleOk Tryz.prog base f (ruleTimeE base f) := ruleOk_of fun args T K hT hK => by
  cases hT
  obtain ⟨⟨s, z, o, k, h, ht⟩, hK⟩ := hK
  exact ⟨_, hK s z o k h ht, ht⟩
theorem intE_ok {base : World} {f : FuncId} : RuleOk Tryz.prog base f (ruleIntE base f) := ruleOk_of fun args T K hT hK => by
  cases hT
  obtain ⟨⟨k, b, ht⟩, hK⟩ := hK
  exact ⟨_, hK k b ht, ht⟩

/-- Days between days: what is between the points at which these begin. -/
def ruleDatesB (base : World) : Rule := rule1 fun args => match args with
  | [.agg ⟨[.int .i64 y, .int .i64 m, .int .i64 d]⟩, .agg ⟨[.int .i64 y2, .int .i64 m2, .int .i64 d2]⟩] => some fun K => (dateOk y m d ∧ dateOk y2 m2 d2) ∧
      ∀ k, Tot base 34 [momentC y m d 0 true 0, momentC y2 m2 d2 0 true 0] (.tuple #[.int .i64 k, .bool true]) → K (.tuple #[.int .i64 k, .bool true])
  | _ => none

/-- Months between moments. -/
def monthsB (k : Int) : Prop := -30000000000 ≤ k ∧ k ≤ 30000000000
def MbE (base : World) (args : List Value) : Prop := (∃ k, monthsB k ∧ Tot base 37 args (.tuple #[.int .i64 k, .bool true])) ∨ Tot base 37 args (.tuple #[.int .i64 0, .bool false])
def ruleMbE (base : World) : Rule := rule1 fun args => some fun K => MbE base args ∧ (∀ k, monthsB k → Tot base 37 args (.tuple #[.int .i64 k, .bool true]) → K (.tuple #[.int .i64 k, .bool true])) ∧
  (Tot base 37 args (.tuple #[.int .i64 0, .bool false]) → K (.tuple #[.int .i64 0, .bool false]))
theorem mbE_ok {base : World} : RuleOk Tryz.prog base 37 (ruleMbE base) := ruleOk_of fun args T K hT hK => by
  cases hT
  obtain ⟨⟨k, hk, ht⟩ | ht, h1, h2⟩ := hK
  · exact ⟨_, h1 k hk ht, ht⟩
  · exact ⟨_, h2 ht, ht⟩

/-- What a law asks of a value that is told: here it is. -/
def ruleEx (base : World) (f : FuncId) : Rule := rule1 fun args => some fun K => ∃ x, Tot base f args (.agg ⟨[x]⟩) ∧ K (.agg ⟨[x]⟩)
theorem ex_ok {base : World} {f : FuncId} : RuleOk Tryz.prog base f (ruleEx base f) := ruleOk_of fun args T K hT hK => by
  cases hT
  obtain ⟨v, ht, hK⟩ := hK
  exact ⟨_, hK, ht⟩

/-- Null. -/
def ruleNull : Rule := rule1 fun args => match args with
  | [v] => some fun K => (v = nullV ∧ K (.bool true)) ∨ ((∃ t y, v = .agg ⟨[.iface t y]⟩ ∧ pureV 6 v = true) ∧ K (.bool false))
  | _ => none

theorem null_tt_tree (K : Value → Nat → Prop) :
    funcK (env (rules4)) 30 39 [nullV] tabs Tryz.prog.globals.size (fun u _ _ mw => K u mw) =
  (K (Go.Value.bool Bool.true) (18446744073709551616 : Nat)) := by kernel_rfl
theorem null_tt_hk   : ReckE (env (rules4)) 30 39 [nullV] ((· = .bool true)) := by
  constructor
  rw [null_tt_tree fun u mw => u = .bool true ∧ Tryz.prog.globals.size ≤ mw]
  exact ⟨rfl, Nat.le_of_ble_eq_true (by kernel_rfl)⟩
theorem null_tt {base : World}   : Tot base 39 [nullV] (.bool true) := tot_lit (rules4_ok base) (null_tt_hk ) (by kernel_rfl) (by repeat' (first | refine List.forall_mem_cons.2 ⟨?_, ?_⟩ | exact (fun _ h => nomatch h) | assumption | kernel_rfl))
theorem null_ff_tree (K : Value → Nat → Prop) (t : TypeId) (y : Value) :
    funcK (env (rules4)) 30 39 [.agg ⟨[.iface t y]⟩] tabs Tryz.prog.globals.size (fun u _ _ mw => K u mw) =
  (K (Go.Value.bool Bool.false) (18446744073709551616 : Nat)) := by kernel_rfl
theorem null_ff_hk (t : TypeId) (y : Value) (hp : pureV 6 (.agg ⟨[.iface t y]⟩) = true) : ReckE (env (rules4)) 30 39 [.agg ⟨[.iface t y]⟩] ((· = .bool false)) := by
  constructor
  rw [null_ff_tree fun u mw => u = .bool false ∧ Tryz.prog.globals.size ≤ mw]
  exact ⟨rfl, Nat.le_of_ble_eq_true (by kernel_rfl)⟩
theorem null_ff {base : World} (t : TypeId) (y : Value) (hp : pureV 6 (.agg ⟨[.iface t y]⟩) = true) : Tot base 39 [.agg ⟨[.iface t y]⟩] (.bool false) := tot_lit (rules4_ok base) (null_ff_hk t y hp) (by kernel_rfl) (by repeat' (first | refine List.forall_mem_cons.2 ⟨?_, ?_⟩ | exact (fun _ h => nomatch h) | assumption | kernel_rfl))

theorem null_ok {base : World} : RuleOk Tryz.prog base 39 ruleNull := ruleOk_of fun args T K hT hK => by
  split at hT
  · cases hT
    rcases hK with ⟨rfl, hK⟩ | ⟨⟨t, y, rfl, hp⟩, hK⟩
    · exact ⟨_, hK, null_tt⟩
    · exact ⟨_, hK, null_ff t y hp⟩
  · cases hT

/-- A call that is true. -/
def ruleTrue (base : World) (f : FuncId) : Rule := rule1 fun args => some fun K => Tot base f args (.bool true) ∧ K (.bool true)
theorem true_ok {base : World} {f : FuncId} : RuleOk Tryz.prog base f (ruleTrue base f) := ruleOk_of fun args T K hT hK => by
  cases hT
  exact ⟨_, hK.2, hK.1⟩

/-- The moment that is handed in. -/
def ruleMakeD : Rule := rule1 fun args => match args with
  | [.agg ⟨[.int .i64 _, .int .i64 _, .int .i64 _, .int .i64 _, .int .i64 _, .bool _]⟩] => some fun K => ∀ y m d s z o, dateOk y m d → timeOk s z o → K (momentC y m d s z o)
  | _ => none
theorem makeD_ok {base : World} : RuleOk Tryz.prog base 25 ruleMakeD := ruleOk_of fun args T K hT hK => by
  split at hT
  · cases hT
    obtain ⟨v, ⟨y, m, d, s, z, o, rfl, hd, ht⟩, hv⟩ := make_tot base _ _ _ _ _ _
    exact ⟨_, hK y m d s z o hd ht, hv⟩
  · cases hT

theorem awake_tot (base : World) : Tot base 10 [] (.bool true) := fun E hE h ht n => by
  obtain ⟨v, h', n', mw, ⟨rfl, rfl, rfl, rfl⟩, hs⟩ := awake24_ok base E hE [] h n _ (fun v g m x => v = .bool true ∧ g = h ∧ m = n ∧ x = big) rfl ⟨hasTab_sub ht, rfl, rfl, rfl, rfl⟩
  exact hs

/-- An environment that parts no bools. -/
noncomputable def envB (rules : List (Nat × Rule)) : Env :=
  { P := Tryz.prog, isBool := fun _ => false, oracle := findR rules, eqAgg := fun _ _ _ => none, loops := 100000, loopP := fun _ _ => none, guess := fun _ _ => none, strF := strAt, lax := true }

theorem envB_ok {rules : List (Nat × Rule)} {base : World} (hr : ∀ x ∈ rules, RuleOk Tryz.prog base x.1 x.2) : EnvOk (envB rules) base :=
  envOk_of (E := envB rules) rfl rfl mixed_ok plain_ok hr fun _ _ _ _ h => by cases h
theorem envB_loops {rules : List (Nat × Rule)} {base : World} : LoopsOk (envB rules) base := fun _ _ _ _ _ _ h => by cases h

theorem array6 {α : Type} {cs : Array α} (h : cs.size = 6) : ∃ c0 c1 c2 c3 c4 c5, cs = #[c0, c1, c2, c3, c4, c5] := by
  obtain ⟨l⟩ := cs
  match l, h with
  | [c0, c1, c2, c3, c4, c5], _ => exact ⟨c0, c1, c2, c3, c4, c5, rfl⟩

theorem int_wf {n : Int} (h : (Lit.int .i64 n).wf = true) : rng n := by
  have h1 : (decide (IntKind.min .i64 ≤ n) && decide (n ≤ IntKind.max .i64)) = true := h
  have e1 : IntKind.min .i64 = -9223372036854775808 := by decide
  have e2 : IntKind.max .i64 = 9223372036854775807 := by decide
  rw [e1, e2] at h1
  simp only [Bool.and_eq_true, decide_eq_true_eq] at h1
  exact h1

end Go.Proofs.YteaebpmgbpnbeaaGreatDoor
