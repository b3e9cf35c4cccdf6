/-
  What a call returns, for every heap: facts to be had first, and put into a law's run last.
-/
import Derived.Test.YtdbjbmdaekgbhaaGreatDoorEb
import Derived.Test.YtdbjbmdaekgbhaaGreatDoorEc
namespace Go.Proofs.YtdbjbmdaekgbhaaGreatDoor
open Go Go.Pe Go.RowKit

/-- The table stands in the heap. -/
def cellsEq : List (Option Value) → List Int → Bool
  | [], [] => true
  | c :: l, x :: r => match c with
    | some v => (match v with
      | .int k y => (match decide (k = .u64) && decide (x = y) with | true => cellsEq l r | false => false)
      | _ => false)
    | none => false
  | _, _ => false

def blkTab (b : Blk) : Bool := match b.own, b.iter, b.room, b.elem, b.sym with
  | false, none, 0, 0, false => cellsEq b.cells pow10s
  | _, _, _, _, _ => false

def hasTab (h : Heap) : Bool := match getBlk h 7 with
  | some b => blkTab b
  | none => false

theorem cellsEq_of : ∀ (l : List (Option Value)) (r : List Int), cellsEq l r = true → l = r.map fun z => some (.int .u64 z) := by
  intro l
  induction l with
  | nil => intro r h; cases r <;> simp_all [cellsEq]
  | cons c l ih =>
    intro r h
    cases r with
    | nil => simp [cellsEq] at h
    | cons x r =>
      unfold cellsEq at h
      split at h
      · split at h
        · split at h
          · rename_i hb
            simp at hb
            obtain ⟨rfl, rfl⟩ := hb
            simp [ih r h]
          · cases h
        · cases h
      · cases h

theorem hasTab_sub {h : Heap} (ht : hasTab h = true) : Sub tabs h := by
  unfold hasTab at ht
  intro k b hb
  unfold tabs at hb
  rw [getBlk_cons] at hb
  split at hb
  · rename_i e
    subst e
    cases hb
    split at ht
    · rename_i b hb
      rw [hb]
      unfold blkTab at ht
      split at ht
      · rename_i h1 h2 h3 h4 h5
        obtain ⟨cs, el, ow, ro, it, sy⟩ := b
        simp only at h1 h2 h3 h4 h5 ht
        subst h1 h2 h3 h4 h5
        rw [cellsEq_of _ _ ht]
        rfl
      · cases ht
    · cases ht
  · simp [getBlk] at hb

/-- A call of plain values returns this plain value, and touches nothing. -/
def Tot (base : World) (f : FuncId) (args : List Value) (v : Value) : Prop := ∀ E : Env, E.P = Tryz.prog → ∀ (h : Heap), hasTab h = true → ∀ n : Nat, FuncSem E base f args h n v h n big

/-- The evaluator comes to a value of a kind. -/
structure ReckS (rules : List (Nat × Rule)) (d : Nat) (f : FuncId) (args : List Value) (S : Value → Prop) : Prop where
  out : funcK (env rules) d f args tabs Tryz.prog.globals.size (fun u _ _ mw => S u ∧ Tryz.prog.globals.size ≤ mw)

theorem tot_of {rules : List (Nat × Rule)} {base : World} (hr : ∀ x ∈ rules, RuleOk Tryz.prog base x.1 x.2) {d : Nat} {f : FuncId} {args : List Value} {S : Value → Prop} (hk : ReckS rules d f args S)
    (hp : ∀ v, S v → pureV 6 v = true) (ha : ∀ x ∈ args, pureV 6 x = true) : ∃ v, S v ∧ Tot base f args v := by
  obtain ⟨u, h', n', mw, ⟨hS, hmw⟩, hs⟩ := funcK_sound (env_ok hr) env_loops d f args tabs Tryz.prog.globals.size _ hk.out
  exact ⟨u, hS, fun E hE h ht n => (hs.anywhere hmw (hp u hS) ha tabs_ok (Nat.le_refl _) (hasTab_sub ht) n).env hE⟩

theorem tot_reck {rules : List (Nat × Rule)} {base : World} (hr : ∀ x ∈ rules, RuleOk Tryz.prog base x.1 x.2) {d : Nat} {f : FuncId} {args : List Value} {v : Value} (hk : Reck rules d f args tabs v)
    (hp : pureV 6 v = true) (ha : ∀ x ∈ args, pureV 6 x = true) : Tot base f args v :=
  fun _ hE _ ht n => rule_sem hr hE hk hp ha tabs_ok (hasTab_sub ht) n

/-- A rule by the arguments alone. -/
abbrev PRule := List Value → Option ((Value → Prop) → Prop)
def rule1 (R : PRule) : Rule := fun args h n => match R args with
  | some T => some fun K => chk (hasTab h) (T fun v => K v h n big)
  | none => none

/-- A call that returns what a condition on its arguments says. -/
theorem ruleOk_of {base : World} {f : FuncId} {R : PRule} (H : ∀ args T K, R args = some T → T K → ∃ v, K v ∧ Tot base f args v) : RuleOk Tryz.prog base f (rule1 R) := by
  intro E hE args h n T K hT hK
  unfold rule1 at hT
  split at hT
  · rename_i T' hR
    cases hT
    obtain ⟨ht, hK⟩ := chk_true hK
    obtain ⟨v, hv, htot⟩ := H args T' _ hR hK
    exact ⟨v, h, n, big, hv, htot E hE h ht n⟩
  · cases hT

/-- A call at these arguments. -/
def Same (a b : List Value) : Prop := a = b
def ruleAt (xs : List Value) (v : Value) : Rule := rule1 fun args => some fun K => Same args xs ∧ K v

theorem ruleOk_at {base : World} {f : FuncId} {xs : List Value} {v : Value} (H : Tot base f xs v) : RuleOk Tryz.prog base f (ruleAt xs v) := ruleOk_of fun args T K hT hK => by
  cases hT
  obtain ⟨h, hK⟩ := hK
  unfold Same at h
  subst h
  exact ⟨v, hK, H⟩

/-- An int that there is. -/
def rng (x : Int) : Prop := -9223372036854775808 ≤ x ∧ x ≤ 9223372036854775807
theorem rng_wrap (x : Int) : rng (IntKind.wrap .i64 x) := by
  have h : IntKind.wrap .i64 x = if x % 18446744073709551616 ≥ 9223372036854775808 then x % 18446744073709551616 - 18446744073709551616 else x % 18446744073709551616 := by
    simp [IntKind.wrap, IntKind.bits, IntKind.signed]
  unfold rng
  rw [h]
  split <;> omega

/-! What the values are. -/
def dateC (y m d : Int) : Value := .agg ⟨[.int .i64 y, .int .i64 m, .int .i64 d]⟩
def timeC (s : Int) (z : Bool) (o : Int) : Value := .agg ⟨[.int .i64 s, .bool z, .int .i64 o]⟩
def momentC (y m d s : Int) (z : Bool) (o : Int) : Value := .agg ⟨[.int .i64 y, .int .i64 m, .int .i64 d, .int .i64 s, .bool z, .int .i64 o]⟩
def nullV : Value := .agg ⟨[.nilIface]⟩
def dateV (y m d : Int) : Value := .agg ⟨[.iface 155 (dateC y m d)]⟩
def timeV (s : Int) (z : Bool) (o : Int) : Value := .agg ⟨[.iface 157 (timeC s z o)]⟩
def momentV (y m d s : Int) (z : Bool) (o : Int) : Value := .agg ⟨[.iface 156 (momentC y m d s z o)]⟩
def textV (s : ByteArray) : Value := .agg ⟨[.iface 140 (.string s)]⟩
def daysV (n : Int) : Value := .agg ⟨[.iface 125 (.int .i64 n)]⟩
def monthsV (n : Int) : Value := .agg ⟨[.iface 126 (.int .i64 n)]⟩
def decC (b : Bool) (hi lo e : Int) : Value := .agg ⟨[.bool b, .int .u64 hi, .int .u64 lo, .int .i64 e]⟩
def numV (b : Bool) (hi lo e : Int) : Value := .agg ⟨[.iface 123 (decC b hi lo e)]⟩
def intV (x : Int) : Value := numV (decide (x < 0)) 0 (x.natAbs : Int) 0
/-- What is told plainly of a simple value. -/
def datC (k : Int) (s : ByteArray) : Value := .agg ⟨[.int .i64 k, .string s, .slice none 0 0, .slice none 0 0, .bool false, .bool false]⟩

def rules2 : List (Nat × Rule) := (120, ruleMay) :: (122, ruleTMay) :: rules1
theorem rules2_ok (base : World) : ∀ x ∈ rules2, RuleOk Tryz.prog base x.1 x.2 := List.forall_mem_cons.2 ⟨may_ok base, List.forall_mem_cons.2 ⟨tmay_ok base, rules1_ok base⟩⟩

end Go.Proofs.YtdbjbmdaekgbhaaGreatDoor
