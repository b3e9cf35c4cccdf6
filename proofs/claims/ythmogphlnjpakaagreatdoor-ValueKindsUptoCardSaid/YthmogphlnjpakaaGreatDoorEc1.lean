/-
  Days and times that there are.
  What a call returns, for every heap: facts to be had first, and put into a law's run last.
-/
import Derived.Test.YthmogphlnjpakaaGreatDoorEa1

namespace Go.Proofs.YthmogphlnjpakaaGreatDoor
open Go Go.Pe Go.RowKit
theorem may_tree (K : Value → Heap → Nat → Nat → Prop) (y m d : Int) :
 funcK (env rules0) 30 179 [.agg ⟨[.int .i64 y, .int .i64 m, .int .i64 d]⟩] [] Tryz.prog.globals.size K =
 (bsel (decide (y ≥ (-999999999 : Int)))
 (bsel (decide (y ≤ (999999999 : Int)))
 (bsel (decide (d ≥ (1 : Int)))
 (bsel (m == (1 : Int))
 (bsel (decide (d ≤ (31 : Int))) (K (.bool true) [] (11 : Nat) big)
 (K (.bool false) [] (11 : Nat) big))
 (bsel (m == (3 : Int))
 (bsel (decide (d ≤ (31 : Int))) (K (.bool true) [] (11 : Nat) big)
 (K (.bool false) [] (11 : Nat) big))
 (bsel (m == (5 : Int))
 (bsel (decide (d ≤ (31 : Int))) (K (.bool true) [] (11 : Nat) big)
 (K (.bool false) [] (11 : Nat) big))
 (bsel (m == (7 : Int))
 (bsel (decide (d ≤ (31 : Int))) (K (.bool true) [] (11 : Nat) big)
 (K (.bool false) [] (11 : Nat) big))
 (bsel (m == (8 : Int))
 (bsel (decide (d ≤ (31 : Int))) (K (.bool true) [] (11 : Nat) big)
 (K (.bool false) [] (11 : Nat) big))
 (bsel (m == (10 : Int))
 (bsel (decide (d ≤ (31 : Int))) (K (.bool true) [] (11 : Nat) big)
 (K (.bool false) [] (11 : Nat) big))
 (bsel (m == (12 : Int))
 (bsel (decide (d ≤ (31 : Int))) (K (.bool true) [] (11 : Nat) big)
 (K (.bool false) [] (11 : Nat) big))
 (bsel (m == (4 : Int))
 (bsel (decide (d ≤ (30 : Int))) (K (.bool true) [] (11 : Nat) big)
 (K (.bool false) [] (11 : Nat) big))
 (bsel (m == (6 : Int))
 (bsel (decide (d ≤ (30 : Int))) (K (.bool true) [] (11 : Nat) big)
 (K (.bool false) [] (11 : Nat) big))
 (bsel (m == (9 : Int))
 (bsel (decide (d ≤ (30 : Int))) (K (.bool true) [] (11 : Nat) big)
 (K (.bool false) [] (11 : Nat) big))
 (bsel (m == (11 : Int))
 (bsel (decide (d ≤ (30 : Int))) (K (.bool true) [] (11 : Nat) big)
 (K (.bool false) [] (11 : Nat) big))
 (bsel (m == (2 : Int))
 (bsel (Int.tmod y (4 : Int) == (0 : Int))
 (bsel (Int.tmod y (100 : Int) != (0 : Int))
 (bsel (decide (d ≤ (29 : Int))) (K (.bool true) [] (11 : Nat) big)
 (K (.bool false) [] (11 : Nat) big))
 (bsel (Int.tmod y (400 : Int) == (0 : Int))
 (bsel (decide (d ≤ (29 : Int))) (K (.bool true) [] (11 : Nat) big)
 (K (.bool false) [] (11 : Nat) big))
 (bsel (decide (d ≤ (28 : Int))) (K (.bool true) [] (11 : Nat) big)
 (K (.bool false) [] (11 : Nat) big))))
 (bsel (decide (d ≤ (28 : Int))) (K (.bool true) [] (11 : Nat) big)
 (K (.bool false) [] (11 : Nat) big)))
 (bsel (decide (d ≤ (0 : Int))) (K (.bool true) [] (11 : Nat) big)
 (K (.bool false) [] (11 : Nat) big))))))))))))))
 (K (.bool false) [] (11 : Nat) big))
 (K (.bool false) [] (11 : Nat) big))
 (K (.bool false) [] (11 : Nat) big)) := by kernel_rfl
theorem tmay_tree (K : Value → Heap → Nat → Nat → Prop) (s o : Int) (z : Bool) :
 funcK (env rules0) 30 184 [.agg ⟨[.int .i64 s, .bool z, .int .i64 o]⟩] [] Tryz.prog.globals.size K =
 (bsel (decide (s ≥ (0 : Int)))
 (bsel (decide (s < (86400 : Int)))
 (bsel (decide (o ≥ (-64800 : Int)))
 (bsel (decide (o ≤ (64800 : Int)))
 (bsel z (K (.bool true) [] (11 : Nat) big)
 (bsel (o == (0 : Int)) (K (.bool true) [] (11 : Nat) big) (K (.bool false) [] (11 : Nat) big)))
 (K (.bool false) [] (11 : Nat) big))
 (K (.bool false) [] (11 : Nat) big))
 (K (.bool false) [] (11 : Nat) big))
 (K (.bool false) [] (11 : Nat) big)) := by kernel_rfl
def leapF (y : Int) : Bool := Int.tmod y 4 == 0 && (Int.tmod y 100 != 0 || Int.tmod y 400 == 0)
def lenF (y m : Int) : Int := if m = 2 then (if leapF y = true then 29 else 28) else if m = 4 ∨ m = 6 ∨ m = 9 ∨ m = 11 then 30 else 31
def dateOk (y m d : Int) : Prop := -999999999 ≤ y ∧ y ≤ 999999999 ∧ 1 ≤ m ∧ m ≤ 12 ∧ 1 ≤ d ∧ d ≤ lenF y m
def timeOk (s : Int) (z : Bool) (o : Int) : Prop := 0 ≤ s ∧ s < 86400 ∧ -64800 ≤ o ∧ o ≤ 64800 ∧ (z = false → o = 0)
structure Reck (rules : List (Nat × Rule)) (d : Nat) (f : FuncId) (args : List Value) (h0 : Heap) (v : Value) : Prop where
  out : funcK (env rules) d f args h0 Tryz.prog.globals.size (fun u _ _ mw => u = v ∧ Tryz.prog.globals.size ≤ mw)
theorem globals_big : Tryz.prog.globals.size ≤ 18446744073709551616 := Nat.le_of_ble_eq_true (by kernel_rfl)
theorem may_hk {y m d : Int} (h : dateOk y m d) : Reck rules0 30 179 [.agg ⟨[.int .i64 y, .int .i64 m, .int .i64 d]⟩] [] (.bool true) := by
  constructor
  rw [may_tree]
  obtain ⟨h1, h2, h3, h4, h5, h6⟩ := h
  unfold lenF leapF at h6
  generalize Int.tmod y 4 = a at *
  generalize Int.tmod y 100 = b at *
  generalize Int.tmod y 400 = c at *
  repeat' (refine bsel_of (fun _ => ?_) (fun _ => ?_))
  all_goals first
    | exact ⟨rfl, globals_big⟩
    | (exfalso
       simp only [decide_eq_true_eq, decide_eq_false_iff_not, beq_iff_eq, beq_eq_false_iff_ne, bne_iff_ne, bne_eq_false_iff_eq, Bool.and_eq_true, Bool.or_eq_true, ne_eq, ge_iff_le] at *
       split at h6 <;> (try split at h6) <;> omega)
theorem tmay_hk {s o : Int} {z : Bool} (h : timeOk s z o) : Reck rules0 30 184 [.agg ⟨[.int .i64 s, .bool z, .int .i64 o]⟩] [] (.bool true) := by
  constructor
  rw [tmay_tree]
  obtain ⟨h1, h2, h3, h4, h5⟩ := h
  repeat' (refine bsel_of (fun _ => ?_) (fun _ => ?_))
  all_goals first
    | exact ⟨rfl, globals_big⟩
    | (exfalso
       simp only [decide_eq_true_eq, decide_eq_false_iff_not, beq_eq_false_iff_ne, ge_iff_le] at *
       first | omega | (have := h5 (by assumption); omega))
theorem rule_sem {rules : List (Nat × Rule)} {base : World} (hr : ∀ x ∈ rules, RuleOk Tryz.prog base x.1 x.2) {E : Env} (hE : E.P = Tryz.prog) {d : Nat} {f : FuncId} {args : List Value} {v : Value} {h0 : Heap}
    (hk : Reck rules d f args h0 v) (hv : pureV 6 v = true) (ha : ∀ x ∈ args, pureV 6 x = true) (hh0 : HWF (· < Tryz.prog.globals.size) h0)
    {h : Heap} (hs : Sub h0 h) (n : Nat) : FuncSem E base f args h n v h n big :=
  (sem_of_funcK (env_ok hr) env_loops hk.out hv ha hh0 (Nat.le_refl _) hs n).env hE
theorem pure1 {v : Value} (h : pureV 6 v = true) : ∀ x ∈ [v], pureV 6 x = true := fun x hx => by rw [List.mem_singleton.1 hx]; exact h
theorem hwf_nil (n : Nat) : HWF (· < n) [] := fun k b hb => by simp [getBlk] at hb
def ruleMay : Rule := fun args h n => match args with
  | [.agg ⟨[.int .i64 y, .int .i64 m, .int .i64 d]⟩] => some fun K => dateOk y m d ∧ K (.bool true) h n big
  | _ => none
def ruleTMay : Rule := fun args h n => match args with
  | [.agg ⟨[.int .i64 s, .bool z, .int .i64 o]⟩] => some fun K => timeOk s z o ∧ K (.bool true) h n big
  | _ => none
theorem may_ok (base : World) : RuleOk Tryz.prog base 179 ruleMay := by
  intro E hE args h n T K hT hK
  unfold ruleMay at hT
  split at hT
  · cases hT
    obtain ⟨hd, hK⟩ := hK
    have h1 := may_hk hd
    have hr := rules0_ok base
    exact ⟨.bool true, h, n, big, hK, rule_sem hr hE h1 (by kernel_rfl) (pure1 (by kernel_rfl)) (hwf_nil _) (Sub.nil h) n⟩
  · cases hT
theorem tmay_ok (base : World) : RuleOk Tryz.prog base 184 ruleTMay := by
  intro E hE args h n T K hT hK
  unfold ruleTMay at hT
  split at hT
  · cases hT
    obtain ⟨hd, hK⟩ := hK
    have h1 := tmay_hk hd
    have hr := rules0_ok base
    exact ⟨.bool true, h, n, big, hK, rule_sem hr hE h1 (by kernel_rfl) (pure1 (by kernel_rfl)) (hwf_nil _) (Sub.nil h) n⟩
  · cases hT
end Go.Proofs.YthmogphlnjpakaaGreatDoor

namespace Go.Proofs.YthmogphlnjpakaaGreatDoor
open Go Go.Pe Go.RowKit
def cellsEq : List (Option Value) → List Int → Bool
  | [], [] => true
  | c :: l, x :: r => match c with
    | some v => (match v with
      | .int k y => (match decide (k = .u64) && decide (x = y) with | true => cellsEq l r | false => false)
      | _ => false)
    | none => false
  | _, _ => false
def blkTab (b : Blk) : Bool := match b.own, b.iter, b.room, b.elem, b.sym with
  | false, none, 0, 0, false => cellsEq b.cells pow10s
  | _, _, _, _, _ => false
def hasTab (h : Heap) : Bool := match getBlk h 5 with
  | some b => blkTab b
  | none => false
theorem cellsEq_of : ∀ (l : List (Option Value)) (r : List Int), cellsEq l r = true → l = r.map fun z => some (.int .u64 z) := by
  intro l
  induction l with
  | nil => intro r h; cases r <;> simp_all [cellsEq]
  | cons c l ih =>
    intro r h
    cases r with
    | nil => simp [cellsEq] at h
    | cons x r =>
      unfold cellsEq at h
      split at h
      · split at h
        · split at h
          · rename_i hb
            simp at hb
            obtain ⟨rfl, rfl⟩ := hb
            simp [ih r h]
          · cases h
        · cases h
      · cases h
theorem hasTab_sub {h : Heap} (ht : hasTab h = true) : Sub tabs h := by
  unfold hasTab at ht
  intro k b hb
  unfold tabs at hb
  rw [getBlk_cons] at hb
  split at hb
  · rename_i e
    subst e
    cases hb
    split at ht
    · rename_i b hb
      rw [hb]
      unfold blkTab at ht
      split at ht
      · rename_i h1 h2 h3 h4 h5
        obtain ⟨cs, el, ow, ro, it, sy⟩ := b
        simp only at h1 h2 h3 h4 h5 ht
        subst h1 h2 h3 h4 h5
        rw [cellsEq_of _ _ ht]
        rfl
      · cases ht
    · cases ht
  · simp [getBlk] at hb
def Tot (base : World) (f : FuncId) (args : List Value) (v : Value) : Prop := ∀ E : Env, E.P = Tryz.prog → ∀ (h : Heap), hasTab h = true → ∀ n : Nat, FuncSem E base f args h n v h n big
structure ReckS (rules : List (Nat × Rule)) (d : Nat) (f : FuncId) (args : List Value) (S : Value → Prop) : Prop where
  out : funcK (env rules) d f args tabs Tryz.prog.globals.size (fun u _ _ mw => S u ∧ Tryz.prog.globals.size ≤ mw)
theorem tot_reck {rules : List (Nat × Rule)} {base : World} (hr : ∀ x ∈ rules, RuleOk Tryz.prog base x.1 x.2) {d : Nat} {f : FuncId} {args : List Value} {v : Value} (hk : Reck rules d f args tabs v)
    (hp : pureV 6 v = true) (ha : ∀ x ∈ args, pureV 6 x = true) : Tot base f args v :=
  fun _ hE _ ht n => rule_sem hr hE hk hp ha tabs_ok (hasTab_sub ht) n
abbrev PRule := List Value → Option ((Value → Prop) → Prop)
def rule1 (R : PRule) : Rule := fun args h n => match R args with
  | some T => some fun K => chk (hasTab h) (T fun v => K v h n big)
  | none => none
theorem ruleOk_of {base : World} {f : FuncId} {R : PRule} (H : ∀ args T K, R args = some T → T K → ∃ v, K v ∧ Tot base f args v) : RuleOk Tryz.prog base f (rule1 R) := by
  intro E hE args h n T K hT hK
  unfold rule1 at hT
  split at hT
  · rename_i T' hR
    cases hT
    obtain ⟨ht, hK⟩ := chk_true hK
    obtain ⟨v, hv, htot⟩ := H args T' _ hR hK
    exact ⟨v, h, n, big, hv, htot E hE h ht n⟩
  · cases hT
def Same (a b : List Value) : Prop := a = b
def ruleAt (xs : List Value) (v : Value) : Rule := rule1 fun args => some fun K => Same args xs ∧ K v
theorem ruleOk_at {base : World} {f : FuncId} {xs : List Value} {v : Value} (H : Tot base f xs v) : RuleOk Tryz.prog base f (ruleAt xs v) := ruleOk_of fun args T K hT hK => by
  cases hT
  obtain ⟨h, hK⟩ := hK
  unfold Same at h
  subst h
  exact ⟨v, hK, H⟩
def rng (x : Int) : Prop := -9223372036854775808 ≤ x ∧ x ≤ 9223372036854775807
theorem rng_wrap (x : Int) : rng (IntKind.wrap .i64 x) := by
  have h : IntKind.wrap .i64 x = if x % 18446744073709551616 ≥ 9223372036854775808 then x % 18446744073709551616 - 18446744073709551616 else x % 18446744073709551616 := by
    simp [IntKind.wrap, IntKind.bits, IntKind.signed]
  unfold rng
  rw [h]
  split <;> omega
/-! What the values are. -/
def dateC (y m d : Int) : Value := .agg ⟨[.int .i64 y, .int .i64 m, .int .i64 d]⟩
def timeC (s : Int) (z : Bool) (o : Int) : Value := .agg ⟨[.int .i64 s, .bool z, .int .i64 o]⟩
def momentC (y m d s : Int) (z : Bool) (o : Int) : Value := .agg ⟨[.int .i64 y, .int .i64 m, .int .i64 d, .int .i64 s, .bool z, .int .i64 o]⟩
def nullV : Value := .agg ⟨[.nilIface]⟩
def dateV (y m d : Int) : Value := .agg ⟨[.iface 184 (dateC y m d)]⟩
def timeV (s : Int) (z : Bool) (o : Int) : Value := .agg ⟨[.iface 186 (timeC s z o)]⟩
def momentV (y m d s : Int) (z : Bool) (o : Int) : Value := .agg ⟨[.iface 188 (momentC y m d s z o)]⟩
def textV (s : ByteArray) : Value := .agg ⟨[.iface 144 (.string s)]⟩
def daysV (n : Int) : Value := .agg ⟨[.iface 190 (.int .i64 n)]⟩
def monthsV (n : Int) : Value := .agg ⟨[.iface 192 (.int .i64 n)]⟩
def decC (b : Bool) (hi lo e : Int) : Value := .agg ⟨[.bool b, .int .u64 hi, .int .u64 lo, .int .i64 e]⟩
def numV (b : Bool) (hi lo e : Int) : Value := .agg ⟨[.iface 176 (decC b hi lo e)]⟩
def intV (x : Int) : Value := numV (decide (x < 0)) 0 (x.natAbs : Int) 0
def rules2 : List (Nat × Rule) := (179, ruleMay) :: (184, ruleTMay) :: rules1
theorem rules2_ok (base : World) : ∀ x ∈ rules2, RuleOk Tryz.prog base x.1 x.2 := List.forall_mem_cons.2 ⟨may_ok base, List.forall_mem_cons.2 ⟨tmay_ok base, rules1_ok base⟩⟩
end Go.Proofs.YthmogphlnjpakaaGreatDoor
