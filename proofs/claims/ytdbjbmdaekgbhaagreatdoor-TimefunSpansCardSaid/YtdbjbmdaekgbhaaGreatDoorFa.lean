/-
  Values that are made of days, times, lengths of time: of a kind, or null; what a law's 'arith' asks.
-/
import Derived.Test.YtdbjbmdaekgbhaaGreatDoorEs
namespace Go.Proofs.YtdbjbmdaekgbhaaGreatDoor
open Go Go.Pe Go.RowKit

theorem tot_lit {base : World} {rules : List (Nat × Rule)} (hr : ∀ x ∈ rules, RuleOk Tryz.prog base x.1 x.2) {d : Nat} {f : FuncId} {args : List Value} {v : Value} (hk : ReckE (env rules) d f args (· = v))
    (hp : pureV 6 v = true) (ha : ∀ x ∈ args, pureV 6 x = true) : Tot base f args v := by
  obtain ⟨_, rfl, ht⟩ := tot_ofE (env_ok hr) env_loops rfl hk (fun u hu => hu ▸ hp) ha
  exact ht

def ruleTMayD : Rule := rule1 fun args => match args with
  | [.agg ⟨[.int .i64 s, .bool z, .int .i64 o]⟩] => some fun K => (timeOk s z o → K (.bool true)) ∧ (¬ timeOk s z o → K (.bool false))
  | _ => none

def isTMayD (s : Int) (z : Bool) (o : Int) (u : Value) : Prop := (u = .bool true ∧ timeOk s z o) ∨ (u = .bool false ∧ ¬ timeOk s z o)
theorem isTMayD_pure {s : Int} {z : Bool} {o : Int} : ∀ v, isTMayD s z o v → pureV 6 v = true := by
  rintro v (⟨rfl, _⟩ | ⟨rfl, _⟩) <;> kernel_rfl

theorem tmayD_hk_tree (K : Value → Nat → Prop) (s o : Int) (z : Bool) :
    funcK (env rules1) 30 122 [timeC s z o] tabs Tryz.prog.globals.size (fun u _ _ mw => K u mw) =
  (bsel (decide (s ≥ (0 : Int)))
 (bsel (decide (s < (86400 : Int)))
 (bsel (decide (o ≥ (-64800 : Int)))
 (bsel (decide (o ≤ (64800 : Int)))
 (bsel z (K (Value.bool Bool.true) (18446744073709551616 : Nat))
 (bsel (o == (0 : Int)) (K (Value.bool Bool.true) (18446744073709551616 : Nat)) (K (Value.bool Bool.false) (18446744073709551616 : Nat))))
 (K (Value.bool Bool.false) (18446744073709551616 : Nat)))
 (K (Value.bool Bool.false) (18446744073709551616 : Nat)))
 (K (Value.bool Bool.false) (18446744073709551616 : Nat)))
 (K (Value.bool Bool.false) (18446744073709551616 : Nat))) := by kernel_rfl
theorem tmayD_hk (s o : Int) (z : Bool)  : ReckE (env rules1) 30 122 [timeC s z o] (isTMayD s z o) := by
  constructor
  rw [tmayD_hk_tree fun u mw => (isTMayD s z o) u ∧ Tryz.prog.globals.size ≤ mw]
  repeat' (refine bsel_of (fun _ => ?_) (fun _ => ?_))
  all_goals first
    | exact ⟨.inl ⟨rfl, by grind [timeOk]⟩, Nat.le_of_ble_eq_true (by kernel_rfl)⟩
    | exact ⟨.inr ⟨rfl, by grind [timeOk]⟩, Nat.le_of_ble_eq_true (by kernel_rfl)⟩
    | (exfalso; grind)

theorem tmayD_ok (base : World) : RuleOk Tryz.prog base 122 ruleTMayD := ruleOk_of fun args T K hT hK => by
  split at hT
  · cases hT
    rename_i s z o
    obtain ⟨v, hv, ht⟩ := tot_ofE (env_ok (rules1_ok base)) env_loops rfl (tmayD_hk s o z) isTMayD_pure (pure1 (by kernel_rfl))
    rcases hv with ⟨rfl, h⟩ | ⟨rfl, h⟩
    · exact ⟨_, hK.1 h, ht⟩
    · exact ⟨_, hK.2 h, ht⟩
  · cases hT

def rulesV1 : List (Nat × Rule) := (120, ruleMayD) :: (122, ruleTMayD) :: rules1
theorem rulesV1_ok (base : World) : ∀ x ∈ rulesV1, RuleOk Tryz.prog base x.1 x.2 := List.forall_mem_cons.2 ⟨mayD_ok base, List.forall_mem_cons.2 ⟨tmayD_ok base, rules1_ok base⟩⟩

def spanOk (n : Int) : Prop := -9007199254740992 ≤ n ∧ n ≤ 9007199254740992
def isV (P : Prop) (v u : Value) : Prop := (P ∧ u = v) ∨ (¬ P ∧ u = nullV)
def isVMoment (y m d s : Int) (z : Bool) (o : Int) : Value → Prop := isV (dateOk y m d ∧ timeOk s z o) (momentV y m d s z o)
def isVDate (y m d : Int) : Value → Prop := isV (dateOk y m d) (dateV y m d)
def isVTime (s : Int) (z : Bool) (o : Int) : Value → Prop := isV (timeOk s z o) (timeV s z o)
def isVDays (n : Int) : Value → Prop := isV (spanOk n) (daysV n)
def isVMonths (n : Int) : Value → Prop := isV (spanOk n) (monthsV n)
theorem isV_pure {P : Prop} {v : Value} (hv : pureV 6 v = true) : ∀ u, isV P v u → pureV 6 u = true := by
  rintro u (⟨_, rfl⟩ | ⟨_, rfl⟩)
  · exact hv
  · kernel_rfl

theorem vmomentD_hk_tree (K : Value → Nat → Prop) (y m d s o : Int) (z : Bool) :
    funcK (env rulesV1) 30 36 [momentC y m d s z o] tabs Tryz.prog.globals.size (fun u _ _ mw => K u mw) =
  ((dateOk y m d →
 (timeOk s z o →
 K
 (Value.agg
 (Array.mk
 [Value.iface (156 : Nat)
 (Value.agg
 (Array.mk
 [Value.int IntKind.i64 y, Value.int IntKind.i64 m, Value.int IntKind.i64 d, Value.int IntKind.i64 s, Value.bool z, Value.int IntKind.i64 o]))]))
 (11 : Nat)) ∧
 (¬timeOk s z o → K (Value.agg (Array.mk [Value.nilIface])) (11 : Nat))) ∧
 (¬dateOk y m d → K (Value.agg (Array.mk [Value.nilIface])) (11 : Nat))) := by kernel_rfl
theorem vmomentD_hk (y m d s o : Int) (z : Bool)  : ReckE (env rulesV1) 30 36 [momentC y m d s z o] (isVMoment y m d s z o) := by
  constructor
  rw [vmomentD_hk_tree fun u mw => (isVMoment y m d s z o) u ∧ Tryz.prog.globals.size ≤ mw]
  repeat' (first
    | exact ⟨.inl ⟨by first | assumption | (constructor <;> assumption), rfl⟩, Nat.le_of_ble_eq_true (by kernel_rfl)⟩
    | exact ⟨.inr ⟨by first | assumption | (rintro ⟨h1, h2⟩; contradiction), rfl⟩, Nat.le_of_ble_eq_true (by kernel_rfl)⟩
    | refine And.intro ?_ ?_
    | refine bsel_of (fun _ => ?_) (fun _ => ?_)
    | intro _)
theorem vdateD_hk_tree (K : Value → Nat → Prop) (y m d : Int) :
    funcK (env rulesV1) 30 35 [dateC y m d] tabs Tryz.prog.globals.size (fun u _ _ mw => K u mw) =
  ((dateOk y m d →
 K (Value.agg (Array.mk [Value.iface (155 : Nat) (Value.agg (Array.mk [Value.int IntKind.i64 y, Value.int IntKind.i64 m, Value.int IntKind.i64 d]))])) (11 : Nat)) ∧
 (¬dateOk y m d → K (Value.agg (Array.mk [Value.nilIface])) (11 : Nat))) := by kernel_rfl
theorem vdateD_hk (y m d : Int)  : ReckE (env rulesV1) 30 35 [dateC y m d] (isVDate y m d) := by
  constructor
  rw [vdateD_hk_tree fun u mw => (isVDate y m d) u ∧ Tryz.prog.globals.size ≤ mw]
  repeat' (first
    | exact ⟨.inl ⟨by first | assumption | (constructor <;> assumption), rfl⟩, Nat.le_of_ble_eq_true (by kernel_rfl)⟩
    | exact ⟨.inr ⟨by first | assumption | (rintro ⟨h1, h2⟩; contradiction), rfl⟩, Nat.le_of_ble_eq_true (by kernel_rfl)⟩
    | refine And.intro ?_ ?_
    | refine bsel_of (fun _ => ?_) (fun _ => ?_)
    | intro _)
theorem vtimeD_hk_tree (K : Value → Nat → Prop) (s o : Int) (z : Bool) :
    funcK (env rulesV1) 30 37 [timeC s z o] tabs Tryz.prog.globals.size (fun u _ _ mw => K u mw) =
  ((timeOk s z o →
 K (Value.agg (Array.mk [Value.iface (157 : Nat) (Value.agg (Array.mk [Value.int IntKind.i64 s, Value.bool z, Value.int IntKind.i64 o]))])) (11 : Nat)) ∧
 (¬timeOk s z o → K (Value.agg (Array.mk [Value.nilIface])) (11 : Nat))) := by kernel_rfl
theorem vtimeD_hk (s o : Int) (z : Bool)  : ReckE (env rulesV1) 30 37 [timeC s z o] (isVTime s z o) := by
  constructor
  rw [vtimeD_hk_tree fun u mw => (isVTime s z o) u ∧ Tryz.prog.globals.size ≤ mw]
  repeat' (first
    | exact ⟨.inl ⟨by first | assumption | (constructor <;> assumption), rfl⟩, Nat.le_of_ble_eq_true (by kernel_rfl)⟩
    | exact ⟨.inr ⟨by first | assumption | (rintro ⟨h1, h2⟩; contradiction), rfl⟩, Nat.le_of_ble_eq_true (by kernel_rfl)⟩
    | refine And.intro ?_ ?_
    | refine bsel_of (fun _ => ?_) (fun _ => ?_)
    | intro _)
theorem vdaysD_hk_tree (K : Value → Nat → Prop) (n : Int) :
    funcK (env rulesV1) 30 13 [.int .i64 n] tabs Tryz.prog.globals.size (fun u _ _ mw => K u mw) =
  (bsel (decide (n ≥ (-9007199254740992 : Int)))
 (bsel (decide (n ≤ (9007199254740992 : Int))) (K (Value.agg (Array.mk [Value.iface (125 : Nat) (Value.int IntKind.i64 n)])) (10 : Nat))
 (K (Value.agg (Array.mk [Value.nilIface])) (10 : Nat)))
 (K (Value.agg (Array.mk [Value.nilIface])) (10 : Nat))) := by kernel_rfl
theorem vdaysD_hk (n : Int)  : ReckE (env rulesV1) 30 13 [.int .i64 n] (isVDays n) := by
  constructor
  rw [vdaysD_hk_tree fun u mw => (isVDays n) u ∧ Tryz.prog.globals.size ≤ mw]
  repeat' (refine bsel_of (fun _ => ?_) (fun _ => ?_))
  all_goals first
    | exact ⟨.inl ⟨by grind [spanOk], rfl⟩, Nat.le_of_ble_eq_true (by kernel_rfl)⟩
    | exact ⟨.inr ⟨by grind [spanOk], rfl⟩, Nat.le_of_ble_eq_true (by kernel_rfl)⟩
    | (exfalso; grind)
theorem vmonthsD_hk_tree (K : Value → Nat → Prop) (n : Int) :
    funcK (env rulesV1) 30 14 [.int .i64 n] tabs Tryz.prog.globals.size (fun u _ _ mw => K u mw) =
  (bsel (decide (n ≥ (-9007199254740992 : Int)))
 (bsel (decide (n ≤ (9007199254740992 : Int))) (K (Value.agg (Array.mk [Value.iface (126 : Nat) (Value.int IntKind.i64 n)])) (10 : Nat))
 (K (Value.agg (Array.mk [Value.nilIface])) (10 : Nat)))
 (K (Value.agg (Array.mk [Value.nilIface])) (10 : Nat))) := by kernel_rfl
theorem vmonthsD_hk (n : Int)  : ReckE (env rulesV1) 30 14 [.int .i64 n] (isVMonths n) := by
  constructor
  rw [vmonthsD_hk_tree fun u mw => (isVMonths n) u ∧ Tryz.prog.globals.size ≤ mw]
  repeat' (refine bsel_of (fun _ => ?_) (fun _ => ?_))
  all_goals first
    | exact ⟨.inl ⟨by grind [spanOk], rfl⟩, Nat.le_of_ble_eq_true (by kernel_rfl)⟩
    | exact ⟨.inr ⟨by grind [spanOk], rfl⟩, Nat.le_of_ble_eq_true (by kernel_rfl)⟩
    | (exfalso; grind)

/-- Of a kind or null: told apart; and not told apart. -/
def litK (P : Prop) (v : Value) (K : Value → Prop) : Prop := (P → K v) ∧ (¬ P → K nullV)
def opqK (P : Prop) (v : Value) (K : Value → Prop) : Prop := ∀ x, isV P v (.agg ⟨[x]⟩) → K (.agg ⟨[x]⟩)

def ruleM (k : Prop → Value → (Value → Prop) → Prop) : Rule := rule1 fun args => match args with
  | [.agg ⟨[.int .i64 y, .int .i64 m, .int .i64 d, .int .i64 s, .bool z, .int .i64 o]⟩] => some fun K => k (dateOk y m d ∧ timeOk s z o) (momentV y m d s z o) K
  | _ => none
def ruleD (k : Prop → Value → (Value → Prop) → Prop) : Rule := rule1 fun args => match args with
  | [.agg ⟨[.int .i64 y, .int .i64 m, .int .i64 d]⟩] => some fun K => k (dateOk y m d) (dateV y m d) K
  | _ => none
def ruleT (k : Prop → Value → (Value → Prop) → Prop) : Rule := rule1 fun args => match args with
  | [.agg ⟨[.int .i64 s, .bool z, .int .i64 o]⟩] => some fun K => k (timeOk s z o) (timeV s z o) K
  | _ => none
def ruleDy (k : Prop → Value → (Value → Prop) → Prop) : Rule := rule1 fun args => match args with
  | [.int .i64 n] => some fun K => k (spanOk n) (daysV n) K
  | _ => none
def ruleMo (k : Prop → Value → (Value → Prop) → Prop) : Rule := rule1 fun args => match args with
  | [.int .i64 n] => some fun K => k (spanOk n) (monthsV n) K
  | _ => none

/-- A way to tell of it. -/
def Way (k : Prop → Value → (Value → Prop) → Prop) : Prop := ∀ (P : Prop) (v : Value) (K : Value → Prop), k P (.agg ⟨[v]⟩) K → ∀ u, isV P (.agg ⟨[v]⟩) u → K u
theorem lit_way : Way litK := by
  rintro P v K ⟨h1, h2⟩ u (⟨h, rfl⟩ | ⟨h, rfl⟩)
  · exact h1 h
  · exact h2 h
theorem opq_way : Way opqK := by
  rintro P v K h u (⟨hp, rfl⟩ | ⟨hp, rfl⟩)
  · exact h v (.inl ⟨hp, rfl⟩)
  · exact h .nilIface (.inr ⟨hp, rfl⟩)

theorem mK_ok {k : Prop → Value → (Value → Prop) → Prop} (hk : Way k) (base : World) : RuleOk Tryz.prog base 36 (ruleM k) := ruleOk_of fun args T K hT hK => by
  split at hT
  · cases hT
    obtain ⟨v, hv, ht⟩ := tot_ofE (base := base) (env_ok (rulesV1_ok base)) env_loops rfl (vmomentD_hk _ _ _ _ _ _) (isV_pure (by kernel_rfl)) (pure1 (by kernel_rfl))
    exact ⟨v, hk _ _ K hK v hv, ht⟩
  · cases hT
theorem dK_ok {k : Prop → Value → (Value → Prop) → Prop} (hk : Way k) (base : World) : RuleOk Tryz.prog base 35 (ruleD k) := ruleOk_of fun args T K hT hK => by
  split at hT
  · cases hT
    obtain ⟨v, hv, ht⟩ := tot_ofE (base := base) (env_ok (rulesV1_ok base)) env_loops rfl (vdateD_hk _ _ _) (isV_pure (by kernel_rfl)) (pure1 (by kernel_rfl))
    exact ⟨v, hk _ _ K hK v hv, ht⟩
  · cases hT
theorem tK_ok {k : Prop → Value → (Value → Prop) → Prop} (hk : Way k) (base : World) : RuleOk Tryz.prog base 37 (ruleT k) := ruleOk_of fun args T K hT hK => by
  split at hT
  · cases hT
    obtain ⟨v, hv, ht⟩ := tot_ofE (base := base) (env_ok (rulesV1_ok base)) env_loops rfl (vtimeD_hk _ _ _) (isV_pure (by kernel_rfl)) (pure1 (by kernel_rfl))
    exact ⟨v, hk _ _ K hK v hv, ht⟩
  · cases hT
theorem dyK_ok {k : Prop → Value → (Value → Prop) → Prop} (hk : Way k) (base : World) : RuleOk Tryz.prog base 13 (ruleDy k) := ruleOk_of fun args T K hT hK => by
  split at hT
  · cases hT
    obtain ⟨v, hv, ht⟩ := tot_ofE (base := base) (env_ok (rulesV1_ok base)) env_loops rfl (vdaysD_hk _) (isV_pure (by kernel_rfl)) (pure1 (by kernel_rfl))
    exact ⟨v, hk _ _ K hK v hv, ht⟩
  · cases hT
theorem moK_ok {k : Prop → Value → (Value → Prop) → Prop} (hk : Way k) (base : World) : RuleOk Tryz.prog base 14 (ruleMo k) := ruleOk_of fun args T K hT hK => by
  split at hT
  · cases hT
    obtain ⟨v, hv, ht⟩ := tot_ofE (base := base) (env_ok (rulesV1_ok base)) env_loops rfl (vmonthsD_hk _) (isV_pure (by kernel_rfl)) (pure1 (by kernel_rfl))
    exact ⟨v, hk _ _ K hK v hv, ht⟩
  · cases hT

/-- The constructors' words. -/
def rulesC (k : Prop → Value → (Value → Prop) → Prop) (rs : List (Nat × Rule)) : List (Nat × Rule) :=
  (36, ruleM k) :: (35, ruleD k) :: (37, ruleT k) :: (13, ruleDy k) :: (14, ruleMo k) :: rs
theorem rulesC_ok {k : Prop → Value → (Value → Prop) → Prop} (hk : Way k) {base : World} {rs : List (Nat × Rule)} (h : ∀ x ∈ rs, RuleOk Tryz.prog base x.1 x.2) : ∀ x ∈ rulesC k rs, RuleOk Tryz.prog base x.1 x.2 :=
  List.forall_mem_cons.2 ⟨mK_ok hk base, List.forall_mem_cons.2 ⟨dK_ok hk base, List.forall_mem_cons.2 ⟨tK_ok hk base, List.forall_mem_cons.2 ⟨dyK_ok hk base, List.forall_mem_cons.2 ⟨moK_ok hk base, h⟩⟩⟩⟩⟩

/-- What is of a kind, or null, is told plainly. -/
theorem plainly_isV {base : World} (B : Begun base) {P : Prop} {v u : Value} (hv : P → Plainly base v) (h : isV P v u) : Plainly base u := by
  rcases h with ⟨hp, rfl⟩ | ⟨_, rfl⟩
  · exact hv hp
  · exact plainly_null B

def rulesAr (base : World) (op : ByteArray) (a b r : Value) : List (Nat × Rule) := (84, ruleAt [.string op, .agg ⟨[a]⟩, .agg ⟨[b]⟩] (.tuple #[.agg ⟨[r]⟩, .bool true])) :: (18, ruleSame' base) :: rules4

theorem arith_tree1 (K : Value → Nat → Prop) (base : World) (op : ByteArray) (a b w y : Value) (t : TypeId) :
    funcK (env (rulesAr base op a b (.iface t y))) 30 24 [.string op, .agg ⟨[a]⟩, .agg ⟨[b]⟩, .agg ⟨[w]⟩, .bool true] tabs Tryz.prog.globals.size (fun u _ _ mw => K u mw) =
  (Same [Value.string op, Value.agg (Array.mk [a]), Value.agg (Array.mk [b])] [Value.string op, Value.agg (Array.mk [a]), Value.agg (Array.mk [b])] ∧
 Value.iface t y = w ∧ Plainly base (Value.agg (Array.mk [Value.iface t y])) ∧ K (Value.bool Bool.true) (13 : Nat)) := by kernel_rfl
theorem arith_tree2 (K : Value → Nat → Prop) (base : World) (op : ByteArray) (a b w y : Value) (t : TypeId) :
    funcK (env (rulesAr base op a b (.nilIface))) 30 24 [.string op, .agg ⟨[a]⟩, .agg ⟨[b]⟩, .agg ⟨[w]⟩, .bool true] tabs Tryz.prog.globals.size (fun u _ _ mw => K u mw) =
  (Same [Value.string op, Value.agg (Array.mk [a]), Value.agg (Array.mk [b])] [Value.string op, Value.agg (Array.mk [a]), Value.agg (Array.mk [b])] ∧
 Value.nilIface = w ∧ Plainly base (Value.agg (Array.mk [Value.nilIface])) ∧ K (Value.bool Bool.true) (13 : Nat)) := by kernel_rfl
theorem arith_tree3 (K : Value → Nat → Prop) (base : World) (op : ByteArray) (a b w y : Value) (t : TypeId) :
    funcK (env (rulesAr base op a b (.nilIface))) 30 24 [.string op, .agg ⟨[a]⟩, .agg ⟨[b]⟩, .agg ⟨[w]⟩, .bool false] tabs Tryz.prog.globals.size (fun u _ _ mw => K u mw) =
  (Same [Value.string op, Value.agg (Array.mk [a]), Value.agg (Array.mk [b])] [Value.string op, Value.agg (Array.mk [a]), Value.agg (Array.mk [b])] ∧
 Value.nilIface = Value.nilIface ∧ Plainly base (Value.agg (Array.mk [Value.nilIface])) ∧ K (Value.bool Bool.true) (12 : Nat)) := by kernel_rfl

/-- A value's inner part: nothing, or something of a type. -/
def inner (r : Value) : Prop := r = .nilIface ∨ ∃ t y, r = .iface t y

theorem arith_hk {base : World} {op : ByteArray} {a b w r : Value} {ok : Bool} (hr : Value.agg ⟨[r]⟩ = if ok = true then .agg ⟨[w]⟩ else nullV) (hi : inner r) (hp : Plainly base (.agg ⟨[r]⟩)) :
    ReckE (env (rulesAr base op a b r)) 30 24 [.string op, .agg ⟨[a]⟩, .agg ⟨[b]⟩, .agg ⟨[w]⟩, .bool ok] (· = .bool true) := by
  cases ok
  · constructor
    have e : r = .nilIface := by simpa [nullV] using hr
    subst e
    rw [arith_tree3 (fun u mw => u = .bool true ∧ Tryz.prog.globals.size ≤ mw) base op a b w .nilIface 0]
    repeat' (first
      | exact ⟨rfl, Nat.le_of_ble_eq_true (by kernel_rfl)⟩
      | exact hp
      | exact rfl
      | refine And.intro ?_ ?_)
  · have e : r = w := by simpa using hr
    subst e
    rcases hi with rfl | ⟨t, y, rfl⟩
    · constructor
      rw [arith_tree2 (fun u mw => u = .bool true ∧ Tryz.prog.globals.size ≤ mw) base op a b .nilIface .nilIface 0]
      repeat' (first
        | exact ⟨rfl, Nat.le_of_ble_eq_true (by kernel_rfl)⟩
        | exact hp
        | exact rfl
        | refine And.intro ?_ ?_)
    · constructor
      rw [arith_tree1 (fun u mw => u = .bool true ∧ Tryz.prog.globals.size ≤ mw) base op a b (.iface t y) y t]
      repeat' (first
        | exact ⟨rfl, Nat.le_of_ble_eq_true (by kernel_rfl)⟩
        | exact hp
        | exact rfl
        | refine And.intro ?_ ?_)

/-- A law's 'arith' is true. -/
theorem arith_tot {base : World} {op : ByteArray} {a b w r : Value} {ok : Bool} (hA : Tot base 84 [.string op, .agg ⟨[a]⟩, .agg ⟨[b]⟩] (.tuple #[.agg ⟨[r]⟩, .bool true]))
    (hr : Value.agg ⟨[r]⟩ = if ok = true then .agg ⟨[w]⟩ else nullV) (hi : inner r) (hp : Plainly base (.agg ⟨[r]⟩)) (pa : pureV 6 (.agg ⟨[a]⟩) = true) (pb : pureV 6 (.agg ⟨[b]⟩) = true) (pw : pureV 6 (.agg ⟨[w]⟩) = true) :
    Tot base 24 [.string op, .agg ⟨[a]⟩, .agg ⟨[b]⟩, .agg ⟨[w]⟩, .bool ok] (.bool true) :=
  tot_lit (List.forall_mem_cons.2 ⟨ruleOk_at hA, List.forall_mem_cons.2 ⟨same_ok base, rules4_ok base⟩⟩) (arith_hk hr hi hp) (by kernel_rfl) (List.forall_mem_cons.2 ⟨by kernel_rfl, List.forall_mem_cons.2 ⟨pa, List.forall_mem_cons.2 ⟨pb, List.forall_mem_cons.2 ⟨pw, List.forall_mem_cons.2 ⟨by kernel_rfl, fun _ h => by cases h⟩⟩⟩⟩⟩)

end Go.Proofs.YtdbjbmdaekgbhaaGreatDoor
