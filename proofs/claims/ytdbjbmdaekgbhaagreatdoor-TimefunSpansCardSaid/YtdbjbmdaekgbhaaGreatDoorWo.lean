/-
  What 'timefun.Arith' comes to of durations and numbers, by what the layers below come to.
-/
import Derived.Test.YtdbjbmdaekgbhaaGreatDoorWn
namespace Go.Proofs.YtdbjbmdaekgbhaaGreatDoor
open Go Go.Pe Go.RowKit

def sAdd : ByteArray := ⟨#[43]⟩
def sSub : ByteArray := ⟨#[45]⟩
def sMul : ByteArray := ⟨#[42]⟩
def sDiv : ByteArray := ⟨#[47]⟩
def addOk (n m : Int) : Prop := spanOk n ∧ spanOk m ∧ spanOk (IntKind.wrap .i64 (n + m))
def addRes (n m : Int) (u : Value) : Prop := (addOk n m ∧ u = .tuple #[.int .i64 (IntKind.wrap .i64 (n + m)), .bool true]) ∨ (¬ addOk n m ∧ u = .tuple #[.int .i64 0, .bool false])
theorem sadd_hk_tree (K : Value → Nat → Prop) (n m : Int) :
    funcK (envW [] []) 30 20 [.int .i64 n, .int .i64 m] [] Tryz.prog.globals.size (fun u _ _ mw => K u mw) =
  (bsel (decide (n ≥ (-9007199254740992 : Int)))
 (bsel (decide (n ≤ (9007199254740992 : Int)))
 (bsel (decide (m ≥ (-9007199254740992 : Int)))
 (bsel (decide (m ≤ (9007199254740992 : Int)))
 (bsel (decide (IntKind.wrap IntKind.i64 (n + m) ≥ (-9007199254740992 : Int)))
 (bsel (decide (IntKind.wrap IntKind.i64 (n + m) ≤ (9007199254740992 : Int)))
 (K (Value.tuple (Array.mk [Value.int IntKind.i64 (IntKind.wrap IntKind.i64 (n + m)), Value.bool Bool.true])) (18446744073709551616 : Nat))
 (K (Value.tuple (Array.mk [Value.int IntKind.i64 (Int.ofNat (0 : Nat)), Value.bool Bool.false])) (18446744073709551616 : Nat)))
 (K (Value.tuple (Array.mk [Value.int IntKind.i64 (Int.ofNat (0 : Nat)), Value.bool Bool.false])) (18446744073709551616 : Nat)))
 (K (Value.tuple (Array.mk [Value.int IntKind.i64 (Int.ofNat (0 : Nat)), Value.bool Bool.false])) (18446744073709551616 : Nat)))
 (K (Value.tuple (Array.mk [Value.int IntKind.i64 (Int.ofNat (0 : Nat)), Value.bool Bool.false])) (18446744073709551616 : Nat)))
 (K (Value.tuple (Array.mk [Value.int IntKind.i64 (Int.ofNat (0 : Nat)), Value.bool Bool.false])) (18446744073709551616 : Nat)))
 (K (Value.tuple (Array.mk [Value.int IntKind.i64 (Int.ofNat (0 : Nat)), Value.bool Bool.false])) (18446744073709551616 : Nat))) := by kernel_rfl
theorem sadd_hk (n m : Int)  : ReckA (envW [] []) 30 20 [.int .i64 n, .int .i64 m] (addRes n m) := by
  constructor
  rw [sadd_hk_tree fun u mw => (addRes n m) u ∧ Tryz.prog.globals.size ≤ mw]
  repeat' (refine bsel_of (fun _ => ?_) (fun _ => ?_))
  all_goals simp only [decide_eq_true_eq, decide_eq_false_iff_not] at *
  all_goals first
    | exact ⟨.inl ⟨by unfold addOk spanOk; omega, rfl⟩, Nat.le_of_ble_eq_true (by kernel_rfl)⟩
    | exact ⟨.inr ⟨by unfold addOk spanOk; omega, rfl⟩, Nat.le_of_ble_eq_true (by kernel_rfl)⟩
def ruleSAdd : Rule := ruleA fun args => match args with
  | [.int .i64 n, .int .i64 m] => some fun K => (addOk n m → K (.tuple #[.int .i64 (IntKind.wrap .i64 (n + m)), .bool true])) ∧ (¬ addOk n m → K (.tuple #[.int .i64 0, .bool false]))
  | _ => none
theorem sadd_ok {base : World} : RuleOk Tryz.prog base 20 ruleSAdd := ruleOkA fun args T K hT hK => by
  split at hT
  · cases hT
    rename_i n m
    obtain ⟨v, hv, ht⟩ := totA_of (base := base) (envW_ok (rules := []) fun _ h => nomatch h) (findL_ok (l := []) rfl fun _ h => nomatch h) rfl (sadd_hk n m) (fun v hv => by rcases hv with ⟨_, rfl⟩ | ⟨_, rfl⟩ <;> kernel_rfl) (List.forall_mem_cons.2 ⟨by kernel_rfl, List.forall_mem_cons.2 ⟨by kernel_rfl, fun _ h => nomatch h⟩⟩)
    rcases hv with ⟨h, rfl⟩ | ⟨h, rfl⟩
    · exact ⟨_, hK.1 h, ht⟩
    · exact ⟨_, hK.2 h, ht⟩
  · cases hT
def rulesKa : List (Nat × Rule) := rulesC litK ((20, ruleSAdd) :: rules4)
theorem rulesKa_ok (base : World) : ∀ x ∈ rulesKa, RuleOk Tryz.prog base x.1 x.2 := rulesC_ok lit_way (List.forall_mem_cons.2 ⟨sadd_ok, rules4_ok base⟩)
def rulesXa (f : Nat) (xs : List Value) (v : Value) : List (Nat × Rule) := (f, ruleAt xs v) :: rulesKa
theorem rulesXa_ok {base : World} {f : Nat} {xs : List Value} {v : Value} (h : Tot base f xs v) : ∀ x ∈ rulesXa f xs v, RuleOk Tryz.prog base x.1 x.2 := List.forall_mem_cons.2 ⟨ruleOk_at h, rulesKa_ok base⟩
def rulesYa (f : Nat) (xs : List Value) (v : Value) (g : Nat) (ys : List Value) (w : Value) : List (Nat × Rule) := (g, ruleAt ys w) :: rulesXa f xs v
theorem rulesYa_ok {base : World} {f : Nat} {xs : List Value} {v : Value} {g : Nat} {ys : List Value} {w : Value} (h : Tot base f xs v) (k : Tot base g ys w) : ∀ x ∈ rulesYa f xs v g ys w, RuleOk Tryz.prog base x.1 x.2 := List.forall_mem_cons.2 ⟨ruleOk_at k, rulesXa_ok h⟩

theorem xOne {n : Int} (h : spanOk n) : IntKind.wrap .i64 (1 * n) = n := by
  unfold spanOk at h
  rw [Int.one_mul]
  exact wrap_i64 _ (by unfold rng; omega)
theorem xNeg {n : Int} (h : spanOk n) : IntKind.wrap .i64 (-1 * n) = -n := by
  unfold spanOk at h
  rw [Int.neg_one_mul]
  exact wrap_i64 _ (by unfold rng; omega)
theorem xAdd {n m : Int} (h : spanOk n) (k : spanOk m) : IntKind.wrap .i64 (n + m) = n + m := by
  unfold spanOk at h k
  exact wrap_i64 _ (by unfold rng; omega)
theorem xSub {n m : Int} (h : spanOk n) (k : spanOk m) : IntKind.wrap .i64 (n + -m) = n + -m := by
  unfold spanOk at h k
  exact wrap_i64 _ (by unfold rng; omega)

theorem sAddT_tree (K : Value → Nat → Prop) (base : World) (n m : Int) :
    funcK (env (rulesKa)) 30 84 [.string sAdd, daysV n, daysV m] tabs Tryz.prog.globals.size (fun u _ _ mw => K u mw) =
  ((addOk n (IntKind.wrap IntKind.i64 ((1 : Int) * m)) →
 (spanOk (IntKind.wrap IntKind.i64 (n + IntKind.wrap IntKind.i64 ((1 : Int) * m))) →
 K
 (Value.tuple
 (Array.mk
 [Value.agg (Array.mk [Value.iface (125 : Nat) (Value.int IntKind.i64 (IntKind.wrap IntKind.i64 (n + IntKind.wrap IntKind.i64 ((1 : Int) * m))))]),
 Value.bool Bool.true]))
 (12 : Nat)) ∧
 (¬spanOk (IntKind.wrap IntKind.i64 (n + IntKind.wrap IntKind.i64 ((1 : Int) * m))) →
 (addOk m (IntKind.wrap IntKind.i64 ((1 : Int) * n)) →
 (spanOk (IntKind.wrap IntKind.i64 (m + IntKind.wrap IntKind.i64 ((1 : Int) * n))) →
 K
 (Value.tuple
 (Array.mk
 [Value.agg (Array.mk [Value.iface (125 : Nat) (Value.int IntKind.i64 (IntKind.wrap IntKind.i64 (m + IntKind.wrap IntKind.i64 ((1 : Int) * n))))]),
 Value.bool Bool.true]))
 (12 : Nat)) ∧
 (¬spanOk (IntKind.wrap IntKind.i64 (m + IntKind.wrap IntKind.i64 ((1 : Int) * n))) →
 K (Value.tuple (Array.mk [Value.agg (Array.mk [Value.nilIface]), Value.bool Bool.true])) (12 : Nat))) ∧
 (¬addOk m (IntKind.wrap IntKind.i64 ((1 : Int) * n)) →
 (spanOk (Int.ofNat (0 : Nat)) → K (Value.tuple (Array.mk [Value.agg (Array.mk [Value.nilIface]), Value.bool Bool.true])) (12 : Nat)) ∧
 (¬spanOk (Int.ofNat (0 : Nat)) → K (Value.tuple (Array.mk [Value.agg (Array.mk [Value.nilIface]), Value.bool Bool.true])) (12 : Nat))))) ∧
 (¬addOk n (IntKind.wrap IntKind.i64 ((1 : Int) * m)) →
 (spanOk (Int.ofNat (0 : Nat)) →
 (addOk m (IntKind.wrap IntKind.i64 ((1 : Int) * n)) →
 (spanOk (IntKind.wrap IntKind.i64 (m + IntKind.wrap IntKind.i64 ((1 : Int) * n))) →
 K
 (Value.tuple
 (Array.mk
 [Value.agg (Array.mk [Value.iface (125 : Nat) (Value.int IntKind.i64 (IntKind.wrap IntKind.i64 (m + IntKind.wrap IntKind.i64 ((1 : Int) * n))))]),
 Value.bool Bool.true]))
 (12 : Nat)) ∧
 (¬spanOk (IntKind.wrap IntKind.i64 (m + IntKind.wrap IntKind.i64 ((1 : Int) * n))) →
 K (Value.tuple (Array.mk [Value.agg (Array.mk [Value.nilIface]), Value.bool Bool.true])) (12 : Nat))) ∧
 (¬addOk m (IntKind.wrap IntKind.i64 ((1 : Int) * n)) →
 (spanOk (Int.ofNat (0 : Nat)) → K (Value.tuple (Array.mk [Value.agg (Array.mk [Value.nilIface]), Value.bool Bool.true])) (12 : Nat)) ∧
 (¬spanOk (Int.ofNat (0 : Nat)) → K (Value.tuple (Array.mk [Value.agg (Array.mk [Value.nilIface]), Value.bool Bool.true])) (12 : Nat)))) ∧
 (¬spanOk (Int.ofNat (0 : Nat)) →
 (addOk m (IntKind.wrap IntKind.i64 ((1 : Int) * n)) →
 (spanOk (IntKind.wrap IntKind.i64 (m + IntKind.wrap IntKind.i64 ((1 : Int) * n))) →
 K
 (Value.tuple
 (Array.mk
 [Value.agg (Array.mk [Value.iface (125 : Nat) (Value.int IntKind.i64 (IntKind.wrap IntKind.i64 (m + IntKind.wrap IntKind.i64 ((1 : Int) * n))))]),
 Value.bool Bool.true]))
 (12 : Nat)) ∧
 (¬spanOk (IntKind.wrap IntKind.i64 (m + IntKind.wrap IntKind.i64 ((1 : Int) * n))) →
 K (Value.tuple (Array.mk [Value.agg (Array.mk [Value.nilIface]), Value.bool Bool.true])) (12 : Nat))) ∧
 (¬addOk m (IntKind.wrap IntKind.i64 ((1 : Int) * n)) →
 (spanOk (Int.ofNat (0 : Nat)) → K (Value.tuple (Array.mk [Value.agg (Array.mk [Value.nilIface]), Value.bool Bool.true])) (12 : Nat)) ∧
 (¬spanOk (Int.ofNat (0 : Nat)) → K (Value.tuple (Array.mk [Value.agg (Array.mk [Value.nilIface]), Value.bool Bool.true])) (12 : Nat)))))) := by kernel_rfl
theorem sAddT_hk (base : World) (n m : Int) (hn : spanOk n) (hm : spanOk m) (h : spanOk (n + m)) : ReckE (env (rulesKa)) 30 84 [.string sAdd, daysV n, daysV m] ((· = .tuple #[daysV (n + m), .bool true])) := by
  constructor
  rw [sAddT_tree fun u mw => u = .tuple #[daysV (n + m), .bool true] ∧ Tryz.prog.globals.size ≤ mw]
  have w1 := xAdd hn hm
  have w2 := xAdd hm hn
  try simp only [xOne hn, xOne hm, xAdd hn hm, xAdd hm hn]
  repeat' (first
    | exact ⟨rfl, Nat.le_of_ble_eq_true (by kernel_rfl)⟩
    | exact rfl
    | assumption
    | refine And.intro ?_ ?_
    | refine bsel_of (fun _ => ?_) (fun _ => ?_)
    | intro _)
  all_goals (exfalso; first | contradiction | (simp_all; done) | (simp only [addOk, spanOk, decide_eq_true_eq, decide_eq_false_iff_not, ge_iff_le, Bool.and_eq_true] at *; omega))
theorem sAddT  (base : World) (n m : Int) (hn : spanOk n) (hm : spanOk m) (h : spanOk (n + m)) : Tot base 84 [.string sAdd, daysV n, daysV m] (.tuple #[daysV (n + m), .bool true]) := tot_lit (rulesKa_ok base) (sAddT_hk base n m hn hm h) (by kernel_rfl) (by repeat' (first | refine List.forall_mem_cons.2 ⟨?_, ?_⟩ | exact (fun _ h => nomatch h) | assumption | kernel_rfl))
theorem sAddF_tree (K : Value → Nat → Prop) (base : World) (n m : Int) :
    funcK (env (rulesKa)) 30 84 [.string sAdd, daysV n, daysV m] tabs Tryz.prog.globals.size (fun u _ _ mw => K u mw) =
  ((addOk n (IntKind.wrap IntKind.i64 ((1 : Int) * m)) →
 (spanOk (IntKind.wrap IntKind.i64 (n + IntKind.wrap IntKind.i64 ((1 : Int) * m))) →
 K
 (Value.tuple
 (Array.mk
 [Value.agg (Array.mk [Value.iface (125 : Nat) (Value.int IntKind.i64 (IntKind.wrap IntKind.i64 (n + IntKind.wrap IntKind.i64 ((1 : Int) * m))))]),
 Value.bool Bool.true]))
 (12 : Nat)) ∧
 (¬spanOk (IntKind.wrap IntKind.i64 (n + IntKind.wrap IntKind.i64 ((1 : Int) * m))) →
 (addOk m (IntKind.wrap IntKind.i64 ((1 : Int) * n)) →
 (spanOk (IntKind.wrap IntKind.i64 (m + IntKind.wrap IntKind.i64 ((1 : Int) * n))) →
 K
 (Value.tuple
 (Array.mk
 [Value.agg (Array.mk [Value.iface (125 : Nat) (Value.int IntKind.i64 (IntKind.wrap IntKind.i64 (m + IntKind.wrap IntKind.i64 ((1 : Int) * n))))]),
 Value.bool Bool.true]))
 (12 : Nat)) ∧
 (¬spanOk (IntKind.wrap IntKind.i64 (m + IntKind.wrap IntKind.i64 ((1 : Int) * n))) →
 K (Value.tuple (Array.mk [Value.agg (Array.mk [Value.nilIface]), Value.bool Bool.true])) (12 : Nat))) ∧
 (¬addOk m (IntKind.wrap IntKind.i64 ((1 : Int) * n)) →
 (spanOk (Int.ofNat (0 : Nat)) → K (Value.tuple (Array.mk [Value.agg (Array.mk [Value.nilIface]), Value.bool Bool.true])) (12 : Nat)) ∧
 (¬spanOk (Int.ofNat (0 : Nat)) → K (Value.tuple (Array.mk [Value.agg (Array.mk [Value.nilIface]), Value.bool Bool.true])) (12 : Nat))))) ∧
 (¬addOk n (IntKind.wrap IntKind.i64 ((1 : Int) * m)) →
 (spanOk (Int.ofNat (0 : Nat)) →
 (addOk m (IntKind.wrap IntKind.i64 ((1 : Int) * n)) →
 (spanOk (IntKind.wrap IntKind.i64 (m + IntKind.wrap IntKind.i64 ((1 : Int) * n))) →
 K
 (Value.tuple
 (Array.mk
 [Value.agg (Array.mk [Value.iface (125 : Nat) (Value.int IntKind.i64 (IntKind.wrap IntKind.i64 (m + IntKind.wrap IntKind.i64 ((1 : Int) * n))))]),
 Value.bool Bool.true]))
 (12 : Nat)) ∧
 (¬spanOk (IntKind.wrap IntKind.i64 (m + IntKind.wrap IntKind.i64 ((1 : Int) * n))) →
 K (Value.tuple (Array.mk [Value.agg (Array.mk [Value.nilIface]), Value.bool Bool.true])) (12 : Nat))) ∧
 (¬addOk m (IntKind.wrap IntKind.i64 ((1 : Int) * n)) →
 (spanOk (Int.ofNat (0 : Nat)) → K (Value.tuple (Array.mk [Value.agg (Array.mk [Value.nilIface]), Value.bool Bool.true])) (12 : Nat)) ∧
 (¬spanOk (Int.ofNat (0 : Nat)) → K (Value.tuple (Array.mk [Value.agg (Array.mk [Value.nilIface]), Value.bool Bool.true])) (12 : Nat)))) ∧
 (¬spanOk (Int.ofNat (0 : Nat)) →
 (addOk m (IntKind.wrap IntKind.i64 ((1 : Int) * n)) →
 (spanOk (IntKind.wrap IntKind.i64 (m + IntKind.wrap IntKind.i64 ((1 : Int) * n))) →
 K
 (Value.tuple
 (Array.mk
 [Value.agg (Array.mk [Value.iface (125 : Nat) (Value.int IntKind.i64 (IntKind.wrap IntKind.i64 (m + IntKind.wrap IntKind.i64 ((1 : Int) * n))))]),
 Value.bool Bool.true]))
 (12 : Nat)) ∧
 (¬spanOk (IntKind.wrap IntKind.i64 (m + IntKind.wrap IntKind.i64 ((1 : Int) * n))) →
 K (Value.tuple (Array.mk [Value.agg (Array.mk [Value.nilIface]), Value.bool Bool.true])) (12 : Nat))) ∧
 (¬addOk m (IntKind.wrap IntKind.i64 ((1 : Int) * n)) →
 (spanOk (Int.ofNat (0 : Nat)) → K (Value.tuple (Array.mk [Value.agg (Array.mk [Value.nilIface]), Value.bool Bool.true])) (12 : Nat)) ∧
 (¬spanOk (Int.ofNat (0 : Nat)) → K (Value.tuple (Array.mk [Value.agg (Array.mk [Value.nilIface]), Value.bool Bool.true])) (12 : Nat)))))) := by kernel_rfl
theorem sAddF_hk (base : World) (n m : Int) (hn : spanOk n) (hm : spanOk m) (h : ¬ spanOk (n + m)) : ReckE (env (rulesKa)) 30 84 [.string sAdd, daysV n, daysV m] ((· = .tuple #[nullV, .bool true])) := by
  constructor
  rw [sAddF_tree fun u mw => u = .tuple #[nullV, .bool true] ∧ Tryz.prog.globals.size ≤ mw]
  have w1 := xAdd hn hm
  have w2 := xAdd hm hn
  try simp only [xOne hn, xOne hm, xAdd hn hm, xAdd hm hn]
  repeat' (first
    | exact ⟨rfl, Nat.le_of_ble_eq_true (by kernel_rfl)⟩
    | exact rfl
    | assumption
    | refine And.intro ?_ ?_
    | refine bsel_of (fun _ => ?_) (fun _ => ?_)
    | intro _)
  all_goals (exfalso; first | contradiction | (simp_all; done) | (simp only [addOk, spanOk, decide_eq_true_eq, decide_eq_false_iff_not, ge_iff_le, Bool.and_eq_true] at *; omega))
theorem sAddF  (base : World) (n m : Int) (hn : spanOk n) (hm : spanOk m) (h : ¬ spanOk (n + m)) : Tot base 84 [.string sAdd, daysV n, daysV m] (.tuple #[nullV, .bool true]) := tot_lit (rulesKa_ok base) (sAddF_hk base n m hn hm h) (by kernel_rfl) (by repeat' (first | refine List.forall_mem_cons.2 ⟨?_, ?_⟩ | exact (fun _ h => nomatch h) | assumption | kernel_rfl))
theorem mAddT_tree (K : Value → Nat → Prop) (base : World) (n m : Int) :
    funcK (env (rulesKa)) 30 84 [.string sAdd, monthsV n, monthsV m] tabs Tryz.prog.globals.size (fun u _ _ mw => K u mw) =
  ((addOk n (IntKind.wrap IntKind.i64 ((1 : Int) * m)) →
 (spanOk (IntKind.wrap IntKind.i64 (n + IntKind.wrap IntKind.i64 ((1 : Int) * m))) →
 K
 (Value.tuple
 (Array.mk
 [Value.agg (Array.mk [Value.iface (126 : Nat) (Value.int IntKind.i64 (IntKind.wrap IntKind.i64 (n + IntKind.wrap IntKind.i64 ((1 : Int) * m))))]),
 Value.bool Bool.true]))
 (12 : Nat)) ∧
 (¬spanOk (IntKind.wrap IntKind.i64 (n + IntKind.wrap IntKind.i64 ((1 : Int) * m))) →
 (addOk m (IntKind.wrap IntKind.i64 ((1 : Int) * n)) →
 (spanOk (IntKind.wrap IntKind.i64 (m + IntKind.wrap IntKind.i64 ((1 : Int) * n))) →
 K
 (Value.tuple
 (Array.mk
 [Value.agg (Array.mk [Value.iface (126 : Nat) (Value.int IntKind.i64 (IntKind.wrap IntKind.i64 (m + IntKind.wrap IntKind.i64 ((1 : Int) * n))))]),
 Value.bool Bool.true]))
 (12 : Nat)) ∧
 (¬spanOk (IntKind.wrap IntKind.i64 (m + IntKind.wrap IntKind.i64 ((1 : Int) * n))) →
 K (Value.tuple (Array.mk [Value.agg (Array.mk [Value.nilIface]), Value.bool Bool.true])) (12 : Nat))) ∧
 (¬addOk m (IntKind.wrap IntKind.i64 ((1 : Int) * n)) →
 (spanOk (Int.ofNat (0 : Nat)) → K (Value.tuple (Array.mk [Value.agg (Array.mk [Value.nilIface]), Value.bool Bool.true])) (12 : Nat)) ∧
 (¬spanOk (Int.ofNat (0 : Nat)) → K (Value.tuple (Array.mk [Value.agg (Array.mk [Value.nilIface]), Value.bool Bool.true])) (12 : Nat))))) ∧
 (¬addOk n (IntKind.wrap IntKind.i64 ((1 : Int) * m)) →
 (spanOk (Int.ofNat (0 : Nat)) →
 (addOk m (IntKind.wrap IntKind.i64 ((1 : Int) * n)) →
 (spanOk (IntKind.wrap IntKind.i64 (m + IntKind.wrap IntKind.i64 ((1 : Int) * n))) →
 K
 (Value.tuple
 (Array.mk
 [Value.agg (Array.mk [Value.iface (126 : Nat) (Value.int IntKind.i64 (IntKind.wrap IntKind.i64 (m + IntKind.wrap IntKind.i64 ((1 : Int) * n))))]),
 Value.bool Bool.true]))
 (12 : Nat)) ∧
 (¬spanOk (IntKind.wrap IntKind.i64 (m + IntKind.wrap IntKind.i64 ((1 : Int) * n))) →
 K (Value.tuple (Array.mk [Value.agg (Array.mk [Value.nilIface]), Value.bool Bool.true])) (12 : Nat))) ∧
 (¬addOk m (IntKind.wrap IntKind.i64 ((1 : Int) * n)) →
 (spanOk (Int.ofNat (0 : Nat)) → K (Value.tuple (Array.mk [Value.agg (Array.mk [Value.nilIface]), Value.bool Bool.true])) (12 : Nat)) ∧
 (¬spanOk (Int.ofNat (0 : Nat)) → K (Value.tuple (Array.mk [Value.agg (Array.mk [Value.nilIface]), Value.bool Bool.true])) (12 : Nat)))) ∧
 (¬spanOk (Int.ofNat (0 : Nat)) →
 (addOk m (IntKind.wrap IntKind.i64 ((1 : Int) * n)) →
 (spanOk (IntKind.wrap IntKind.i64 (m + IntKind.wrap IntKind.i64 ((1 : Int) * n))) →
 K
 (Value.tuple
 (Array.mk
 [Value.agg (Array.mk [Value.iface (126 : Nat) (Value.int IntKind.i64 (IntKind.wrap IntKind.i64 (m + IntKind.wrap IntKind.i64 ((1 : Int) * n))))]),
 Value.bool Bool.true]))
 (12 : Nat)) ∧
 (¬spanOk (IntKind.wrap IntKind.i64 (m + IntKind.wrap IntKind.i64 ((1 : Int) * n))) →
 K (Value.tuple (Array.mk [Value.agg (Array.mk [Value.nilIface]), Value.bool Bool.true])) (12 : Nat))) ∧
 (¬addOk m (IntKind.wrap IntKind.i64 ((1 : Int) * n)) →
 (spanOk (Int.ofNat (0 : Nat)) → K (Value.tuple (Array.mk [Value.agg (Array.mk [Value.nilIface]), Value.bool Bool.true])) (12 : Nat)) ∧
 (¬spanOk (Int.ofNat (0 : Nat)) → K (Value.tuple (Array.mk [Value.agg (Array.mk [Value.nilIface]), Value.bool Bool.true])) (12 : Nat)))))) := by kernel_rfl
theorem mAddT_hk (base : World) (n m : Int) (hn : spanOk n) (hm : spanOk m) (h : spanOk (n + m)) : ReckE (env (rulesKa)) 30 84 [.string sAdd, monthsV n, monthsV m] ((· = .tuple #[monthsV (n + m), .bool true])) := by
  constructor
  rw [mAddT_tree fun u mw => u = .tuple #[monthsV (n + m), .bool true] ∧ Tryz.prog.globals.size ≤ mw]
  have w1 := xAdd hn hm
  have w2 := xAdd hm hn
  try simp only [xOne hn, xOne hm, xAdd hn hm, xAdd hm hn]
  repeat' (first
    | exact ⟨rfl, Nat.le_of_ble_eq_true (by kernel_rfl)⟩
    | exact rfl
    | assumption
    | refine And.intro ?_ ?_
    | refine bsel_of (fun _ => ?_) (fun _ => ?_)
    | intro _)
  all_goals (exfalso; first | contradiction | (simp_all; done) | (simp only [addOk, spanOk, decide_eq_true_eq, decide_eq_false_iff_not, ge_iff_le, Bool.and_eq_true] at *; omega))
theorem mAddT  (base : World) (n m : Int) (hn : spanOk n) (hm : spanOk m) (h : spanOk (n + m)) : Tot base 84 [.string sAdd, monthsV n, monthsV m] (.tuple #[monthsV (n + m), .bool true]) := tot_lit (rulesKa_ok base) (mAddT_hk base n m hn hm h) (by kernel_rfl) (by repeat' (first | refine List.forall_mem_cons.2 ⟨?_, ?_⟩ | exact (fun _ h => nomatch h) | assumption | kernel_rfl))
theorem mAddF_tree (K : Value → Nat → Prop) (base : World) (n m : Int) :
    funcK (env (rulesKa)) 30 84 [.string sAdd, monthsV n, monthsV m] tabs Tryz.prog.globals.size (fun u _ _ mw => K u mw) =
  ((addOk n (IntKind.wrap IntKind.i64 ((1 : Int) * m)) →
 (spanOk (IntKind.wrap IntKind.i64 (n + IntKind.wrap IntKind.i64 ((1 : Int) * m))) →
 K
 (Value.tuple
 (Array.mk
 [Value.agg (Array.mk [Value.iface (126 : Nat) (Value.int IntKind.i64 (IntKind.wrap IntKind.i64 (n + IntKind.wrap IntKind.i64 ((1 : Int) * m))))]),
 Value.bool Bool.true]))
 (12 : Nat)) ∧
 (¬spanOk (IntKind.wrap IntKind.i64 (n + IntKind.wrap IntKind.i64 ((1 : Int) * m))) →
 (addOk m (IntKind.wrap IntKind.i64 ((1 : Int) * n)) →
 (spanOk (IntKind.wrap IntKind.i64 (m + IntKind.wrap IntKind.i64 ((1 : Int) * n))) →
 K
 (Value.tuple
 (Array.mk
 [Value.agg (Array.mk [Value.iface (126 : Nat) (Value.int IntKind.i64 (IntKind.wrap IntKind.i64 (m + IntKind.wrap IntKind.i64 ((1 : Int) * n))))]),
 Value.bool Bool.true]))
 (12 : Nat)) ∧
 (¬spanOk (IntKind.wrap IntKind.i64 (m + IntKind.wrap IntKind.i64 ((1 : Int) * n))) →
 K (Value.tuple (Array.mk [Value.agg (Array.mk [Value.nilIface]), Value.bool Bool.true])) (12 : Nat))) ∧
 (¬addOk m (IntKind.wrap IntKind.i64 ((1 : Int) * n)) →
 (spanOk (Int.ofNat (0 : Nat)) → K (Value.tuple (Array.mk [Value.agg (Array.mk [Value.nilIface]), Value.bool Bool.true])) (12 : Nat)) ∧
 (¬spanOk (Int.ofNat (0 : Nat)) → K (Value.tuple (Array.mk [Value.agg (Array.mk [Value.nilIface]), Value.bool Bool.true])) (12 : Nat))))) ∧
 (¬addOk n (IntKind.wrap IntKind.i64 ((1 : Int) * m)) →
 (spanOk (Int.ofNat (0 : Nat)) →
 (addOk m (IntKind.wrap IntKind.i64 ((1 : Int) * n)) →
 (spanOk (IntKind.wrap IntKind.i64 (m + IntKind.wrap IntKind.i64 ((1 : Int) * n))) →
 K
 (Value.tuple
 (Array.mk
 [Value.agg (Array.mk [Value.iface (126 : Nat) (Value.int IntKind.i64 (IntKind.wrap IntKind.i64 (m + IntKind.wrap IntKind.i64 ((1 : Int) * n))))]),
 Value.bool Bool.true]))
 (12 : Nat)) ∧
 (¬spanOk (IntKind.wrap IntKind.i64 (m + IntKind.wrap IntKind.i64 ((1 : Int) * n))) →
 K (Value.tuple (Array.mk [Value.agg (Array.mk [Value.nilIface]), Value.bool Bool.true])) (12 : Nat))) ∧
 (¬addOk m (IntKind.wrap IntKind.i64 ((1 : Int) * n)) →
 (spanOk (Int.ofNat (0 : Nat)) → K (Value.tuple (Array.mk [Value.agg (Array.mk [Value.nilIface]), Value.bool Bool.true])) (12 : Nat)) ∧
 (¬spanOk (Int.ofNat (0 : Nat)) → K (Value.tuple (Array.mk [Value.agg (Array.mk [Value.nilIface]), Value.bool Bool.true])) (12 : Nat)))) ∧
 (¬spanOk (Int.ofNat (0 : Nat)) →
 (addOk m (IntKind.wrap IntKind.i64 ((1 : Int) * n)) →
 (spanOk (IntKind.wrap IntKind.i64 (m + IntKind.wrap IntKind.i64 ((1 : Int) * n))) →
 K
 (Value.tuple
 (Array.mk
 [Value.agg (Array.mk [Value.iface (126 : Nat) (Value.int IntKind.i64 (IntKind.wrap IntKind.i64 (m + IntKind.wrap IntKind.i64 ((1 : Int) * n))))]),
 Value.bool Bool.true]))
 (12 : Nat)) ∧
 (¬spanOk (IntKind.wrap IntKind.i64 (m + IntKind.wrap IntKind.i64 ((1 : Int) * n))) →
 K (Value.tuple (Array.mk [Value.agg (Array.mk [Value.nilIface]), Value.bool Bool.true])) (12 : Nat))) ∧
 (¬addOk m (IntKind.wrap IntKind.i64 ((1 : Int) * n)) →
 (spanOk (Int.ofNat (0 : Nat)) → K (Value.tuple (Array.mk [Value.agg (Array.mk [Value.nilIface]), Value.bool Bool.true])) (12 : Nat)) ∧
 (¬spanOk (Int.ofNat (0 : Nat)) → K (Value.tuple (Array.mk [Value.agg (Array.mk [Value.nilIface]), Value.bool Bool.true])) (12 : Nat)))))) := by kernel_rfl
theorem mAddF_hk (base : World) (n m : Int) (hn : spanOk n) (hm : spanOk m) (h : ¬ spanOk (n + m)) : ReckE (env (rulesKa)) 30 84 [.string sAdd, monthsV n, monthsV m] ((· = .tuple #[nullV, .bool true])) := by
  constructor
  rw [mAddF_tree fun u mw => u = .tuple #[nullV, .bool true] ∧ Tryz.prog.globals.size ≤ mw]
  have w1 := xAdd hn hm
  have w2 := xAdd hm hn
  try simp only [xOne hn, xOne hm, xAdd hn hm, xAdd hm hn]
  repeat' (first
    | exact ⟨rfl, Nat.le_of_ble_eq_true (by kernel_rfl)⟩
    | exact rfl
    | assumption
    | refine And.intro ?_ ?_
    | refine bsel_of (fun _ => ?_) (fun _ => ?_)
    | intro _)
  all_goals (exfalso; first | contradiction | (simp_all; done) | (simp only [addOk, spanOk, decide_eq_true_eq, decide_eq_false_iff_not, ge_iff_le, Bool.and_eq_true] at *; omega))
theorem mAddF  (base : World) (n m : Int) (hn : spanOk n) (hm : spanOk m) (h : ¬ spanOk (n + m)) : Tot base 84 [.string sAdd, monthsV n, monthsV m] (.tuple #[nullV, .bool true]) := tot_lit (rulesKa_ok base) (mAddF_hk base n m hn hm h) (by kernel_rfl) (by repeat' (first | refine List.forall_mem_cons.2 ⟨?_, ?_⟩ | exact (fun _ h => nomatch h) | assumption | kernel_rfl))
theorem sSubT_tree (K : Value → Nat → Prop) (base : World) (n m : Int) :
    funcK (env (rulesKa)) 30 84 [.string sSub, daysV n, daysV m] tabs Tryz.prog.globals.size (fun u _ _ mw => K u mw) =
  ((addOk n (IntKind.wrap IntKind.i64 ((-1 : Int) * m)) →
 (spanOk (IntKind.wrap IntKind.i64 (n + IntKind.wrap IntKind.i64 ((-1 : Int) * m))) →
 K
 (Value.tuple
 (Array.mk
 [Value.agg (Array.mk [Value.iface (125 : Nat) (Value.int IntKind.i64 (IntKind.wrap IntKind.i64 (n + IntKind.wrap IntKind.i64 ((-1 : Int) * m))))]),
 Value.bool Bool.true]))
 (12 : Nat)) ∧
 (¬spanOk (IntKind.wrap IntKind.i64 (n + IntKind.wrap IntKind.i64 ((-1 : Int) * m))) →
 K (Value.tuple (Array.mk [Value.agg (Array.mk [Value.nilIface]), Value.bool Bool.true])) (12 : Nat))) ∧
 (¬addOk n (IntKind.wrap IntKind.i64 ((-1 : Int) * m)) →
 (spanOk (Int.ofNat (0 : Nat)) → K (Value.tuple (Array.mk [Value.agg (Array.mk [Value.nilIface]), Value.bool Bool.true])) (12 : Nat)) ∧
 (¬spanOk (Int.ofNat (0 : Nat)) → K (Value.tuple (Array.mk [Value.agg (Array.mk [Value.nilIface]), Value.bool Bool.true])) (12 : Nat)))) := by kernel_rfl
theorem sSubT_hk (base : World) (n m : Int) (hn : spanOk n) (hm : spanOk m) (h : spanOk (n + -m)) : ReckE (env (rulesKa)) 30 84 [.string sSub, daysV n, daysV m] ((· = .tuple #[daysV (n + -m), .bool true])) := by
  constructor
  rw [sSubT_tree fun u mw => u = .tuple #[daysV (n + -m), .bool true] ∧ Tryz.prog.globals.size ≤ mw]
  have w1 := xSub hn hm
  have w2 := xSub hm hn
  try simp only [xNeg hn, xNeg hm, xSub hn hm, xSub hm hn]
  repeat' (first
    | exact ⟨rfl, Nat.le_of_ble_eq_true (by kernel_rfl)⟩
    | exact rfl
    | assumption
    | refine And.intro ?_ ?_
    | refine bsel_of (fun _ => ?_) (fun _ => ?_)
    | intro _)
  all_goals (exfalso; first | contradiction | (simp_all; done) | (simp only [addOk, spanOk, decide_eq_true_eq, decide_eq_false_iff_not, ge_iff_le, Bool.and_eq_true] at *; omega))
theorem sSubT  (base : World) (n m : Int) (hn : spanOk n) (hm : spanOk m) (h : spanOk (n + -m)) : Tot base 84 [.string sSub, daysV n, daysV m] (.tuple #[daysV (n + -m), .bool true]) := tot_lit (rulesKa_ok base) (sSubT_hk base n m hn hm h) (by kernel_rfl) (by repeat' (first | refine List.forall_mem_cons.2 ⟨?_, ?_⟩ | exact (fun _ h => nomatch h) | assumption | kernel_rfl))
theorem sSubF_tree (K : Value → Nat → Prop) (base : World) (n m : Int) :
    funcK (env (rulesKa)) 30 84 [.string sSub, daysV n, daysV m] tabs Tryz.prog.globals.size (fun u _ _ mw => K u mw) =
  ((addOk n (IntKind.wrap IntKind.i64 ((-1 : Int) * m)) →
 (spanOk (IntKind.wrap IntKind.i64 (n + IntKind.wrap IntKind.i64 ((-1 : Int) * m))) →
 K
 (Value.tuple
 (Array.mk
 [Value.agg (Array.mk [Value.iface (125 : Nat) (Value.int IntKind.i64 (IntKind.wrap IntKind.i64 (n + IntKind.wrap IntKind.i64 ((-1 : Int) * m))))]),
 Value.bool Bool.true]))
 (12 : Nat)) ∧
 (¬spanOk (IntKind.wrap IntKind.i64 (n + IntKind.wrap IntKind.i64 ((-1 : Int) * m))) →
 K (Value.tuple (Array.mk [Value.agg (Array.mk [Value.nilIface]), Value.bool Bool.true])) (12 : Nat))) ∧
 (¬addOk n (IntKind.wrap IntKind.i64 ((-1 : Int) * m)) →
 (spanOk (Int.ofNat (0 : Nat)) → K (Value.tuple (Array.mk [Value.agg (Array.mk [Value.nilIface]), Value.bool Bool.true])) (12 : Nat)) ∧
 (¬spanOk (Int.ofNat (0 : Nat)) → K (Value.tuple (Array.mk [Value.agg (Array.mk [Value.nilIface]), Value.bool Bool.true])) (12 : Nat)))) := by kernel_rfl
theorem sSubF_hk (base : World) (n m : Int) (hn : spanOk n) (hm : spanOk m) (h : ¬ spanOk (n + -m)) : ReckE (env (rulesKa)) 30 84 [.string sSub, daysV n, daysV m] ((· = .tuple #[nullV, .bool true])) := by
  constructor
  rw [sSubF_tree fun u mw => u = .tuple #[nullV, .bool true] ∧ Tryz.prog.globals.size ≤ mw]
  have w1 := xSub hn hm
  have w2 := xSub hm hn
  try simp only [xNeg hn, xNeg hm, xSub hn hm, xSub hm hn]
  repeat' (first
    | exact ⟨rfl, Nat.le_of_ble_eq_true (by kernel_rfl)⟩
    | exact rfl
    | assumption
    | refine And.intro ?_ ?_
    | refine bsel_of (fun _ => ?_) (fun _ => ?_)
    | intro _)
  all_goals (exfalso; first | contradiction | (simp_all; done) | (simp only [addOk, spanOk, decide_eq_true_eq, decide_eq_false_iff_not, ge_iff_le, Bool.and_eq_true] at *; omega))
theorem sSubF  (base : World) (n m : Int) (hn : spanOk n) (hm : spanOk m) (h : ¬ spanOk (n + -m)) : Tot base 84 [.string sSub, daysV n, daysV m] (.tuple #[nullV, .bool true]) := tot_lit (rulesKa_ok base) (sSubF_hk base n m hn hm h) (by kernel_rfl) (by repeat' (first | refine List.forall_mem_cons.2 ⟨?_, ?_⟩ | exact (fun _ h => nomatch h) | assumption | kernel_rfl))
theorem mSubT_tree (K : Value → Nat → Prop) (base : World) (n m : Int) :
    funcK (env (rulesKa)) 30 84 [.string sSub, monthsV n, monthsV m] tabs Tryz.prog.globals.size (fun u _ _ mw => K u mw) =
  ((addOk n (IntKind.wrap IntKind.i64 ((-1 : Int) * m)) →
 (spanOk (IntKind.wrap IntKind.i64 (n + IntKind.wrap IntKind.i64 ((-1 : Int) * m))) →
 K
 (Value.tuple
 (Array.mk
 [Value.agg (Array.mk [Value.iface (126 : Nat) (Value.int IntKind.i64 (IntKind.wrap IntKind.i64 (n + IntKind.wrap IntKind.i64 ((-1 : Int) * m))))]),
 Value.bool Bool.true]))
 (12 : Nat)) ∧
 (¬spanOk (IntKind.wrap IntKind.i64 (n + IntKind.wrap IntKind.i64 ((-1 : Int) * m))) →
 K (Value.tuple (Array.mk [Value.agg (Array.mk [Value.nilIface]), Value.bool Bool.true])) (12 : Nat))) ∧
 (¬addOk n (IntKind.wrap IntKind.i64 ((-1 : Int) * m)) →
 (spanOk (Int.ofNat (0 : Nat)) → K (Value.tuple (Array.mk [Value.agg (Array.mk [Value.nilIface]), Value.bool Bool.true])) (12 : Nat)) ∧
 (¬spanOk (Int.ofNat (0 : Nat)) → K (Value.tuple (Array.mk [Value.agg (Array.mk [Value.nilIface]), Value.bool Bool.true])) (12 : Nat)))) := by kernel_rfl
theorem mSubT_hk (base : World) (n m : Int) (hn : spanOk n) (hm : spanOk m) (h : spanOk (n + -m)) : ReckE (env (rulesKa)) 30 84 [.string sSub, monthsV n, monthsV m] ((· = .tuple #[monthsV (n + -m), .bool true])) := by
  constructor
  rw [mSubT_tree fun u mw => u = .tuple #[monthsV (n + -m), .bool true] ∧ Tryz.prog.globals.size ≤ mw]
  have w1 := xSub hn hm
  have w2 := xSub hm hn
  try simp only [xNeg hn, xNeg hm, xSub hn hm, xSub hm hn]
  repeat' (first
    | exact ⟨rfl, Nat.le_of_ble_eq_true (by kernel_rfl)⟩
    | exact rfl
    | assumption
    | refine And.intro ?_ ?_
    | refine bsel_of (fun _ => ?_) (fun _ => ?_)
    | intro _)
  all_goals (exfalso; first | contradiction | (simp_all; done) | (simp only [addOk, spanOk, decide_eq_true_eq, decide_eq_false_iff_not, ge_iff_le, Bool.and_eq_true] at *; omega))
theorem mSubT  (base : World) (n m : Int) (hn : spanOk n) (hm : spanOk m) (h : spanOk (n + -m)) : Tot base 84 [.string sSub, monthsV n, monthsV m] (.tuple #[monthsV (n + -m), .bool true]) := tot_lit (rulesKa_ok base) (mSubT_hk base n m hn hm h) (by kernel_rfl) (by repeat' (first | refine List.forall_mem_cons.2 ⟨?_, ?_⟩ | exact (fun _ h => nomatch h) | assumption | kernel_rfl))
theorem mSubF_tree (K : Value → Nat → Prop) (base : World) (n m : Int) :
    funcK (env (rulesKa)) 30 84 [.string sSub, monthsV n, monthsV m] tabs Tryz.prog.globals.size (fun u _ _ mw => K u mw) =
  ((addOk n (IntKind.wrap IntKind.i64 ((-1 : Int) * m)) →
 (spanOk (IntKind.wrap IntKind.i64 (n + IntKind.wrap IntKind.i64 ((-1 : Int) * m))) →
 K
 (Value.tuple
 (Array.mk
 [Value.agg (Array.mk [Value.iface (126 : Nat) (Value.int IntKind.i64 (IntKind.wrap IntKind.i64 (n + IntKind.wrap IntKind.i64 ((-1 : Int) * m))))]),
 Value.bool Bool.true]))
 (12 : Nat)) ∧
 (¬spanOk (IntKind.wrap IntKind.i64 (n + IntKind.wrap IntKind.i64 ((-1 : Int) * m))) →
 K (Value.tuple (Array.mk [Value.agg (Array.mk [Value.nilIface]), Value.bool Bool.true])) (12 : Nat))) ∧
 (¬addOk n (IntKind.wrap IntKind.i64 ((-1 : Int) * m)) →
 (spanOk (Int.ofNat (0 : Nat)) → K (Value.tuple (Array.mk [Value.agg (Array.mk [Value.nilIface]), Value.bool Bool.true])) (12 : Nat)) ∧
 (¬spanOk (Int.ofNat (0 : Nat)) → K (Value.tuple (Array.mk [Value.agg (Array.mk [Value.nilIface]), Value.bool Bool.true])) (12 : Nat)))) := by kernel_rfl
theorem mSubF_hk (base : World) (n m : Int) (hn : spanOk n) (hm : spanOk m) (h : ¬ spanOk (n + -m)) : ReckE (env (rulesKa)) 30 84 [.string sSub, monthsV n, monthsV m] ((· = .tuple #[nullV, .bool true])) := by
  constructor
  rw [mSubF_tree fun u mw => u = .tuple #[nullV, .bool true] ∧ Tryz.prog.globals.size ≤ mw]
  have w1 := xSub hn hm
  have w2 := xSub hm hn
  try simp only [xNeg hn, xNeg hm, xSub hn hm, xSub hm hn]
  repeat' (first
    | exact ⟨rfl, Nat.le_of_ble_eq_true (by kernel_rfl)⟩
    | exact rfl
    | assumption
    | refine And.intro ?_ ?_
    | refine bsel_of (fun _ => ?_) (fun _ => ?_)
    | intro _)
  all_goals (exfalso; first | contradiction | (simp_all; done) | (simp only [addOk, spanOk, decide_eq_true_eq, decide_eq_false_iff_not, ge_iff_le, Bool.and_eq_true] at *; omega))
theorem mSubF  (base : World) (n m : Int) (hn : spanOk n) (hm : spanOk m) (h : ¬ spanOk (n + -m)) : Tot base 84 [.string sSub, monthsV n, monthsV m] (.tuple #[nullV, .bool true]) := tot_lit (rulesKa_ok base) (mSubF_hk base n m hn hm h) (by kernel_rfl) (by repeat' (first | refine List.forall_mem_cons.2 ⟨?_, ?_⟩ | exact (fun _ h => nomatch h) | assumption | kernel_rfl))
end Go.Proofs.YtdbjbmdaekgbhaaGreatDoor
