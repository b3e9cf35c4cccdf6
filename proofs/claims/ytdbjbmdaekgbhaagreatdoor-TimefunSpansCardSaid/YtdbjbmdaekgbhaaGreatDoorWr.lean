/-
  What durations have in them; the opposite of a duration; a number as a value.
-/
import Derived.Test.YtdbjbmdaekgbhaaGreatDoorWo
import Derived.Test.YtdbjbmdaekgbhaaGreatDoorFz
namespace Go.Proofs.YtdbjbmdaekgbhaaGreatDoor
open Go Go.Pe Go.RowKit

theorem rng_w (x : Int) : rng (IntKind.wrap .i64 x) := by
  have := i64_wrap x
  unfold i64 at this
  unfold rng
  omega
theorem rng_m (x : Int) {k : Int} (hk : 0 < k) (h2 : k ≤ 9223372036854775807) : rng (Int.tmod x k) := by
  have h1 := Int.lt_tmod_of_pos x hk
  have h3 := Int.tmod_lt_of_pos x hk
  unfold rng
  omega
theorem pDays_tree (K : Value → Nat → Prop) (base : World) (n : Int) :
    funcK (env (rules4)) 30 17 [daysV n, .string ⟨#[100, 97, 121, 115]⟩] tabs Tryz.prog.globals.size (fun u _ _ mw => K u mw) =
  (rng (IntKind.wrap IntKind.i64 (Int.tdiv n (86400 : Int))) ∧
 K
 (Value.agg
 (Array.mk
 [Value.iface (123 : Nat)
 (Value.agg
 (Array.mk
 [Value.bool (decide (IntKind.wrap IntKind.i64 (Int.tdiv n (86400 : Int)) < (0 : Int))), Value.int IntKind.u64 (Int.ofNat (0 : Nat)),
 Value.int IntKind.u64 (Int.ofNat (Int.natAbs (IntKind.wrap IntKind.i64 (Int.tdiv n (86400 : Int))))), Value.int IntKind.i64 (Int.ofNat (0 : Nat))]))]))
 (11 : Nat)) := by kernel_rfl
theorem pDays_hk (base : World) (n : Int)  : ReckE (env (rules4)) 30 17 [daysV n, .string ⟨#[100, 97, 121, 115]⟩] ((· = intV (IntKind.wrap .i64 (Int.tdiv n 86400)))) := by
  constructor
  rw [pDays_tree fun u mw => u = intV (IntKind.wrap .i64 (Int.tdiv n 86400)) ∧ Tryz.prog.globals.size ≤ mw]
  repeat' (first
    | exact ⟨rfl, Nat.le_of_ble_eq_true (by kernel_rfl)⟩
    | exact rfl
    | assumption
    | exact rng_w _
    | exact rng_m _ (by decide) (by decide)
    | refine And.intro ?_ ?_
    | refine bsel_of (fun _ => ?_) (fun _ => ?_)
    | intro _)
  all_goals (exfalso; first | contradiction | (simp_all; done))
theorem pDays  (base : World) (n : Int)  : Tot base 17 [daysV n, .string ⟨#[100, 97, 121, 115]⟩] (intV (IntKind.wrap .i64 (Int.tdiv n 86400))) := tot_lit (rules4_ok base) (pDays_hk base n) (by kernel_rfl) (by repeat' (first | refine List.forall_mem_cons.2 ⟨?_, ?_⟩ | exact (fun _ h => nomatch h) | assumption | kernel_rfl))
theorem pHours_tree (K : Value → Nat → Prop) (base : World) (n : Int) :
    funcK (env (rules4)) 30 17 [daysV n, .string ⟨#[104, 111, 117, 114, 115]⟩] tabs Tryz.prog.globals.size (fun u _ _ mw => K u mw) =
  (rng (IntKind.wrap IntKind.i64 (Int.tdiv (Int.tmod n (86400 : Int)) (3600 : Int))) ∧
 K
 (Value.agg
 (Array.mk
 [Value.iface (123 : Nat)
 (Value.agg
 (Array.mk
 [Value.bool (decide (IntKind.wrap IntKind.i64 (Int.tdiv (Int.tmod n (86400 : Int)) (3600 : Int)) < (0 : Int))), Value.int IntKind.u64 (Int.ofNat (0 : Nat)),
 Value.int IntKind.u64 (Int.ofNat (Int.natAbs (IntKind.wrap IntKind.i64 (Int.tdiv (Int.tmod n (86400 : Int)) (3600 : Int))))),
 Value.int IntKind.i64 (Int.ofNat (0 : Nat))]))]))
 (11 : Nat)) := by kernel_rfl
theorem pHours_hk (base : World) (n : Int)  : ReckE (env (rules4)) 30 17 [daysV n, .string ⟨#[104, 111, 117, 114, 115]⟩] ((· = intV (IntKind.wrap .i64 (Int.tdiv (Int.tmod n 86400) 3600)))) := by
  constructor
  rw [pHours_tree fun u mw => u = intV (IntKind.wrap .i64 (Int.tdiv (Int.tmod n 86400) 3600)) ∧ Tryz.prog.globals.size ≤ mw]
  repeat' (first
    | exact ⟨rfl, Nat.le_of_ble_eq_true (by kernel_rfl)⟩
    | exact rfl
    | assumption
    | exact rng_w _
    | exact rng_m _ (by decide) (by decide)
    | refine And.intro ?_ ?_
    | refine bsel_of (fun _ => ?_) (fun _ => ?_)
    | intro _)
  all_goals (exfalso; first | contradiction | (simp_all; done))
theorem pHours  (base : World) (n : Int)  : Tot base 17 [daysV n, .string ⟨#[104, 111, 117, 114, 115]⟩] (intV (IntKind.wrap .i64 (Int.tdiv (Int.tmod n 86400) 3600))) := tot_lit (rules4_ok base) (pHours_hk base n) (by kernel_rfl) (by repeat' (first | refine List.forall_mem_cons.2 ⟨?_, ?_⟩ | exact (fun _ h => nomatch h) | assumption | kernel_rfl))
theorem pMinutes_tree (K : Value → Nat → Prop) (base : World) (n : Int) :
    funcK (env (rules4)) 30 17 [daysV n, .string ⟨#[109, 105, 110, 117, 116, 101, 115]⟩] tabs Tryz.prog.globals.size (fun u _ _ mw => K u mw) =
  (rng (IntKind.wrap IntKind.i64 (Int.tdiv (Int.tmod n (3600 : Int)) (60 : Int))) ∧
 K
 (Value.agg
 (Array.mk
 [Value.iface (123 : Nat)
 (Value.agg
 (Array.mk
 [Value.bool (decide (IntKind.wrap IntKind.i64 (Int.tdiv (Int.tmod n (3600 : Int)) (60 : Int)) < (0 : Int))), Value.int IntKind.u64 (Int.ofNat (0 : Nat)),
 Value.int IntKind.u64 (Int.ofNat (Int.natAbs (IntKind.wrap IntKind.i64 (Int.tdiv (Int.tmod n (3600 : Int)) (60 : Int))))),
 Value.int IntKind.i64 (Int.ofNat (0 : Nat))]))]))
 (11 : Nat)) := by kernel_rfl
theorem pMinutes_hk (base : World) (n : Int)  : ReckE (env (rules4)) 30 17 [daysV n, .string ⟨#[109, 105, 110, 117, 116, 101, 115]⟩] ((· = intV (IntKind.wrap .i64 (Int.tdiv (Int.tmod n 3600) 60)))) := by
  constructor
  rw [pMinutes_tree fun u mw => u = intV (IntKind.wrap .i64 (Int.tdiv (Int.tmod n 3600) 60)) ∧ Tryz.prog.globals.size ≤ mw]
  repeat' (first
    | exact ⟨rfl, Nat.le_of_ble_eq_true (by kernel_rfl)⟩
    | exact rfl
    | assumption
    | exact rng_w _
    | exact rng_m _ (by decide) (by decide)
    | refine And.intro ?_ ?_
    | refine bsel_of (fun _ => ?_) (fun _ => ?_)
    | intro _)
  all_goals (exfalso; first | contradiction | (simp_all; done))
theorem pMinutes  (base : World) (n : Int)  : Tot base 17 [daysV n, .string ⟨#[109, 105, 110, 117, 116, 101, 115]⟩] (intV (IntKind.wrap .i64 (Int.tdiv (Int.tmod n 3600) 60))) := tot_lit (rules4_ok base) (pMinutes_hk base n) (by kernel_rfl) (by repeat' (first | refine List.forall_mem_cons.2 ⟨?_, ?_⟩ | exact (fun _ h => nomatch h) | assumption | kernel_rfl))
theorem pSeconds_tree (K : Value → Nat → Prop) (base : World) (n : Int) :
    funcK (env (rules4)) 30 17 [daysV n, .string ⟨#[115, 101, 99, 111, 110, 100, 115]⟩] tabs Tryz.prog.globals.size (fun u _ _ mw => K u mw) =
  (rng (Int.tmod n (60 : Int)) ∧
 K
 (Value.agg
 (Array.mk
 [Value.iface (123 : Nat)
 (Value.agg
 (Array.mk
 [Value.bool (decide (Int.tmod n (60 : Int) < (0 : Int))), Value.int IntKind.u64 (Int.ofNat (0 : Nat)),
 Value.int IntKind.u64 (Int.ofNat (Int.natAbs (Int.tmod n (60 : Int)))), Value.int IntKind.i64 (Int.ofNat (0 : Nat))]))]))
 (11 : Nat)) := by kernel_rfl
theorem pSeconds_hk (base : World) (n : Int)  : ReckE (env (rules4)) 30 17 [daysV n, .string ⟨#[115, 101, 99, 111, 110, 100, 115]⟩] ((· = intV (Int.tmod n 60))) := by
  constructor
  rw [pSeconds_tree fun u mw => u = intV (Int.tmod n 60) ∧ Tryz.prog.globals.size ≤ mw]
  repeat' (first
    | exact ⟨rfl, Nat.le_of_ble_eq_true (by kernel_rfl)⟩
    | exact rfl
    | assumption
    | exact rng_w _
    | exact rng_m _ (by decide) (by decide)
    | refine And.intro ?_ ?_
    | refine bsel_of (fun _ => ?_) (fun _ => ?_)
    | intro _)
  all_goals (exfalso; first | contradiction | (simp_all; done))
theorem pSeconds  (base : World) (n : Int)  : Tot base 17 [daysV n, .string ⟨#[115, 101, 99, 111, 110, 100, 115]⟩] (intV (Int.tmod n 60)) := tot_lit (rules4_ok base) (pSeconds_hk base n) (by kernel_rfl) (by repeat' (first | refine List.forall_mem_cons.2 ⟨?_, ?_⟩ | exact (fun _ h => nomatch h) | assumption | kernel_rfl))
theorem pYears_tree (K : Value → Nat → Prop) (base : World) (n : Int) :
    funcK (env (rules4)) 30 17 [monthsV n, .string ⟨#[121, 101, 97, 114, 115]⟩] tabs Tryz.prog.globals.size (fun u _ _ mw => K u mw) =
  (rng (IntKind.wrap IntKind.i64 (Int.tdiv n (12 : Int))) ∧
 K
 (Value.agg
 (Array.mk
 [Value.iface (123 : Nat)
 (Value.agg
 (Array.mk
 [Value.bool (decide (IntKind.wrap IntKind.i64 (Int.tdiv n (12 : Int)) < (0 : Int))), Value.int IntKind.u64 (Int.ofNat (0 : Nat)),
 Value.int IntKind.u64 (Int.ofNat (Int.natAbs (IntKind.wrap IntKind.i64 (Int.tdiv n (12 : Int))))), Value.int IntKind.i64 (Int.ofNat (0 : Nat))]))]))
 (11 : Nat)) := by kernel_rfl
theorem pYears_hk (base : World) (n : Int)  : ReckE (env (rules4)) 30 17 [monthsV n, .string ⟨#[121, 101, 97, 114, 115]⟩] ((· = intV (IntKind.wrap .i64 (Int.tdiv n 12)))) := by
  constructor
  rw [pYears_tree fun u mw => u = intV (IntKind.wrap .i64 (Int.tdiv n 12)) ∧ Tryz.prog.globals.size ≤ mw]
  repeat' (first
    | exact ⟨rfl, Nat.le_of_ble_eq_true (by kernel_rfl)⟩
    | exact rfl
    | assumption
    | exact rng_w _
    | exact rng_m _ (by decide) (by decide)
    | refine And.intro ?_ ?_
    | refine bsel_of (fun _ => ?_) (fun _ => ?_)
    | intro _)
  all_goals (exfalso; first | contradiction | (simp_all; done))
theorem pYears  (base : World) (n : Int)  : Tot base 17 [monthsV n, .string ⟨#[121, 101, 97, 114, 115]⟩] (intV (IntKind.wrap .i64 (Int.tdiv n 12))) := tot_lit (rules4_ok base) (pYears_hk base n) (by kernel_rfl) (by repeat' (first | refine List.forall_mem_cons.2 ⟨?_, ?_⟩ | exact (fun _ h => nomatch h) | assumption | kernel_rfl))
theorem pMonths_tree (K : Value → Nat → Prop) (base : World) (n : Int) :
    funcK (env (rules4)) 30 17 [monthsV n, .string ⟨#[109, 111, 110, 116, 104, 115]⟩] tabs Tryz.prog.globals.size (fun u _ _ mw => K u mw) =
  (rng (Int.tmod n (12 : Int)) ∧
 K
 (Value.agg
 (Array.mk
 [Value.iface (123 : Nat)
 (Value.agg
 (Array.mk
 [Value.bool (decide (Int.tmod n (12 : Int) < (0 : Int))), Value.int IntKind.u64 (Int.ofNat (0 : Nat)),
 Value.int IntKind.u64 (Int.ofNat (Int.natAbs (Int.tmod n (12 : Int)))), Value.int IntKind.i64 (Int.ofNat (0 : Nat))]))]))
 (11 : Nat)) := by kernel_rfl
theorem pMonths_hk (base : World) (n : Int)  : ReckE (env (rules4)) 30 17 [monthsV n, .string ⟨#[109, 111, 110, 116, 104, 115]⟩] ((· = intV (Int.tmod n 12))) := by
  constructor
  rw [pMonths_tree fun u mw => u = intV (Int.tmod n 12) ∧ Tryz.prog.globals.size ≤ mw]
  repeat' (first
    | exact ⟨rfl, Nat.le_of_ble_eq_true (by kernel_rfl)⟩
    | exact rfl
    | assumption
    | exact rng_w _
    | exact rng_m _ (by decide) (by decide)
    | refine And.intro ?_ ?_
    | refine bsel_of (fun _ => ?_) (fun _ => ?_)
    | intro _)
  all_goals (exfalso; first | contradiction | (simp_all; done))
theorem pMonths  (base : World) (n : Int)  : Tot base 17 [monthsV n, .string ⟨#[109, 111, 110, 116, 104, 115]⟩] (intV (Int.tmod n 12)) := tot_lit (rules4_ok base) (pMonths_hk base n) (by kernel_rfl) (by repeat' (first | refine List.forall_mem_cons.2 ⟨?_, ?_⟩ | exact (fun _ h => nomatch h) | assumption | kernel_rfl))
theorem sNeg_tree (K : Value → Nat → Prop) (base : World) (n : Int) :
    funcK (env (rulesKa)) 30 19 [daysV n] tabs Tryz.prog.globals.size (fun u _ _ mw => K u mw) =
  ((spanOk (IntKind.wrap IntKind.i64 ((0 : Int) - n)) →
 K (Value.agg (Array.mk [Value.iface (125 : Nat) (Value.int IntKind.i64 (IntKind.wrap IntKind.i64 ((0 : Int) - n)))])) (11 : Nat)) ∧
 (¬spanOk (IntKind.wrap IntKind.i64 ((0 : Int) - n)) → K (Value.agg (Array.mk [Value.nilIface])) (11 : Nat))) := by kernel_rfl
theorem sNeg_hk (base : World) (n : Int) (h : spanOk (IntKind.wrap .i64 (0 - n))) : ReckE (env (rulesKa)) 30 19 [daysV n] ((· = daysV (IntKind.wrap .i64 (0 - n)))) := by
  constructor
  rw [sNeg_tree fun u mw => u = daysV (IntKind.wrap .i64 (0 - n)) ∧ Tryz.prog.globals.size ≤ mw]
  repeat' (first
    | exact ⟨rfl, Nat.le_of_ble_eq_true (by kernel_rfl)⟩
    | exact rfl
    | assumption
    | exact rng_w _
    | exact rng_m _ (by decide) (by decide)
    | refine And.intro ?_ ?_
    | refine bsel_of (fun _ => ?_) (fun _ => ?_)
    | intro _)
  all_goals (exfalso; first | contradiction | (simp_all; done))
theorem sNeg  (base : World) (n : Int) (h : spanOk (IntKind.wrap .i64 (0 - n))) : Tot base 19 [daysV n] (daysV (IntKind.wrap .i64 (0 - n))) := tot_lit (rulesKa_ok base) (sNeg_hk base n h) (by kernel_rfl) (by repeat' (first | refine List.forall_mem_cons.2 ⟨?_, ?_⟩ | exact (fun _ h => nomatch h) | assumption | kernel_rfl))
theorem mNeg_tree (K : Value → Nat → Prop) (base : World) (n : Int) :
    funcK (env (rulesKa)) 30 19 [monthsV n] tabs Tryz.prog.globals.size (fun u _ _ mw => K u mw) =
  ((spanOk (IntKind.wrap IntKind.i64 ((0 : Int) - n)) →
 K (Value.agg (Array.mk [Value.iface (126 : Nat) (Value.int IntKind.i64 (IntKind.wrap IntKind.i64 ((0 : Int) - n)))])) (11 : Nat)) ∧
 (¬spanOk (IntKind.wrap IntKind.i64 ((0 : Int) - n)) → K (Value.agg (Array.mk [Value.nilIface])) (11 : Nat))) := by kernel_rfl
theorem mNeg_hk (base : World) (n : Int) (h : spanOk (IntKind.wrap .i64 (0 - n))) : ReckE (env (rulesKa)) 30 19 [monthsV n] ((· = monthsV (IntKind.wrap .i64 (0 - n)))) := by
  constructor
  rw [mNeg_tree fun u mw => u = monthsV (IntKind.wrap .i64 (0 - n)) ∧ Tryz.prog.globals.size ≤ mw]
  repeat' (first
    | exact ⟨rfl, Nat.le_of_ble_eq_true (by kernel_rfl)⟩
    | exact rfl
    | assumption
    | exact rng_w _
    | exact rng_m _ (by decide) (by decide)
    | refine And.intro ?_ ?_
    | refine bsel_of (fun _ => ?_) (fun _ => ?_)
    | intro _)
  all_goals (exfalso; first | contradiction | (simp_all; done))
theorem mNeg  (base : World) (n : Int) (h : spanOk (IntKind.wrap .i64 (0 - n))) : Tot base 19 [monthsV n] (monthsV (IntKind.wrap .i64 (0 - n))) := tot_lit (rulesKa_ok base) (mNeg_hk base n h) (by kernel_rfl) (by repeat' (first | refine List.forall_mem_cons.2 ⟨?_, ?_⟩ | exact (fun _ h => nomatch h) | assumption | kernel_rfl))
def rulesMy (b : Bool) (h l e : Int) : List (Nat × Rule) := (89, ruleAt [decC b h l e] (.bool true)) :: rules4
theorem rulesMy_ok {base : World} {b : Bool} {h l e : Int} (hm : Tot base 89 [decC b h l e] (.bool true)) : ∀ x ∈ rulesMy b h l e, RuleOk Tryz.prog base x.1 x.2 := List.forall_mem_cons.2 ⟨ruleOk_at hm, rules4_ok base⟩
theorem numOk_tree (K : Value → Nat → Prop) (base : World) (b : Bool) (h l e : Int) :
    funcK (env (rulesMy b h l e)) 30 12 [decC b h l e] tabs Tryz.prog.globals.size (fun u _ _ mw => K u mw) =
  (Same [Value.agg (Array.mk [Value.bool b, Value.int IntKind.u64 h, Value.int IntKind.u64 l, Value.int IntKind.i64 e])]
 [Value.agg (Array.mk [Value.bool b, Value.int IntKind.u64 h, Value.int IntKind.u64 l, Value.int IntKind.i64 e])] ∧
 K (Value.agg (Array.mk [Value.iface (123 : Nat) (Value.agg (Array.mk [Value.bool b, Value.int IntKind.u64 h, Value.int IntKind.u64 l, Value.int IntKind.i64 e]))]))
 (11 : Nat)) := by kernel_rfl
theorem numOk_hk (base : World) (b : Bool) (h l e : Int) (hm : Tot base 89 [decC b h l e] (.bool true)) : ReckE (env (rulesMy b h l e)) 30 12 [decC b h l e] ((· = numV b h l e)) := by
  constructor
  rw [numOk_tree fun u mw => u = numV b h l e ∧ Tryz.prog.globals.size ≤ mw]
  repeat' (first
    | exact ⟨rfl, Nat.le_of_ble_eq_true (by kernel_rfl)⟩
    | exact rfl
    | assumption
    | exact rng_w _
    | exact rng_m _ (by decide) (by decide)
    | refine And.intro ?_ ?_
    | refine bsel_of (fun _ => ?_) (fun _ => ?_)
    | intro _)
  all_goals (exfalso; first | contradiction | (simp_all; done))
theorem numOk  (base : World) (b : Bool) (h l e : Int) (hm : Tot base 89 [decC b h l e] (.bool true)) : Tot base 12 [decC b h l e] (numV b h l e) := tot_lit (rulesMy_ok hm) (numOk_hk base b h l e hm) (by kernel_rfl) (by repeat' (first | refine List.forall_mem_cons.2 ⟨?_, ?_⟩ | exact (fun _ h => nomatch h) | assumption | kernel_rfl))
end Go.Proofs.YtdbjbmdaekgbhaaGreatDoor
