/-
  What 'timefun.Arith' comes to of durations by numbers.
-/
import Derived.Test.YtdbjbmdaekgbhaaGreatDoorWo
namespace Go.Proofs.YtdbjbmdaekgbhaaGreatDoor
open Go Go.Pe Go.RowKit

theorem sMulT_tree (K : Value → Nat → Prop) (base : World) (n : Int) (b : Bool) (p q e t : Int) :
    funcK (env (rulesXa 21 [.int .i64 n, decC b p q e] (.tuple #[.int .i64 t, .bool true]))) 30 84 [.string sMul, daysV n, numV b p q e] tabs Tryz.prog.globals.size (fun u _ _ mw => K u mw) =
  (Same
 [Value.int IntKind.i64 n, Value.agg (Array.mk [Value.bool b, Value.int IntKind.u64 p, Value.int IntKind.u64 q, Value.int IntKind.i64 e])]
 [Value.int IntKind.i64 n, Value.agg (Array.mk [Value.bool b, Value.int IntKind.u64 p, Value.int IntKind.u64 q, Value.int IntKind.i64 e])] ∧
 (spanOk t →
 K (Value.tuple (Array.mk [Value.agg (Array.mk [Value.iface (125 : Nat) (Value.int IntKind.i64 t)]), Value.bool Bool.true])) (12 : Nat)) ∧
 (¬spanOk t → K (Value.tuple (Array.mk [Value.agg (Array.mk [Value.nilIface]), Value.bool Bool.true])) (12 : Nat))) := by kernel_rfl
theorem sMulT_hk (base : World) (n : Int) (b : Bool) (p q e t : Int) (hL : Tot base 21 [.int .i64 n, decC b p q e] (.tuple #[.int .i64 t, .bool true])) (h : spanOk t) : ReckE (env (rulesXa 21 [.int .i64 n, decC b p q e] (.tuple #[.int .i64 t, .bool true]))) 30 84 [.string sMul, daysV n, numV b p q e] ((· = .tuple #[daysV t, .bool true])) := by
  constructor
  rw [sMulT_tree fun u mw => u = .tuple #[daysV t, .bool true] ∧ Tryz.prog.globals.size ≤ mw]
  repeat' (first
    | exact ⟨rfl, Nat.le_of_ble_eq_true (by kernel_rfl)⟩
    | exact rfl
    | assumption
    | refine And.intro ?_ ?_
    | refine bsel_of (fun _ => ?_) (fun _ => ?_)
    | intro _)
  all_goals (exfalso; first | contradiction | (simp_all; done) | (simp only [addOk, spanOk, decide_eq_true_eq, decide_eq_false_iff_not, ge_iff_le, Bool.and_eq_true] at *; omega))
theorem sMulT  (base : World) (n : Int) (b : Bool) (p q e t : Int) (hL : Tot base 21 [.int .i64 n, decC b p q e] (.tuple #[.int .i64 t, .bool true])) (h : spanOk t) : Tot base 84 [.string sMul, daysV n, numV b p q e] (.tuple #[daysV t, .bool true]) := tot_lit (rulesXa_ok hL) (sMulT_hk base n b p q e t hL h) (by kernel_rfl) (by repeat' (first | refine List.forall_mem_cons.2 ⟨?_, ?_⟩ | exact (fun _ h => nomatch h) | assumption | kernel_rfl))
theorem sMulN_tree (K : Value → Nat → Prop) (base : World) (n : Int) (b : Bool) (p q e t : Int) :
    funcK (env (rulesXa 21 [.int .i64 n, decC b p q e] (.tuple #[.int .i64 t, .bool true]))) 30 84 [.string sMul, daysV n, numV b p q e] tabs Tryz.prog.globals.size (fun u _ _ mw => K u mw) =
  (Same
 [Value.int IntKind.i64 n, Value.agg (Array.mk [Value.bool b, Value.int IntKind.u64 p, Value.int IntKind.u64 q, Value.int IntKind.i64 e])]
 [Value.int IntKind.i64 n, Value.agg (Array.mk [Value.bool b, Value.int IntKind.u64 p, Value.int IntKind.u64 q, Value.int IntKind.i64 e])] ∧
 (spanOk t →
 K (Value.tuple (Array.mk [Value.agg (Array.mk [Value.iface (125 : Nat) (Value.int IntKind.i64 t)]), Value.bool Bool.true])) (12 : Nat)) ∧
 (¬spanOk t → K (Value.tuple (Array.mk [Value.agg (Array.mk [Value.nilIface]), Value.bool Bool.true])) (12 : Nat))) := by kernel_rfl
theorem sMulN_hk (base : World) (n : Int) (b : Bool) (p q e t : Int) (hL : Tot base 21 [.int .i64 n, decC b p q e] (.tuple #[.int .i64 t, .bool true])) (h : ¬ spanOk t) : ReckE (env (rulesXa 21 [.int .i64 n, decC b p q e] (.tuple #[.int .i64 t, .bool true]))) 30 84 [.string sMul, daysV n, numV b p q e] ((· = .tuple #[nullV, .bool true])) := by
  constructor
  rw [sMulN_tree fun u mw => u = .tuple #[nullV, .bool true] ∧ Tryz.prog.globals.size ≤ mw]
  repeat' (first
    | exact ⟨rfl, Nat.le_of_ble_eq_true (by kernel_rfl)⟩
    | exact rfl
    | assumption
    | refine And.intro ?_ ?_
    | refine bsel_of (fun _ => ?_) (fun _ => ?_)
    | intro _)
  all_goals (exfalso; first | contradiction | (simp_all; done) | (simp only [addOk, spanOk, decide_eq_true_eq, decide_eq_false_iff_not, ge_iff_le, Bool.and_eq_true] at *; omega))
theorem sMulN  (base : World) (n : Int) (b : Bool) (p q e t : Int) (hL : Tot base 21 [.int .i64 n, decC b p q e] (.tuple #[.int .i64 t, .bool true])) (h : ¬ spanOk t) : Tot base 84 [.string sMul, daysV n, numV b p q e] (.tuple #[nullV, .bool true]) := tot_lit (rulesXa_ok hL) (sMulN_hk base n b p q e t hL h) (by kernel_rfl) (by repeat' (first | refine List.forall_mem_cons.2 ⟨?_, ?_⟩ | exact (fun _ h => nomatch h) | assumption | kernel_rfl))
theorem sMulF_tree (K : Value → Nat → Prop) (base : World) (n : Int) (b : Bool) (p q e t : Int) :
    funcK (env (rulesXa 21 [.int .i64 n, decC b p q e] (.tuple #[.int .i64 t, .bool false]))) 30 84 [.string sMul, daysV n, numV b p q e] tabs Tryz.prog.globals.size (fun u _ _ mw => K u mw) =
  (Same
 [Value.int IntKind.i64 n, Value.agg (Array.mk [Value.bool b, Value.int IntKind.u64 p, Value.int IntKind.u64 q, Value.int IntKind.i64 e])]
 [Value.int IntKind.i64 n, Value.agg (Array.mk [Value.bool b, Value.int IntKind.u64 p, Value.int IntKind.u64 q, Value.int IntKind.i64 e])] ∧
 (spanOk t → K (Value.tuple (Array.mk [Value.agg (Array.mk [Value.nilIface]), Value.bool Bool.true])) (12 : Nat)) ∧
 (¬spanOk t → K (Value.tuple (Array.mk [Value.agg (Array.mk [Value.nilIface]), Value.bool Bool.true])) (12 : Nat))) := by kernel_rfl
theorem sMulF_hk (base : World) (n : Int) (b : Bool) (p q e t : Int) (hL : Tot base 21 [.int .i64 n, decC b p q e] (.tuple #[.int .i64 t, .bool false])) : ReckE (env (rulesXa 21 [.int .i64 n, decC b p q e] (.tuple #[.int .i64 t, .bool false]))) 30 84 [.string sMul, daysV n, numV b p q e] ((· = .tuple #[nullV, .bool true])) := by
  constructor
  rw [sMulF_tree fun u mw => u = .tuple #[nullV, .bool true] ∧ Tryz.prog.globals.size ≤ mw]
  repeat' (first
    | exact ⟨rfl, Nat.le_of_ble_eq_true (by kernel_rfl)⟩
    | exact rfl
    | assumption
    | refine And.intro ?_ ?_
    | refine bsel_of (fun _ => ?_) (fun _ => ?_)
    | intro _)
  all_goals (exfalso; first | contradiction | (simp_all; done) | (simp only [addOk, spanOk, decide_eq_true_eq, decide_eq_false_iff_not, ge_iff_le, Bool.and_eq_true] at *; omega))
theorem sMulF  (base : World) (n : Int) (b : Bool) (p q e t : Int) (hL : Tot base 21 [.int .i64 n, decC b p q e] (.tuple #[.int .i64 t, .bool false])) : Tot base 84 [.string sMul, daysV n, numV b p q e] (.tuple #[nullV, .bool true]) := tot_lit (rulesXa_ok hL) (sMulF_hk base n b p q e t hL) (by kernel_rfl) (by repeat' (first | refine List.forall_mem_cons.2 ⟨?_, ?_⟩ | exact (fun _ h => nomatch h) | assumption | kernel_rfl))
theorem mMulT_tree (K : Value → Nat → Prop) (base : World) (n : Int) (b : Bool) (p q e t : Int) :
    funcK (env (rulesXa 21 [.int .i64 n, decC b p q e] (.tuple #[.int .i64 t, .bool true]))) 30 84 [.string sMul, numV b p q e, monthsV n] tabs Tryz.prog.globals.size (fun u _ _ mw => K u mw) =
  (Same
 [Value.int IntKind.i64 n, Value.agg (Array.mk [Value.bool b, Value.int IntKind.u64 p, Value.int IntKind.u64 q, Value.int IntKind.i64 e])]
 [Value.int IntKind.i64 n, Value.agg (Array.mk [Value.bool b, Value.int IntKind.u64 p, Value.int IntKind.u64 q, Value.int IntKind.i64 e])] ∧
 (spanOk t →
 K (Value.tuple (Array.mk [Value.agg (Array.mk [Value.iface (126 : Nat) (Value.int IntKind.i64 t)]), Value.bool Bool.true])) (12 : Nat)) ∧
 (¬spanOk t → K (Value.tuple (Array.mk [Value.agg (Array.mk [Value.nilIface]), Value.bool Bool.true])) (12 : Nat))) := by kernel_rfl
theorem mMulT_hk (base : World) (n : Int) (b : Bool) (p q e t : Int) (hL : Tot base 21 [.int .i64 n, decC b p q e] (.tuple #[.int .i64 t, .bool true])) (h : spanOk t) : ReckE (env (rulesXa 21 [.int .i64 n, decC b p q e] (.tuple #[.int .i64 t, .bool true]))) 30 84 [.string sMul, numV b p q e, monthsV n] ((· = .tuple #[monthsV t, .bool true])) := by
  constructor
  rw [mMulT_tree fun u mw => u = .tuple #[monthsV t, .bool true] ∧ Tryz.prog.globals.size ≤ mw]
  repeat' (first
    | exact ⟨rfl, Nat.le_of_ble_eq_true (by kernel_rfl)⟩
    | exact rfl
    | assumption
    | refine And.intro ?_ ?_
    | refine bsel_of (fun _ => ?_) (fun _ => ?_)
    | intro _)
  all_goals (exfalso; first | contradiction | (simp_all; done) | (simp only [addOk, spanOk, decide_eq_true_eq, decide_eq_false_iff_not, ge_iff_le, Bool.and_eq_true] at *; omega))
theorem mMulT  (base : World) (n : Int) (b : Bool) (p q e t : Int) (hL : Tot base 21 [.int .i64 n, decC b p q e] (.tuple #[.int .i64 t, .bool true])) (h : spanOk t) : Tot base 84 [.string sMul, numV b p q e, monthsV n] (.tuple #[monthsV t, .bool true]) := tot_lit (rulesXa_ok hL) (mMulT_hk base n b p q e t hL h) (by kernel_rfl) (by repeat' (first | refine List.forall_mem_cons.2 ⟨?_, ?_⟩ | exact (fun _ h => nomatch h) | assumption | kernel_rfl))
theorem mMulN_tree (K : Value → Nat → Prop) (base : World) (n : Int) (b : Bool) (p q e t : Int) :
    funcK (env (rulesXa 21 [.int .i64 n, decC b p q e] (.tuple #[.int .i64 t, .bool true]))) 30 84 [.string sMul, numV b p q e, monthsV n] tabs Tryz.prog.globals.size (fun u _ _ mw => K u mw) =
  (Same
 [Value.int IntKind.i64 n, Value.agg (Array.mk [Value.bool b, Value.int IntKind.u64 p, Value.int IntKind.u64 q, Value.int IntKind.i64 e])]
 [Value.int IntKind.i64 n, Value.agg (Array.mk [Value.bool b, Value.int IntKind.u64 p, Value.int IntKind.u64 q, Value.int IntKind.i64 e])] ∧
 (spanOk t →
 K (Value.tuple (Array.mk [Value.agg (Array.mk [Value.iface (126 : Nat) (Value.int IntKind.i64 t)]), Value.bool Bool.true])) (12 : Nat)) ∧
 (¬spanOk t → K (Value.tuple (Array.mk [Value.agg (Array.mk [Value.nilIface]), Value.bool Bool.true])) (12 : Nat))) := by kernel_rfl
theorem mMulN_hk (base : World) (n : Int) (b : Bool) (p q e t : Int) (hL : Tot base 21 [.int .i64 n, decC b p q e] (.tuple #[.int .i64 t, .bool true])) (h : ¬ spanOk t) : ReckE (env (rulesXa 21 [.int .i64 n, decC b p q e] (.tuple #[.int .i64 t, .bool true]))) 30 84 [.string sMul, numV b p q e, monthsV n] ((· = .tuple #[nullV, .bool true])) := by
  constructor
  rw [mMulN_tree fun u mw => u = .tuple #[nullV, .bool true] ∧ Tryz.prog.globals.size ≤ mw]
  repeat' (first
    | exact ⟨rfl, Nat.le_of_ble_eq_true (by kernel_rfl)⟩
    | exact rfl
    | assumption
    | refine And.intro ?_ ?_
    | refine bsel_of (fun _ => ?_) (fun _ => ?_)
    | intro _)
  all_goals (exfalso; first | contradiction | (simp_all; done) | (simp only [addOk, spanOk, decide_eq_true_eq, decide_eq_false_iff_not, ge_iff_le, Bool.and_eq_true] at *; omega))
theorem mMulN  (base : World) (n : Int) (b : Bool) (p q e t : Int) (hL : Tot base 21 [.int .i64 n, decC b p q e] (.tuple #[.int .i64 t, .bool true])) (h : ¬ spanOk t) : Tot base 84 [.string sMul, numV b p q e, monthsV n] (.tuple #[nullV, .bool true]) := tot_lit (rulesXa_ok hL) (mMulN_hk base n b p q e t hL h) (by kernel_rfl) (by repeat' (first | refine List.forall_mem_cons.2 ⟨?_, ?_⟩ | exact (fun _ h => nomatch h) | assumption | kernel_rfl))
theorem mMulF_tree (K : Value → Nat → Prop) (base : World) (n : Int) (b : Bool) (p q e t : Int) :
    funcK (env (rulesXa 21 [.int .i64 n, decC b p q e] (.tuple #[.int .i64 t, .bool false]))) 30 84 [.string sMul, numV b p q e, monthsV n] tabs Tryz.prog.globals.size (fun u _ _ mw => K u mw) =
  (Same
 [Value.int IntKind.i64 n, Value.agg (Array.mk [Value.bool b, Value.int IntKind.u64 p, Value.int IntKind.u64 q, Value.int IntKind.i64 e])]
 [Value.int IntKind.i64 n, Value.agg (Array.mk [Value.bool b, Value.int IntKind.u64 p, Value.int IntKind.u64 q, Value.int IntKind.i64 e])] ∧
 (spanOk t → K (Value.tuple (Array.mk [Value.agg (Array.mk [Value.nilIface]), Value.bool Bool.true])) (12 : Nat)) ∧
 (¬spanOk t → K (Value.tuple (Array.mk [Value.agg (Array.mk [Value.nilIface]), Value.bool Bool.true])) (12 : Nat))) := by kernel_rfl
theorem mMulF_hk (base : World) (n : Int) (b : Bool) (p q e t : Int) (hL : Tot base 21 [.int .i64 n, decC b p q e] (.tuple #[.int .i64 t, .bool false])) : ReckE (env (rulesXa 21 [.int .i64 n, decC b p q e] (.tuple #[.int .i64 t, .bool false]))) 30 84 [.string sMul, numV b p q e, monthsV n] ((· = .tuple #[nullV, .bool true])) := by
  constructor
  rw [mMulF_tree fun u mw => u = .tuple #[nullV, .bool true] ∧ Tryz.prog.globals.size ≤ mw]
  repeat' (first
    | exact ⟨rfl, Nat.le_of_ble_eq_true (by kernel_rfl)⟩
    | exact rfl
    | assumption
    | refine And.intro ?_ ?_
    | refine bsel_of (fun _ => ?_) (fun _ => ?_)
    | intro _)
  all_goals (exfalso; first | contradiction | (simp_all; done) | (simp only [addOk, spanOk, decide_eq_true_eq, decide_eq_false_iff_not, ge_iff_le, Bool.and_eq_true] at *; omega))
theorem mMulF  (base : World) (n : Int) (b : Bool) (p q e t : Int) (hL : Tot base 21 [.int .i64 n, decC b p q e] (.tuple #[.int .i64 t, .bool false])) : Tot base 84 [.string sMul, numV b p q e, monthsV n] (.tuple #[nullV, .bool true]) := tot_lit (rulesXa_ok hL) (mMulF_hk base n b p q e t hL) (by kernel_rfl) (by repeat' (first | refine List.forall_mem_cons.2 ⟨?_, ?_⟩ | exact (fun _ h => nomatch h) | assumption | kernel_rfl))
theorem sDivT_tree (K : Value → Nat → Prop) (base : World) (n : Int) (b : Bool) (p q e t : Int) :
    funcK (env (rulesXa 22 [.int .i64 n, decC b p q e] (.tuple #[.int .i64 t, .bool true]))) 30 84 [.string sDiv, daysV n, numV b p q e] tabs Tryz.prog.globals.size (fun u _ _ mw => K u mw) =
  (Same
 [Value.int IntKind.i64 n, Value.agg (Array.mk [Value.bool b, Value.int IntKind.u64 p, Value.int IntKind.u64 q, Value.int IntKind.i64 e])]
 [Value.int IntKind.i64 n, Value.agg (Array.mk [Value.bool b, Value.int IntKind.u64 p, Value.int IntKind.u64 q, Value.int IntKind.i64 e])] ∧
 (spanOk t →
 K (Value.tuple (Array.mk [Value.agg (Array.mk [Value.iface (125 : Nat) (Value.int IntKind.i64 t)]), Value.bool Bool.true])) (12 : Nat)) ∧
 (¬spanOk t → K (Value.tuple (Array.mk [Value.agg (Array.mk [Value.nilIface]), Value.bool Bool.true])) (12 : Nat))) := by kernel_rfl
theorem sDivT_hk (base : World) (n : Int) (b : Bool) (p q e t : Int) (hL : Tot base 22 [.int .i64 n, decC b p q e] (.tuple #[.int .i64 t, .bool true])) (h : spanOk t) : ReckE (env (rulesXa 22 [.int .i64 n, decC b p q e] (.tuple #[.int .i64 t, .bool true]))) 30 84 [.string sDiv, daysV n, numV b p q e] ((· = .tuple #[daysV t, .bool true])) := by
  constructor
  rw [sDivT_tree fun u mw => u = .tuple #[daysV t, .bool true] ∧ Tryz.prog.globals.size ≤ mw]
  repeat' (first
    | exact ⟨rfl, Nat.le_of_ble_eq_true (by kernel_rfl)⟩
    | exact rfl
    | assumption
    | refine And.intro ?_ ?_
    | refine bsel_of (fun _ => ?_) (fun _ => ?_)
    | intro _)
  all_goals (exfalso; first | contradiction | (simp_all; done) | (simp only [addOk, spanOk, decide_eq_true_eq, decide_eq_false_iff_not, ge_iff_le, Bool.and_eq_true] at *; omega))
theorem sDivT  (base : World) (n : Int) (b : Bool) (p q e t : Int) (hL : Tot base 22 [.int .i64 n, decC b p q e] (.tuple #[.int .i64 t, .bool true])) (h : spanOk t) : Tot base 84 [.string sDiv, daysV n, numV b p q e] (.tuple #[daysV t, .bool true]) := tot_lit (rulesXa_ok hL) (sDivT_hk base n b p q e t hL h) (by kernel_rfl) (by repeat' (first | refine List.forall_mem_cons.2 ⟨?_, ?_⟩ | exact (fun _ h => nomatch h) | assumption | kernel_rfl))
theorem sDivN_tree (K : Value → Nat → Prop) (base : World) (n : Int) (b : Bool) (p q e t : Int) :
    funcK (env (rulesXa 22 [.int .i64 n, decC b p q e] (.tuple #[.int .i64 t, .bool true]))) 30 84 [.string sDiv, daysV n, numV b p q e] tabs Tryz.prog.globals.size (fun u _ _ mw => K u mw) =
  (Same
 [Value.int IntKind.i64 n, Value.agg (Array.mk [Value.bool b, Value.int IntKind.u64 p, Value.int IntKind.u64 q, Value.int IntKind.i64 e])]
 [Value.int IntKind.i64 n, Value.agg (Array.mk [Value.bool b, Value.int IntKind.u64 p, Value.int IntKind.u64 q, Value.int IntKind.i64 e])] ∧
 (spanOk t →
 K (Value.tuple (Array.mk [Value.agg (Array.mk [Value.iface (125 : Nat) (Value.int IntKind.i64 t)]), Value.bool Bool.true])) (12 : Nat)) ∧
 (¬spanOk t → K (Value.tuple (Array.mk [Value.agg (Array.mk [Value.nilIface]), Value.bool Bool.true])) (12 : Nat))) := by kernel_rfl
theorem sDivN_hk (base : World) (n : Int) (b : Bool) (p q e t : Int) (hL : Tot base 22 [.int .i64 n, decC b p q e] (.tuple #[.int .i64 t, .bool true])) (h : ¬ spanOk t) : ReckE (env (rulesXa 22 [.int .i64 n, decC b p q e] (.tuple #[.int .i64 t, .bool true]))) 30 84 [.string sDiv, daysV n, numV b p q e] ((· = .tuple #[nullV, .bool true])) := by
  constructor
  rw [sDivN_tree fun u mw => u = .tuple #[nullV, .bool true] ∧ Tryz.prog.globals.size ≤ mw]
  repeat' (first
    | exact ⟨rfl, Nat.le_of_ble_eq_true (by kernel_rfl)⟩
    | exact rfl
    | assumption
    | refine And.intro ?_ ?_
    | refine bsel_of (fun _ => ?_) (fun _ => ?_)
    | intro _)
  all_goals (exfalso; first | contradiction | (simp_all; done) | (simp only [addOk, spanOk, decide_eq_true_eq, decide_eq_false_iff_not, ge_iff_le, Bool.and_eq_true] at *; omega))
theorem sDivN  (base : World) (n : Int) (b : Bool) (p q e t : Int) (hL : Tot base 22 [.int .i64 n, decC b p q e] (.tuple #[.int .i64 t, .bool true])) (h : ¬ spanOk t) : Tot base 84 [.string sDiv, daysV n, numV b p q e] (.tuple #[nullV, .bool true]) := tot_lit (rulesXa_ok hL) (sDivN_hk base n b p q e t hL h) (by kernel_rfl) (by repeat' (first | refine List.forall_mem_cons.2 ⟨?_, ?_⟩ | exact (fun _ h => nomatch h) | assumption | kernel_rfl))
theorem sDivF_tree (K : Value → Nat → Prop) (base : World) (n : Int) (b : Bool) (p q e t : Int) :
    funcK (env (rulesXa 22 [.int .i64 n, decC b p q e] (.tuple #[.int .i64 t, .bool false]))) 30 84 [.string sDiv, daysV n, numV b p q e] tabs Tryz.prog.globals.size (fun u _ _ mw => K u mw) =
  (Same
 [Value.int IntKind.i64 n, Value.agg (Array.mk [Value.bool b, Value.int IntKind.u64 p, Value.int IntKind.u64 q, Value.int IntKind.i64 e])]
 [Value.int IntKind.i64 n, Value.agg (Array.mk [Value.bool b, Value.int IntKind.u64 p, Value.int IntKind.u64 q, Value.int IntKind.i64 e])] ∧
 (spanOk t → K (Value.tuple (Array.mk [Value.agg (Array.mk [Value.nilIface]), Value.bool Bool.true])) (12 : Nat)) ∧
 (¬spanOk t → K (Value.tuple (Array.mk [Value.agg (Array.mk [Value.nilIface]), Value.bool Bool.true])) (12 : Nat))) := by kernel_rfl
theorem sDivF_hk (base : World) (n : Int) (b : Bool) (p q e t : Int) (hL : Tot base 22 [.int .i64 n, decC b p q e] (.tuple #[.int .i64 t, .bool false])) : ReckE (env (rulesXa 22 [.int .i64 n, decC b p q e] (.tuple #[.int .i64 t, .bool false]))) 30 84 [.string sDiv, daysV n, numV b p q e] ((· = .tuple #[nullV, .bool true])) := by
  constructor
  rw [sDivF_tree fun u mw => u = .tuple #[nullV, .bool true] ∧ Tryz.prog.globals.size ≤ mw]
  repeat' (first
    | exact ⟨rfl, Nat.le_of_ble_eq_true (by kernel_rfl)⟩
    | exact rfl
    | assumption
    | refine And.intro ?_ ?_
    | refine bsel_of (fun _ => ?_) (fun _ => ?_)
    | intro _)
  all_goals (exfalso; first | contradiction | (simp_all; done) | (simp only [addOk, spanOk, decide_eq_true_eq, decide_eq_false_iff_not, ge_iff_le, Bool.and_eq_true] at *; omega))
theorem sDivF  (base : World) (n : Int) (b : Bool) (p q e t : Int) (hL : Tot base 22 [.int .i64 n, decC b p q e] (.tuple #[.int .i64 t, .bool false])) : Tot base 84 [.string sDiv, daysV n, numV b p q e] (.tuple #[nullV, .bool true]) := tot_lit (rulesXa_ok hL) (sDivF_hk base n b p q e t hL) (by kernel_rfl) (by repeat' (first | refine List.forall_mem_cons.2 ⟨?_, ?_⟩ | exact (fun _ h => nomatch h) | assumption | kernel_rfl))
theorem mRatT_tree (K : Value → Nat → Prop) (base : World) (n m : Int) (b : Bool) (p q e : Int) :
    funcK (env (rulesYa 23 [.int .i64 n, .int .i64 m] (.tuple #[decC b p q e, .bool true]) 12 [decC b p q e] (numV b p q e))) 30 84 [.string sDiv, monthsV n, monthsV m] tabs Tryz.prog.globals.size (fun u _ _ mw => K u mw) =
  (Same [Value.int IntKind.i64 n, Value.int IntKind.i64 m] [Value.int IntKind.i64 n, Value.int IntKind.i64 m] ∧
 Same [Value.agg (Array.mk [Value.bool b, Value.int IntKind.u64 p, Value.int IntKind.u64 q, Value.int IntKind.i64 e])]
 [Value.agg (Array.mk [Value.bool b, Value.int IntKind.u64 p, Value.int IntKind.u64 q, Value.int IntKind.i64 e])] ∧
 K
 (Value.tuple
 (Array.mk
 [Value.agg
 (Array.mk [Value.iface (123 : Nat) (Value.agg (Array.mk [Value.bool b, Value.int IntKind.u64 p, Value.int IntKind.u64 q, Value.int IntKind.i64 e]))]),
 Value.bool Bool.true]))
 (12 : Nat)) := by kernel_rfl
theorem mRatT_hk (base : World) (n m : Int) (b : Bool) (p q e : Int) (hL : Tot base 23 [.int .i64 n, .int .i64 m] (.tuple #[decC b p q e, .bool true])) (hN : Tot base 12 [decC b p q e] (numV b p q e)) : ReckE (env (rulesYa 23 [.int .i64 n, .int .i64 m] (.tuple #[decC b p q e, .bool true]) 12 [decC b p q e] (numV b p q e))) 30 84 [.string sDiv, monthsV n, monthsV m] ((· = .tuple #[numV b p q e, .bool true])) := by
  constructor
  rw [mRatT_tree fun u mw => u = .tuple #[numV b p q e, .bool true] ∧ Tryz.prog.globals.size ≤ mw]
  repeat' (first
    | exact ⟨rfl, Nat.le_of_ble_eq_true (by kernel_rfl)⟩
    | exact rfl
    | assumption
    | refine And.intro ?_ ?_
    | refine bsel_of (fun _ => ?_) (fun _ => ?_)
    | intro _)
  all_goals (exfalso; first | contradiction | (simp_all; done) | (simp only [addOk, spanOk, decide_eq_true_eq, decide_eq_false_iff_not, ge_iff_le, Bool.and_eq_true] at *; omega))
theorem mRatT  (base : World) (n m : Int) (b : Bool) (p q e : Int) (hL : Tot base 23 [.int .i64 n, .int .i64 m] (.tuple #[decC b p q e, .bool true])) (hN : Tot base 12 [decC b p q e] (numV b p q e)) : Tot base 84 [.string sDiv, monthsV n, monthsV m] (.tuple #[numV b p q e, .bool true]) := tot_lit (rulesYa_ok hL hN) (mRatT_hk base n m b p q e hL hN) (by kernel_rfl) (by repeat' (first | refine List.forall_mem_cons.2 ⟨?_, ?_⟩ | exact (fun _ h => nomatch h) | assumption | kernel_rfl))
theorem mRatN_tree (K : Value → Nat → Prop) (base : World) (n m : Int) (b : Bool) (p q e : Int) :
    funcK (env (rulesYa 23 [.int .i64 n, .int .i64 m] (.tuple #[decC b p q e, .bool true]) 12 [decC b p q e] nullV)) 30 84 [.string sDiv, monthsV n, monthsV m] tabs Tryz.prog.globals.size (fun u _ _ mw => K u mw) =
  (Same [Value.int IntKind.i64 n, Value.int IntKind.i64 m] [Value.int IntKind.i64 n, Value.int IntKind.i64 m] ∧
 Same [Value.agg (Array.mk [Value.bool b, Value.int IntKind.u64 p, Value.int IntKind.u64 q, Value.int IntKind.i64 e])]
 [Value.agg (Array.mk [Value.bool b, Value.int IntKind.u64 p, Value.int IntKind.u64 q, Value.int IntKind.i64 e])] ∧
 K (Value.tuple (Array.mk [Value.agg (Array.mk [Value.nilIface]), Value.bool Bool.true])) (12 : Nat)) := by kernel_rfl
theorem mRatN_hk (base : World) (n m : Int) (b : Bool) (p q e : Int) (hL : Tot base 23 [.int .i64 n, .int .i64 m] (.tuple #[decC b p q e, .bool true])) (hN : Tot base 12 [decC b p q e] nullV) : ReckE (env (rulesYa 23 [.int .i64 n, .int .i64 m] (.tuple #[decC b p q e, .bool true]) 12 [decC b p q e] nullV)) 30 84 [.string sDiv, monthsV n, monthsV m] ((· = .tuple #[nullV, .bool true])) := by
  constructor
  rw [mRatN_tree fun u mw => u = .tuple #[nullV, .bool true] ∧ Tryz.prog.globals.size ≤ mw]
  repeat' (first
    | exact ⟨rfl, Nat.le_of_ble_eq_true (by kernel_rfl)⟩
    | exact rfl
    | assumption
    | refine And.intro ?_ ?_
    | refine bsel_of (fun _ => ?_) (fun _ => ?_)
    | intro _)
  all_goals (exfalso; first | contradiction | (simp_all; done) | (simp only [addOk, spanOk, decide_eq_true_eq, decide_eq_false_iff_not, ge_iff_le, Bool.and_eq_true] at *; omega))
theorem mRatN  (base : World) (n m : Int) (b : Bool) (p q e : Int) (hL : Tot base 23 [.int .i64 n, .int .i64 m] (.tuple #[decC b p q e, .bool true])) (hN : Tot base 12 [decC b p q e] nullV) : Tot base 84 [.string sDiv, monthsV n, monthsV m] (.tuple #[nullV, .bool true]) := tot_lit (rulesYa_ok hL hN) (mRatN_hk base n m b p q e hL hN) (by kernel_rfl) (by repeat' (first | refine List.forall_mem_cons.2 ⟨?_, ?_⟩ | exact (fun _ h => nomatch h) | assumption | kernel_rfl))
theorem mRatF_tree (K : Value → Nat → Prop) (base : World) (n m : Int) (b : Bool) (p q e : Int) (x : Value) :
    funcK (env (rulesYa 23 [.int .i64 n, .int .i64 m] (.tuple #[decC b p q e, .bool false]) 12 [decC b p q e] (.agg ⟨[x]⟩))) 30 84 [.string sDiv, monthsV n, monthsV m] tabs Tryz.prog.globals.size (fun u _ _ mw => K u mw) =
  (Same [Value.int IntKind.i64 n, Value.int IntKind.i64 m] [Value.int IntKind.i64 n, Value.int IntKind.i64 m] ∧
 Same [Value.agg (Array.mk [Value.bool b, Value.int IntKind.u64 p, Value.int IntKind.u64 q, Value.int IntKind.i64 e])]
 [Value.agg (Array.mk [Value.bool b, Value.int IntKind.u64 p, Value.int IntKind.u64 q, Value.int IntKind.i64 e])] ∧
 K (Value.tuple (Array.mk [Value.agg (Array.mk [Value.nilIface]), Value.bool Bool.true])) (12 : Nat)) := by kernel_rfl
theorem mRatF_hk (base : World) (n m : Int) (b : Bool) (p q e : Int) (x : Value) (hL : Tot base 23 [.int .i64 n, .int .i64 m] (.tuple #[decC b p q e, .bool false])) (hN : Tot base 12 [decC b p q e] (.agg ⟨[x]⟩)) : ReckE (env (rulesYa 23 [.int .i64 n, .int .i64 m] (.tuple #[decC b p q e, .bool false]) 12 [decC b p q e] (.agg ⟨[x]⟩))) 30 84 [.string sDiv, monthsV n, monthsV m] ((· = .tuple #[nullV, .bool true])) := by
  constructor
  rw [mRatF_tree fun u mw => u = .tuple #[nullV, .bool true] ∧ Tryz.prog.globals.size ≤ mw]
  repeat' (first
    | exact ⟨rfl, Nat.le_of_ble_eq_true (by kernel_rfl)⟩
    | exact rfl
    | assumption
    | refine And.intro ?_ ?_
    | refine bsel_of (fun _ => ?_) (fun _ => ?_)
    | intro _)
  all_goals (exfalso; first | contradiction | (simp_all; done) | (simp only [addOk, spanOk, decide_eq_true_eq, decide_eq_false_iff_not, ge_iff_le, Bool.and_eq_true] at *; omega))
theorem mRatF  (base : World) (n m : Int) (b : Bool) (p q e : Int) (x : Value) (hL : Tot base 23 [.int .i64 n, .int .i64 m] (.tuple #[decC b p q e, .bool false])) (hN : Tot base 12 [decC b p q e] (.agg ⟨[x]⟩)) : Tot base 84 [.string sDiv, monthsV n, monthsV m] (.tuple #[nullV, .bool true]) := tot_lit (rulesYa_ok hL hN) (mRatF_hk base n m b p q e x hL hN) (by kernel_rfl) (by repeat' (first | refine List.forall_mem_cons.2 ⟨?_, ?_⟩ | exact (fun _ h => nomatch h) | assumption | kernel_rfl))
theorem xAddN_tree (K : Value → Nat → Prop) (base : World) (n m : Int) :
    funcK (env (rulesKa)) 30 84 [.string sAdd, daysV n, monthsV m] tabs Tryz.prog.globals.size (fun u _ _ mw => K u mw) =
  (K (Value.tuple (Array.mk [Value.agg (Array.mk [Value.nilIface]), Value.bool Bool.true])) (12 : Nat)) := by kernel_rfl
theorem xAddN_hk (base : World) (n m : Int)  : ReckE (env (rulesKa)) 30 84 [.string sAdd, daysV n, monthsV m] ((· = .tuple #[nullV, .bool true])) := by
  constructor
  rw [xAddN_tree fun u mw => u = .tuple #[nullV, .bool true] ∧ Tryz.prog.globals.size ≤ mw]
  repeat' (first
    | exact ⟨rfl, Nat.le_of_ble_eq_true (by kernel_rfl)⟩
    | exact rfl
    | assumption
    | refine And.intro ?_ ?_
    | refine bsel_of (fun _ => ?_) (fun _ => ?_)
    | intro _)
  all_goals (exfalso; first | contradiction | (simp_all; done) | (simp only [addOk, spanOk, decide_eq_true_eq, decide_eq_false_iff_not, ge_iff_le, Bool.and_eq_true] at *; omega))
theorem xAddN  (base : World) (n m : Int)  : Tot base 84 [.string sAdd, daysV n, monthsV m] (.tuple #[nullV, .bool true]) := tot_lit (rulesKa_ok base) (xAddN_hk base n m) (by kernel_rfl) (by repeat' (first | refine List.forall_mem_cons.2 ⟨?_, ?_⟩ | exact (fun _ h => nomatch h) | assumption | kernel_rfl))
theorem xDivN_tree (K : Value → Nat → Prop) (base : World) (n : Int) (b : Bool) (p q e : Int) :
    funcK (env (rulesKa)) 30 84 [.string sDiv, numV b p q e, daysV n] tabs Tryz.prog.globals.size (fun u _ _ mw => K u mw) =
  (K (Value.tuple (Array.mk [Value.agg (Array.mk [Value.nilIface]), Value.bool Bool.true])) (12 : Nat)) := by kernel_rfl
theorem xDivN_hk (base : World) (n : Int) (b : Bool) (p q e : Int)  : ReckE (env (rulesKa)) 30 84 [.string sDiv, numV b p q e, daysV n] ((· = .tuple #[nullV, .bool true])) := by
  constructor
  rw [xDivN_tree fun u mw => u = .tuple #[nullV, .bool true] ∧ Tryz.prog.globals.size ≤ mw]
  repeat' (first
    | exact ⟨rfl, Nat.le_of_ble_eq_true (by kernel_rfl)⟩
    | exact rfl
    | assumption
    | refine And.intro ?_ ?_
    | refine bsel_of (fun _ => ?_) (fun _ => ?_)
    | intro _)
  all_goals (exfalso; first | contradiction | (simp_all; done) | (simp only [addOk, spanOk, decide_eq_true_eq, decide_eq_false_iff_not, ge_iff_le, Bool.and_eq_true] at *; omega))
theorem xDivN  (base : World) (n : Int) (b : Bool) (p q e : Int)  : Tot base 84 [.string sDiv, numV b p q e, daysV n] (.tuple #[nullV, .bool true]) := tot_lit (rulesKa_ok base) (xDivN_hk base n b p q e) (by kernel_rfl) (by repeat' (first | refine List.forall_mem_cons.2 ⟨?_, ?_⟩ | exact (fun _ h => nomatch h) | assumption | kernel_rfl))
theorem xMulN_tree (K : Value → Nat → Prop) (base : World) (n m : Int) :
    funcK (env (rulesKa)) 30 84 [.string sMul, daysV n, daysV m] tabs Tryz.prog.globals.size (fun u _ _ mw => K u mw) =
  (K (Value.tuple (Array.mk [Value.agg (Array.mk [Value.nilIface]), Value.bool Bool.true])) (12 : Nat)) := by kernel_rfl
theorem xMulN_hk (base : World) (n m : Int)  : ReckE (env (rulesKa)) 30 84 [.string sMul, daysV n, daysV m] ((· = .tuple #[nullV, .bool true])) := by
  constructor
  rw [xMulN_tree fun u mw => u = .tuple #[nullV, .bool true] ∧ Tryz.prog.globals.size ≤ mw]
  repeat' (first
    | exact ⟨rfl, Nat.le_of_ble_eq_true (by kernel_rfl)⟩
    | exact rfl
    | assumption
    | refine And.intro ?_ ?_
    | refine bsel_of (fun _ => ?_) (fun _ => ?_)
    | intro _)
  all_goals (exfalso; first | contradiction | (simp_all; done) | (simp only [addOk, spanOk, decide_eq_true_eq, decide_eq_false_iff_not, ge_iff_le, Bool.and_eq_true] at *; omega))
theorem xMulN  (base : World) (n m : Int)  : Tot base 84 [.string sMul, daysV n, daysV m] (.tuple #[nullV, .bool true]) := tot_lit (rulesKa_ok base) (xMulN_hk base n m) (by kernel_rfl) (by repeat' (first | refine List.forall_mem_cons.2 ⟨?_, ?_⟩ | exact (fun _ h => nomatch h) | assumption | kernel_rfl))
end Go.Proofs.YtdbjbmdaekgbhaaGreatDoor
