/-
  What 'timefun.Arith' comes to, of each kind, by what the layers below come to.
-/
import Derived.Test.YteaebpmgbpnbeaaGreatDoorFb
namespace Go.Proofs.YteaebpmgbpnbeaaGreatDoor
open Go Go.Pe Go.RowKit

def sPlus : ByteArray := ⟨#[43]⟩
def sMinus : ByteArray := ⟨#[45]⟩
def rulesK : List (Nat × Rule) := rulesC litK rules4
theorem rulesK_ok (base : World) : ∀ x ∈ rulesK, RuleOk Tryz.prog base x.1 x.2 := rulesC_ok lit_way (rules4_ok base)
def rulesX (f : Nat) (xs : List Value) (v : Value) : List (Nat × Rule) := (f, ruleAt xs v) :: rulesK
theorem rulesX_ok {base : World} {f : Nat} {xs : List Value} {v : Value} (h : Tot base f xs v) : ∀ x ∈ rulesX f xs v, RuleOk Tryz.prog base x.1 x.2 := List.forall_mem_cons.2 ⟨ruleOk_at h, rulesK_ok base⟩

theorem wOne {n : Int} (h : spanOk n) : IntKind.wrap .i64 (1 * n) = n := by
  unfold spanOk at h
  rw [Int.one_mul]
  exact wrap_i64 _ (by unfold rng; omega)
theorem wNeg {n : Int} (h : spanOk n) : IntKind.wrap .i64 (-1 * n) = -n := by
  unfold spanOk at h
  rw [Int.neg_one_mul]
  exact wrap_i64 _ (by unfold rng; omega)
theorem wSub {n : Int} (h : spanOk n) : IntKind.wrap .i64 (0 - n) = -n := by
  unfold spanOk at h
  rw [Int.zero_sub]
  exact wrap_i64 _ (by unfold rng; omega)


theorem aLaterT_tree (K : Value → Nat → Prop) (base : World) (y m d s o : Int) (z : Bool) (n : Int) (y2 m2 d2 s2 o2 : Int) (z2 : Bool) :
    funcK (env (rulesX 29 [momentC y m d s z o, .int .i64 n] (.tuple #[momentC y2 m2 d2 s2 z2 o2, .bool true]))) 30 90 [.string sPlus, momentV y m d s z o, daysV n] tabs Tryz.prog.globals.size (fun u _ _ mw => K u mw) =
  (Go.Proofs.YteaebpmgbpnbeaaGreatDoor.Same
 [Go.Value.agg
 (Array.mk [Go.Value.int Go.IntKind.i64 y, Go.Value.int Go.IntKind.i64 m, Go.Value.int Go.IntKind.i64 d, Go.Value.int Go.IntKind.i64 s, Go.Value.bool z, Go.Value.int Go.IntKind.i64 o]),
 Go.Value.int Go.IntKind.i64 (Go.IntKind.wrap Go.IntKind.i64 ((1 : Int) * n))]
 [Go.Value.agg
 (Array.mk [Go.Value.int Go.IntKind.i64 y, Go.Value.int Go.IntKind.i64 m, Go.Value.int Go.IntKind.i64 d, Go.Value.int Go.IntKind.i64 s, Go.Value.bool z, Go.Value.int Go.IntKind.i64 o]),
 Go.Value.int Go.IntKind.i64 n] ∧
 (Go.Proofs.YteaebpmgbpnbeaaGreatDoor.dateOk y2 m2 d2 ∧ Go.Proofs.YteaebpmgbpnbeaaGreatDoor.timeOk s2 z2 o2 →
 K
 (Go.Value.tuple
 (Array.mk
 [Go.Value.agg
 (Array.mk
 [Go.Value.iface (142 : Nat)
 (Go.Value.agg
 (Array.mk
 [Go.Value.int Go.IntKind.i64 y2, Go.Value.int Go.IntKind.i64 m2, Go.Value.int Go.IntKind.i64 d2, Go.Value.int Go.IntKind.i64 s2, Go.Value.bool z2,
 Go.Value.int Go.IntKind.i64 o2]))]),
 Go.Value.bool Bool.true]))
 (12 : Nat)) ∧
 (¬(Go.Proofs.YteaebpmgbpnbeaaGreatDoor.dateOk y2 m2 d2 ∧ Go.Proofs.YteaebpmgbpnbeaaGreatDoor.timeOk s2 z2 o2) →
 K (Go.Value.tuple (Array.mk [Go.Value.agg (Array.mk [Go.Value.nilIface]), Go.Value.bool Bool.true])) (12 : Nat))) := by kernel_rfl
theorem aLaterT_hk (base : World) (y m d s o : Int) (z : Bool) (n : Int) (y2 m2 d2 s2 o2 : Int) (z2 : Bool) (hL : Tot base 29 [momentC y m d s z o, .int .i64 n] (.tuple #[momentC y2 m2 d2 s2 z2 o2, .bool true])) (hd : dateOk y2 m2 d2) (ht : timeOk s2 z2 o2) (hn : spanOk n) : ReckE (env (rulesX 29 [momentC y m d s z o, .int .i64 n] (.tuple #[momentC y2 m2 d2 s2 z2 o2, .bool true]))) 30 90 [.string sPlus, momentV y m d s z o, daysV n] ((· = .tuple #[momentV y2 m2 d2 s2 z2 o2, .bool true])) := by
  constructor
  rw [aLaterT_tree fun u mw => u = .tuple #[momentV y2 m2 d2 s2 z2 o2, .bool true] ∧ Tryz.prog.globals.size ≤ mw]
  try simp only [wOne hn, wNeg hn]
  repeat' (first
    | exact ⟨rfl, Nat.le_of_ble_eq_true (by kernel_rfl)⟩
    | exact rfl
    | assumption
    | refine And.intro ?_ ?_
    | refine bsel_of (fun _ => ?_) (fun _ => ?_)
    | intro _)
  all_goals (exfalso; first | contradiction | (simp_all; done) | (simp_all; omega))
theorem aLaterT  (base : World) (y m d s o : Int) (z : Bool) (n : Int) (y2 m2 d2 s2 o2 : Int) (z2 : Bool) (hL : Tot base 29 [momentC y m d s z o, .int .i64 n] (.tuple #[momentC y2 m2 d2 s2 z2 o2, .bool true])) (hd : dateOk y2 m2 d2) (ht : timeOk s2 z2 o2) (hn : spanOk n) : Tot base 90 [.string sPlus, momentV y m d s z o, daysV n] (.tuple #[momentV y2 m2 d2 s2 z2 o2, .bool true]) := tot_lit (rulesX_ok hL) (aLaterT_hk base y m d s o z n y2 m2 d2 s2 o2 z2 hL hd ht hn) (by kernel_rfl) (by repeat' (first | refine List.forall_mem_cons.2 ⟨?_, ?_⟩ | exact (fun _ h => nomatch h) | assumption | kernel_rfl))
theorem aLaterF_tree (K : Value → Nat → Prop) (base : World) (y m d s o : Int) (z : Bool) (n : Int) (y2 m2 d2 s2 o2 : Int) (z2 : Bool) :
    funcK (env (rulesX 29 [momentC y m d s z o, .int .i64 n] (.tuple #[momentC y2 m2 d2 s2 z2 o2, .bool false]))) 30 90 [.string sPlus, momentV y m d s z o, daysV n] tabs Tryz.prog.globals.size (fun u _ _ mw => K u mw) =
  (Go.Proofs.YteaebpmgbpnbeaaGreatDoor.Same
 [Go.Value.agg
 (Array.mk [Go.Value.int Go.IntKind.i64 y, Go.Value.int Go.IntKind.i64 m, Go.Value.int Go.IntKind.i64 d, Go.Value.int Go.IntKind.i64 s, Go.Value.bool z, Go.Value.int Go.IntKind.i64 o]),
 Go.Value.int Go.IntKind.i64 (Go.IntKind.wrap Go.IntKind.i64 ((1 : Int) * n))]
 [Go.Value.agg
 (Array.mk [Go.Value.int Go.IntKind.i64 y, Go.Value.int Go.IntKind.i64 m, Go.Value.int Go.IntKind.i64 d, Go.Value.int Go.IntKind.i64 s, Go.Value.bool z, Go.Value.int Go.IntKind.i64 o]),
 Go.Value.int Go.IntKind.i64 n] ∧
 (Go.Proofs.YteaebpmgbpnbeaaGreatDoor.dateOk y2 m2 d2 ∧ Go.Proofs.YteaebpmgbpnbeaaGreatDoor.timeOk s2 z2 o2 →
 K (Go.Value.tuple (Array.mk [Go.Value.agg (Array.mk [Go.Value.nilIface]), Go.Value.bool Bool.true])) (12 : Nat)) ∧
 (¬(Go.Proofs.YteaebpmgbpnbeaaGreatDoor.dateOk y2 m2 d2 ∧ Go.Proofs.YteaebpmgbpnbeaaGreatDoor.timeOk s2 z2 o2) →
 K (Go.Value.tuple (Array.mk [Go.Value.agg (Array.mk [Go.Value.nilIface]), Go.Value.bool Bool.true])) (12 : Nat))) := by kernel_rfl
theorem aLaterF_hk (base : World) (y m d s o : Int) (z : Bool) (n : Int) (y2 m2 d2 s2 o2 : Int) (z2 : Bool) (hL : Tot base 29 [momentC y m d s z o, .int .i64 n] (.tuple #[momentC y2 m2 d2 s2 z2 o2, .bool false])) (hn : spanOk n) : ReckE (env (rulesX 29 [momentC y m d s z o, .int .i64 n] (.tuple #[momentC y2 m2 d2 s2 z2 o2, .bool false]))) 30 90 [.string sPlus, momentV y m d s z o, daysV n] ((· = .tuple #[nullV, .bool true])) := by
  constructor
  rw [aLaterF_tree fun u mw => u = .tuple #[nullV, .bool true] ∧ Tryz.prog.globals.size ≤ mw]
  try simp only [wOne hn, wNeg hn]
  repeat' (first
    | exact ⟨rfl, Nat.le_of_ble_eq_true (by kernel_rfl)⟩
    | exact rfl
    | assumption
    | refine And.intro ?_ ?_
    | refine bsel_of (fun _ => ?_) (fun _ => ?_)
    | intro _)
  all_goals (exfalso; first | contradiction | (simp_all; done) | (simp_all; omega))
theorem aLaterF  (base : World) (y m d s o : Int) (z : Bool) (n : Int) (y2 m2 d2 s2 o2 : Int) (z2 : Bool) (hL : Tot base 29 [momentC y m d s z o, .int .i64 n] (.tuple #[momentC y2 m2 d2 s2 z2 o2, .bool false])) (hn : spanOk n) : Tot base 90 [.string sPlus, momentV y m d s z o, daysV n] (.tuple #[nullV, .bool true]) := tot_lit (rulesX_ok hL) (aLaterF_hk base y m d s o z n y2 m2 d2 s2 o2 z2 hL hn) (by kernel_rfl) (by repeat' (first | refine List.forall_mem_cons.2 ⟨?_, ?_⟩ | exact (fun _ h => nomatch h) | assumption | kernel_rfl))
theorem aLater2T_tree (K : Value → Nat → Prop) (base : World) (y m d s o : Int) (z : Bool) (n : Int) (y2 m2 d2 s2 o2 : Int) (z2 : Bool) :
    funcK (env (rulesX 29 [momentC y m d s z o, .int .i64 n] (.tuple #[momentC y2 m2 d2 s2 z2 o2, .bool true]))) 30 90 [.string sPlus, daysV n, momentV y m d s z o] tabs Tryz.prog.globals.size (fun u _ _ mw => K u mw) =
  (Go.Proofs.YteaebpmgbpnbeaaGreatDoor.Same
 [Go.Value.agg
 (Array.mk [Go.Value.int Go.IntKind.i64 y, Go.Value.int Go.IntKind.i64 m, Go.Value.int Go.IntKind.i64 d, Go.Value.int Go.IntKind.i64 s, Go.Value.bool z, Go.Value.int Go.IntKind.i64 o]),
 Go.Value.int Go.IntKind.i64 (Go.IntKind.wrap Go.IntKind.i64 ((1 : Int) * n))]
 [Go.Value.agg
 (Array.mk [Go.Value.int Go.IntKind.i64 y, Go.Value.int Go.IntKind.i64 m, Go.Value.int Go.IntKind.i64 d, Go.Value.int Go.IntKind.i64 s, Go.Value.bool z, Go.Value.int Go.IntKind.i64 o]),
 Go.Value.int Go.IntKind.i64 n] ∧
 (Go.Proofs.YteaebpmgbpnbeaaGreatDoor.dateOk y2 m2 d2 ∧ Go.Proofs.YteaebpmgbpnbeaaGreatDoor.timeOk s2 z2 o2 →
 K
 (Go.Value.tuple
 (Array.mk
 [Go.Value.agg
 (Array.mk
 [Go.Value.iface (142 : Nat)
 (Go.Value.agg
 (Array.mk
 [Go.Value.int Go.IntKind.i64 y2, Go.Value.int Go.IntKind.i64 m2, Go.Value.int Go.IntKind.i64 d2, Go.Value.int Go.IntKind.i64 s2, Go.Value.bool z2,
 Go.Value.int Go.IntKind.i64 o2]))]),
 Go.Value.bool Bool.true]))
 (12 : Nat)) ∧
 (¬(Go.Proofs.YteaebpmgbpnbeaaGreatDoor.dateOk y2 m2 d2 ∧ Go.Proofs.YteaebpmgbpnbeaaGreatDoor.timeOk s2 z2 o2) →
 K (Go.Value.tuple (Array.mk [Go.Value.agg (Array.mk [Go.Value.nilIface]), Go.Value.bool Bool.true])) (12 : Nat))) := by kernel_rfl
theorem aLater2T_hk (base : World) (y m d s o : Int) (z : Bool) (n : Int) (y2 m2 d2 s2 o2 : Int) (z2 : Bool) (hL : Tot base 29 [momentC y m d s z o, .int .i64 n] (.tuple #[momentC y2 m2 d2 s2 z2 o2, .bool true])) (hd : dateOk y2 m2 d2) (ht : timeOk s2 z2 o2) (hn : spanOk n) : ReckE (env (rulesX 29 [momentC y m d s z o, .int .i64 n] (.tuple #[momentC y2 m2 d2 s2 z2 o2, .bool true]))) 30 90 [.string sPlus, daysV n, momentV y m d s z o] ((· = .tuple #[momentV y2 m2 d2 s2 z2 o2, .bool true])) := by
  constructor
  rw [aLater2T_tree fun u mw => u = .tuple #[momentV y2 m2 d2 s2 z2 o2, .bool true] ∧ Tryz.prog.globals.size ≤ mw]
  try simp only [wOne hn, wNeg hn]
  repeat' (first
    | exact ⟨rfl, Nat.le_of_ble_eq_true (by kernel_rfl)⟩
    | exact rfl
    | assumption
    | refine And.intro ?_ ?_
    | refine bsel_of (fun _ => ?_) (fun _ => ?_)
    | intro _)
  all_goals (exfalso; first | contradiction | (simp_all; done) | (simp_all; omega))
theorem aLater2T  (base : World) (y m d s o : Int) (z : Bool) (n : Int) (y2 m2 d2 s2 o2 : Int) (z2 : Bool) (hL : Tot base 29 [momentC y m d s z o, .int .i64 n] (.tuple #[momentC y2 m2 d2 s2 z2 o2, .bool true])) (hd : dateOk y2 m2 d2) (ht : timeOk s2 z2 o2) (hn : spanOk n) : Tot base 90 [.string sPlus, daysV n, momentV y m d s z o] (.tuple #[momentV y2 m2 d2 s2 z2 o2, .bool true]) := tot_lit (rulesX_ok hL) (aLater2T_hk base y m d s o z n y2 m2 d2 s2 o2 z2 hL hd ht hn) (by kernel_rfl) (by repeat' (first | refine List.forall_mem_cons.2 ⟨?_, ?_⟩ | exact (fun _ h => nomatch h) | assumption | kernel_rfl))
theorem aLater2F_tree (K : Value → Nat → Prop) (base : World) (y m d s o : Int) (z : Bool) (n : Int) (y2 m2 d2 s2 o2 : Int) (z2 : Bool) :
    funcK (env (rulesX 29 [momentC y m d s z o, .int .i64 n] (.tuple #[momentC y2 m2 d2 s2 z2 o2, .bool false]))) 30 90 [.string sPlus, daysV n, momentV y m d s z o] tabs Tryz.prog.globals.size (fun u _ _ mw => K u mw) =
  (Go.Proofs.YteaebpmgbpnbeaaGreatDoor.Same
 [Go.Value.agg
 (Array.mk [Go.Value.int Go.IntKind.i64 y, Go.Value.int Go.IntKind.i64 m, Go.Value.int Go.IntKind.i64 d, Go.Value.int Go.IntKind.i64 s, Go.Value.bool z, Go.Value.int Go.IntKind.i64 o]),
 Go.Value.int Go.IntKind.i64 (Go.IntKind.wrap Go.IntKind.i64 ((1 : Int) * n))]
 [Go.Value.agg
 (Array.mk [Go.Value.int Go.IntKind.i64 y, Go.Value.int Go.IntKind.i64 m, Go.Value.int Go.IntKind.i64 d, Go.Value.int Go.IntKind.i64 s, Go.Value.bool z, Go.Value.int Go.IntKind.i64 o]),
 Go.Value.int Go.IntKind.i64 n] ∧
 (Go.Proofs.YteaebpmgbpnbeaaGreatDoor.dateOk y2 m2 d2 ∧ Go.Proofs.YteaebpmgbpnbeaaGreatDoor.timeOk s2 z2 o2 →
 K (Go.Value.tuple (Array.mk [Go.Value.agg (Array.mk [Go.Value.nilIface]), Go.Value.bool Bool.true])) (12 : Nat)) ∧
 (¬(Go.Proofs.YteaebpmgbpnbeaaGreatDoor.dateOk y2 m2 d2 ∧ Go.Proofs.YteaebpmgbpnbeaaGreatDoor.timeOk s2 z2 o2) →
 K (Go.Value.tuple (Array.mk [Go.Value.agg (Array.mk [Go.Value.nilIface]), Go.Value.bool Bool.true])) (12 : Nat))) := by kernel_rfl
theorem aLater2F_hk (base : World) (y m d s o : Int) (z : Bool) (n : Int) (y2 m2 d2 s2 o2 : Int) (z2 : Bool) (hL : Tot base 29 [momentC y m d s z o, .int .i64 n] (.tuple #[momentC y2 m2 d2 s2 z2 o2, .bool false])) (hn : spanOk n) : ReckE (env (rulesX 29 [momentC y m d s z o, .int .i64 n] (.tuple #[momentC y2 m2 d2 s2 z2 o2, .bool false]))) 30 90 [.string sPlus, daysV n, momentV y m d s z o] ((· = .tuple #[nullV, .bool true])) := by
  constructor
  rw [aLater2F_tree fun u mw => u = .tuple #[nullV, .bool true] ∧ Tryz.prog.globals.size ≤ mw]
  try simp only [wOne hn, wNeg hn]
  repeat' (first
    | exact ⟨rfl, Nat.le_of_ble_eq_true (by kernel_rfl)⟩
    | exact rfl
    | assumption
    | refine And.intro ?_ ?_
    | refine bsel_of (fun _ => ?_) (fun _ => ?_)
    | intro _)
  all_goals (exfalso; first | contradiction | (simp_all; done) | (simp_all; omega))
theorem aLater2F  (base : World) (y m d s o : Int) (z : Bool) (n : Int) (y2 m2 d2 s2 o2 : Int) (z2 : Bool) (hL : Tot base 29 [momentC y m d s z o, .int .i64 n] (.tuple #[momentC y2 m2 d2 s2 z2 o2, .bool false])) (hn : spanOk n) : Tot base 90 [.string sPlus, daysV n, momentV y m d s z o] (.tuple #[nullV, .bool true]) := tot_lit (rulesX_ok hL) (aLater2F_hk base y m d s o z n y2 m2 d2 s2 o2 z2 hL hn) (by kernel_rfl) (by repeat' (first | refine List.forall_mem_cons.2 ⟨?_, ?_⟩ | exact (fun _ h => nomatch h) | assumption | kernel_rfl))
theorem aMonthsT_tree (K : Value → Nat → Prop) (base : World) (y m d s o : Int) (z : Bool) (n : Int) (y2 m2 d2 s2 o2 : Int) (z2 : Bool) :
    funcK (env (rulesX 30 [momentC y m d s z o, .int .i64 n] (.tuple #[momentC y2 m2 d2 s2 z2 o2, .bool true]))) 30 90 [.string sPlus, momentV y m d s z o, monthsV n] tabs Tryz.prog.globals.size (fun u _ _ mw => K u mw) =
  (Go.Proofs.YteaebpmgbpnbeaaGreatDoor.Same
 [Go.Value.agg
 (Array.mk [Go.Value.int Go.IntKind.i64 y, Go.Value.int Go.IntKind.i64 m, Go.Value.int Go.IntKind.i64 d, Go.Value.int Go.IntKind.i64 s, Go.Value.bool z, Go.Value.int Go.IntKind.i64 o]),
 Go.Value.int Go.IntKind.i64 (Go.IntKind.wrap Go.IntKind.i64 ((1 : Int) * n))]
 [Go.Value.agg
 (Array.mk [Go.Value.int Go.IntKind.i64 y, Go.Value.int Go.IntKind.i64 m, Go.Value.int Go.IntKind.i64 d, Go.Value.int Go.IntKind.i64 s, Go.Value.bool z, Go.Value.int Go.IntKind.i64 o]),
 Go.Value.int Go.IntKind.i64 n] ∧
 (Go.Proofs.YteaebpmgbpnbeaaGreatDoor.dateOk y2 m2 d2 ∧ Go.Proofs.YteaebpmgbpnbeaaGreatDoor.timeOk s2 z2 o2 →
 K
 (Go.Value.tuple
 (Array.mk
 [Go.Value.agg
 (Array.mk
 [Go.Value.iface (142 : Nat)
 (Go.Value.agg
 (Array.mk
 [Go.Value.int Go.IntKind.i64 y2, Go.Value.int Go.IntKind.i64 m2, Go.Value.int Go.IntKind.i64 d2, Go.Value.int Go.IntKind.i64 s2, Go.Value.bool z2,
 Go.Value.int Go.IntKind.i64 o2]))]),
 Go.Value.bool Bool.true]))
 (12 : Nat)) ∧
 (¬(Go.Proofs.YteaebpmgbpnbeaaGreatDoor.dateOk y2 m2 d2 ∧ Go.Proofs.YteaebpmgbpnbeaaGreatDoor.timeOk s2 z2 o2) →
 K (Go.Value.tuple (Array.mk [Go.Value.agg (Array.mk [Go.Value.nilIface]), Go.Value.bool Bool.true])) (12 : Nat))) := by kernel_rfl
theorem aMonthsT_hk (base : World) (y m d s o : Int) (z : Bool) (n : Int) (y2 m2 d2 s2 o2 : Int) (z2 : Bool) (hL : Tot base 30 [momentC y m d s z o, .int .i64 n] (.tuple #[momentC y2 m2 d2 s2 z2 o2, .bool true])) (hd : dateOk y2 m2 d2) (ht : timeOk s2 z2 o2) (hn : spanOk n) : ReckE (env (rulesX 30 [momentC y m d s z o, .int .i64 n] (.tuple #[momentC y2 m2 d2 s2 z2 o2, .bool true]))) 30 90 [.string sPlus, momentV y m d s z o, monthsV n] ((· = .tuple #[momentV y2 m2 d2 s2 z2 o2, .bool true])) := by
  constructor
  rw [aMonthsT_tree fun u mw => u = .tuple #[momentV y2 m2 d2 s2 z2 o2, .bool true] ∧ Tryz.prog.globals.size ≤ mw]
  try simp only [wOne hn, wNeg hn]
  repeat' (first
    | exact ⟨rfl, Nat.le_of_ble_eq_true (by kernel_rfl)⟩
    | exact rfl
    | assumption
    | refine And.intro ?_ ?_
    | refine bsel_of (fun _ => ?_) (fun _ => ?_)
    | intro _)
  all_goals (exfalso; first | contradiction | (simp_all; done) | (simp_all; omega))
theorem aMonthsT  (base : World) (y m d s o : Int) (z : Bool) (n : Int) (y2 m2 d2 s2 o2 : Int) (z2 : Bool) (hL : Tot base 30 [momentC y m d s z o, .int .i64 n] (.tuple #[momentC y2 m2 d2 s2 z2 o2, .bool true])) (hd : dateOk y2 m2 d2) (ht : timeOk s2 z2 o2) (hn : spanOk n) : Tot base 90 [.string sPlus, momentV y m d s z o, monthsV n] (.tuple #[momentV y2 m2 d2 s2 z2 o2, .bool true]) := tot_lit (rulesX_ok hL) (aMonthsT_hk base y m d s o z n y2 m2 d2 s2 o2 z2 hL hd ht hn) (by kernel_rfl) (by repeat' (first | refine List.forall_mem_cons.2 ⟨?_, ?_⟩ | exact (fun _ h => nomatch h) | assumption | kernel_rfl))
theorem aMonthsF_tree (K : Value → Nat → Prop) (base : World) (y m d s o : Int) (z : Bool) (n : Int) (y2 m2 d2 s2 o2 : Int) (z2 : Bool) :
    funcK (env (rulesX 30 [momentC y m d s z o, .int .i64 n] (.tuple #[momentC y2 m2 d2 s2 z2 o2, .bool false]))) 30 90 [.string sPlus, momentV y m d s z o, monthsV n] tabs Tryz.prog.globals.size (fun u _ _ mw => K u mw) =
  (Go.Proofs.YteaebpmgbpnbeaaGreatDoor.Same
 [Go.Value.agg
 (Array.mk [Go.Value.int Go.IntKind.i64 y, Go.Value.int Go.IntKind.i64 m, Go.Value.int Go.IntKind.i64 d, Go.Value.int Go.IntKind.i64 s, Go.Value.bool z, Go.Value.int Go.IntKind.i64 o]),
 Go.Value.int Go.IntKind.i64 (Go.IntKind.wrap Go.IntKind.i64 ((1 : Int) * n))]
 [Go.Value.agg
 (Array.mk [Go.Value.int Go.IntKind.i64 y, Go.Value.int Go.IntKind.i64 m, Go.Value.int Go.IntKind.i64 d, Go.Value.int Go.IntKind.i64 s, Go.Value.bool z, Go.Value.int Go.IntKind.i64 o]),
 Go.Value.int Go.IntKind.i64 n] ∧
 (Go.Proofs.YteaebpmgbpnbeaaGreatDoor.dateOk y2 m2 d2 ∧ Go.Proofs.YteaebpmgbpnbeaaGreatDoor.timeOk s2 z2 o2 →
 K (Go.Value.tuple (Array.mk [Go.Value.agg (Array.mk [Go.Value.nilIface]), Go.Value.bool Bool.true])) (12 : Nat)) ∧
 (¬(Go.Proofs.YteaebpmgbpnbeaaGreatDoor.dateOk y2 m2 d2 ∧ Go.Proofs.YteaebpmgbpnbeaaGreatDoor.timeOk s2 z2 o2) →
 K (Go.Value.tuple (Array.mk [Go.Value.agg (Array.mk [Go.Value.nilIface]), Go.Value.bool Bool.true])) (12 : Nat))) := by kernel_rfl
theorem aMonthsF_hk (base : World) (y m d s o : Int) (z : Bool) (n : Int) (y2 m2 d2 s2 o2 : Int) (z2 : Bool) (hL : Tot base 30 [momentC y m d s z o, .int .i64 n] (.tuple #[momentC y2 m2 d2 s2 z2 o2, .bool false])) (hn : spanOk n) : ReckE (env (rulesX 30 [momentC y m d s z o, .int .i64 n] (.tuple #[momentC y2 m2 d2 s2 z2 o2, .bool false]))) 30 90 [.string sPlus, momentV y m d s z o, monthsV n] ((· = .tuple #[nullV, .bool true])) := by
  constructor
  rw [aMonthsF_tree fun u mw => u = .tuple #[nullV, .bool true] ∧ Tryz.prog.globals.size ≤ mw]
  try simp only [wOne hn, wNeg hn]
  repeat' (first
    | exact ⟨rfl, Nat.le_of_ble_eq_true (by kernel_rfl)⟩
    | exact rfl
    | assumption
    | refine And.intro ?_ ?_
    | refine bsel_of (fun _ => ?_) (fun _ => ?_)
    | intro _)
  all_goals (exfalso; first | contradiction | (simp_all; done) | (simp_all; omega))
theorem aMonthsF  (base : World) (y m d s o : Int) (z : Bool) (n : Int) (y2 m2 d2 s2 o2 : Int) (z2 : Bool) (hL : Tot base 30 [momentC y m d s z o, .int .i64 n] (.tuple #[momentC y2 m2 d2 s2 z2 o2, .bool false])) (hn : spanOk n) : Tot base 90 [.string sPlus, momentV y m d s z o, monthsV n] (.tuple #[nullV, .bool true]) := tot_lit (rulesX_ok hL) (aMonthsF_hk base y m d s o z n y2 m2 d2 s2 o2 z2 hL hn) (by kernel_rfl) (by repeat' (first | refine List.forall_mem_cons.2 ⟨?_, ?_⟩ | exact (fun _ h => nomatch h) | assumption | kernel_rfl))
theorem aDLaterT_tree (K : Value → Nat → Prop) (base : World) (y m d n y2 m2 d2 : Int) :
    funcK (env (rulesX 31 [dateC y m d, .int .i64 n] (.tuple #[dateC y2 m2 d2, .bool true]))) 30 90 [.string sPlus, dateV y m d, daysV n] tabs Tryz.prog.globals.size (fun u _ _ mw => K u mw) =
  (Go.Proofs.YteaebpmgbpnbeaaGreatDoor.Same
 [Go.Value.agg (Array.mk [Go.Value.int Go.IntKind.i64 y, Go.Value.int Go.IntKind.i64 m, Go.Value.int Go.IntKind.i64 d]),
 Go.Value.int Go.IntKind.i64 (Go.IntKind.wrap Go.IntKind.i64 ((1 : Int) * n))]
 [Go.Value.agg (Array.mk [Go.Value.int Go.IntKind.i64 y, Go.Value.int Go.IntKind.i64 m, Go.Value.int Go.IntKind.i64 d]), Go.Value.int Go.IntKind.i64 n] ∧
 (Go.Proofs.YteaebpmgbpnbeaaGreatDoor.dateOk y2 m2 d2 →
 K
 (Go.Value.tuple
 (Array.mk
 [Go.Value.agg (Array.mk [Go.Value.iface (143 : Nat) (Go.Value.agg (Array.mk [Go.Value.int Go.IntKind.i64 y2, Go.Value.int Go.IntKind.i64 m2, Go.Value.int Go.IntKind.i64 d2]))]),
 Go.Value.bool Bool.true]))
 (12 : Nat)) ∧
 (¬Go.Proofs.YteaebpmgbpnbeaaGreatDoor.dateOk y2 m2 d2 → K (Go.Value.tuple (Array.mk [Go.Value.agg (Array.mk [Go.Value.nilIface]), Go.Value.bool Bool.true])) (12 : Nat))) := by kernel_rfl
theorem aDLaterT_hk (base : World) (y m d n y2 m2 d2 : Int) (hL : Tot base 31 [dateC y m d, .int .i64 n] (.tuple #[dateC y2 m2 d2, .bool true])) (hd : dateOk y2 m2 d2) (hn : spanOk n) : ReckE (env (rulesX 31 [dateC y m d, .int .i64 n] (.tuple #[dateC y2 m2 d2, .bool true]))) 30 90 [.string sPlus, dateV y m d, daysV n] ((· = .tuple #[dateV y2 m2 d2, .bool true])) := by
  constructor
  rw [aDLaterT_tree fun u mw => u = .tuple #[dateV y2 m2 d2, .bool true] ∧ Tryz.prog.globals.size ≤ mw]
  try simp only [wOne hn, wNeg hn]
  repeat' (first
    | exact ⟨rfl, Nat.le_of_ble_eq_true (by kernel_rfl)⟩
    | exact rfl
    | assumption
    | refine And.intro ?_ ?_
    | refine bsel_of (fun _ => ?_) (fun _ => ?_)
    | intro _)
  all_goals (exfalso; first | contradiction | (simp_all; done) | (simp_all; omega))
theorem aDLaterT  (base : World) (y m d n y2 m2 d2 : Int) (hL : Tot base 31 [dateC y m d, .int .i64 n] (.tuple #[dateC y2 m2 d2, .bool true])) (hd : dateOk y2 m2 d2) (hn : spanOk n) : Tot base 90 [.string sPlus, dateV y m d, daysV n] (.tuple #[dateV y2 m2 d2, .bool true]) := tot_lit (rulesX_ok hL) (aDLaterT_hk base y m d n y2 m2 d2 hL hd hn) (by kernel_rfl) (by repeat' (first | refine List.forall_mem_cons.2 ⟨?_, ?_⟩ | exact (fun _ h => nomatch h) | assumption | kernel_rfl))
theorem aDLaterF_tree (K : Value → Nat → Prop) (base : World) (y m d n y2 m2 d2 : Int) :
    funcK (env (rulesX 31 [dateC y m d, .int .i64 n] (.tuple #[dateC y2 m2 d2, .bool false]))) 30 90 [.string sPlus, dateV y m d, daysV n] tabs Tryz.prog.globals.size (fun u _ _ mw => K u mw) =
  (Go.Proofs.YteaebpmgbpnbeaaGreatDoor.Same
 [Go.Value.agg (Array.mk [Go.Value.int Go.IntKind.i64 y, Go.Value.int Go.IntKind.i64 m, Go.Value.int Go.IntKind.i64 d]),
 Go.Value.int Go.IntKind.i64 (Go.IntKind.wrap Go.IntKind.i64 ((1 : Int) * n))]
 [Go.Value.agg (Array.mk [Go.Value.int Go.IntKind.i64 y, Go.Value.int Go.IntKind.i64 m, Go.Value.int Go.IntKind.i64 d]), Go.Value.int Go.IntKind.i64 n] ∧
 (Go.Proofs.YteaebpmgbpnbeaaGreatDoor.dateOk y2 m2 d2 → K (Go.Value.tuple (Array.mk [Go.Value.agg (Array.mk [Go.Value.nilIface]), Go.Value.bool Bool.true])) (12 : Nat)) ∧
 (¬Go.Proofs.YteaebpmgbpnbeaaGreatDoor.dateOk y2 m2 d2 → K (Go.Value.tuple (Array.mk [Go.Value.agg (Array.mk [Go.Value.nilIface]), Go.Value.bool Bool.true])) (12 : Nat))) := by kernel_rfl
theorem aDLaterF_hk (base : World) (y m d n y2 m2 d2 : Int) (hL : Tot base 31 [dateC y m d, .int .i64 n] (.tuple #[dateC y2 m2 d2, .bool false])) (hn : spanOk n) : ReckE (env (rulesX 31 [dateC y m d, .int .i64 n] (.tuple #[dateC y2 m2 d2, .bool false]))) 30 90 [.string sPlus, dateV y m d, daysV n] ((· = .tuple #[nullV, .bool true])) := by
  constructor
  rw [aDLaterF_tree fun u mw => u = .tuple #[nullV, .bool true] ∧ Tryz.prog.globals.size ≤ mw]
  try simp only [wOne hn, wNeg hn]
  repeat' (first
    | exact ⟨rfl, Nat.le_of_ble_eq_true (by kernel_rfl)⟩
    | exact rfl
    | assumption
    | refine And.intro ?_ ?_
    | refine bsel_of (fun _ => ?_) (fun _ => ?_)
    | intro _)
  all_goals (exfalso; first | contradiction | (simp_all; done) | (simp_all; omega))
theorem aDLaterF  (base : World) (y m d n y2 m2 d2 : Int) (hL : Tot base 31 [dateC y m d, .int .i64 n] (.tuple #[dateC y2 m2 d2, .bool false])) (hn : spanOk n) : Tot base 90 [.string sPlus, dateV y m d, daysV n] (.tuple #[nullV, .bool true]) := tot_lit (rulesX_ok hL) (aDLaterF_hk base y m d n y2 m2 d2 hL hn) (by kernel_rfl) (by repeat' (first | refine List.forall_mem_cons.2 ⟨?_, ?_⟩ | exact (fun _ h => nomatch h) | assumption | kernel_rfl))
theorem aCMonthsT_tree (K : Value → Nat → Prop) (base : World) (y m d n y2 m2 d2 : Int) :
    funcK (env (rulesX 32 [dateC y m d, .int .i64 n] (.tuple #[dateC y2 m2 d2, .bool true]))) 30 90 [.string sPlus, monthsV n, dateV y m d] tabs Tryz.prog.globals.size (fun u _ _ mw => K u mw) =
  (Go.Proofs.YteaebpmgbpnbeaaGreatDoor.Same
 [Go.Value.agg (Array.mk [Go.Value.int Go.IntKind.i64 y, Go.Value.int Go.IntKind.i64 m, Go.Value.int Go.IntKind.i64 d]),
 Go.Value.int Go.IntKind.i64 (Go.IntKind.wrap Go.IntKind.i64 ((1 : Int) * n))]
 [Go.Value.agg (Array.mk [Go.Value.int Go.IntKind.i64 y, Go.Value.int Go.IntKind.i64 m, Go.Value.int Go.IntKind.i64 d]), Go.Value.int Go.IntKind.i64 n] ∧
 (Go.Proofs.YteaebpmgbpnbeaaGreatDoor.dateOk y2 m2 d2 →
 K
 (Go.Value.tuple
 (Array.mk
 [Go.Value.agg (Array.mk [Go.Value.iface (143 : Nat) (Go.Value.agg (Array.mk [Go.Value.int Go.IntKind.i64 y2, Go.Value.int Go.IntKind.i64 m2, Go.Value.int Go.IntKind.i64 d2]))]),
 Go.Value.bool Bool.true]))
 (12 : Nat)) ∧
 (¬Go.Proofs.YteaebpmgbpnbeaaGreatDoor.dateOk y2 m2 d2 → K (Go.Value.tuple (Array.mk [Go.Value.agg (Array.mk [Go.Value.nilIface]), Go.Value.bool Bool.true])) (12 : Nat))) := by kernel_rfl
theorem aCMonthsT_hk (base : World) (y m d n y2 m2 d2 : Int) (hL : Tot base 32 [dateC y m d, .int .i64 n] (.tuple #[dateC y2 m2 d2, .bool true])) (hd : dateOk y2 m2 d2) (hn : spanOk n) : ReckE (env (rulesX 32 [dateC y m d, .int .i64 n] (.tuple #[dateC y2 m2 d2, .bool true]))) 30 90 [.string sPlus, monthsV n, dateV y m d] ((· = .tuple #[dateV y2 m2 d2, .bool true])) := by
  constructor
  rw [aCMonthsT_tree fun u mw => u = .tuple #[dateV y2 m2 d2, .bool true] ∧ Tryz.prog.globals.size ≤ mw]
  try simp only [wOne hn, wNeg hn]
  repeat' (first
    | exact ⟨rfl, Nat.le_of_ble_eq_true (by kernel_rfl)⟩
    | exact rfl
    | assumption
    | refine And.intro ?_ ?_
    | refine bsel_of (fun _ => ?_) (fun _ => ?_)
    | intro _)
  all_goals (exfalso; first | contradiction | (simp_all; done) | (simp_all; omega))
theorem aCMonthsT  (base : World) (y m d n y2 m2 d2 : Int) (hL : Tot base 32 [dateC y m d, .int .i64 n] (.tuple #[dateC y2 m2 d2, .bool true])) (hd : dateOk y2 m2 d2) (hn : spanOk n) : Tot base 90 [.string sPlus, monthsV n, dateV y m d] (.tuple #[dateV y2 m2 d2, .bool true]) := tot_lit (rulesX_ok hL) (aCMonthsT_hk base y m d n y2 m2 d2 hL hd hn) (by kernel_rfl) (by repeat' (first | refine List.forall_mem_cons.2 ⟨?_, ?_⟩ | exact (fun _ h => nomatch h) | assumption | kernel_rfl))
theorem aCMonthsF_tree (K : Value → Nat → Prop) (base : World) (y m d n y2 m2 d2 : Int) :
    funcK (env (rulesX 32 [dateC y m d, .int .i64 n] (.tuple #[dateC y2 m2 d2, .bool false]))) 30 90 [.string sPlus, monthsV n, dateV y m d] tabs Tryz.prog.globals.size (fun u _ _ mw => K u mw) =
  (Go.Proofs.YteaebpmgbpnbeaaGreatDoor.Same
 [Go.Value.agg (Array.mk [Go.Value.int Go.IntKind.i64 y, Go.Value.int Go.IntKind.i64 m, Go.Value.int Go.IntKind.i64 d]),
 Go.Value.int Go.IntKind.i64 (Go.IntKind.wrap Go.IntKind.i64 ((1 : Int) * n))]
 [Go.Value.agg (Array.mk [Go.Value.int Go.IntKind.i64 y, Go.Value.int Go.IntKind.i64 m, Go.Value.int Go.IntKind.i64 d]), Go.Value.int Go.IntKind.i64 n] ∧
 (Go.Proofs.YteaebpmgbpnbeaaGreatDoor.dateOk y2 m2 d2 → K (Go.Value.tuple (Array.mk [Go.Value.agg (Array.mk [Go.Value.nilIface]), Go.Value.bool Bool.true])) (12 : Nat)) ∧
 (¬Go.Proofs.YteaebpmgbpnbeaaGreatDoor.dateOk y2 m2 d2 → K (Go.Value.tuple (Array.mk [Go.Value.agg (Array.mk [Go.Value.nilIface]), Go.Value.bool Bool.true])) (12 : Nat))) := by kernel_rfl
theorem aCMonthsF_hk (base : World) (y m d n y2 m2 d2 : Int) (hL : Tot base 32 [dateC y m d, .int .i64 n] (.tuple #[dateC y2 m2 d2, .bool false])) (hn : spanOk n) : ReckE (env (rulesX 32 [dateC y m d, .int .i64 n] (.tuple #[dateC y2 m2 d2, .bool false]))) 30 90 [.string sPlus, monthsV n, dateV y m d] ((· = .tuple #[nullV, .bool true])) := by
  constructor
  rw [aCMonthsF_tree fun u mw => u = .tuple #[nullV, .bool true] ∧ Tryz.prog.globals.size ≤ mw]
  try simp only [wOne hn, wNeg hn]
  repeat' (first
    | exact ⟨rfl, Nat.le_of_ble_eq_true (by kernel_rfl)⟩
    | exact rfl
    | assumption
    | refine And.intro ?_ ?_
    | refine bsel_of (fun _ => ?_) (fun _ => ?_)
    | intro _)
  all_goals (exfalso; first | contradiction | (simp_all; done) | (simp_all; omega))
theorem aCMonthsF  (base : World) (y m d n y2 m2 d2 : Int) (hL : Tot base 32 [dateC y m d, .int .i64 n] (.tuple #[dateC y2 m2 d2, .bool false])) (hn : spanOk n) : Tot base 90 [.string sPlus, monthsV n, dateV y m d] (.tuple #[nullV, .bool true]) := tot_lit (rulesX_ok hL) (aCMonthsF_hk base y m d n y2 m2 d2 hL hn) (by kernel_rfl) (by repeat' (first | refine List.forall_mem_cons.2 ⟨?_, ?_⟩ | exact (fun _ h => nomatch h) | assumption | kernel_rfl))
theorem aCLater_tree (K : Value → Nat → Prop) (base : World) (s o n s2 o2 k : Int) (z z2 : Bool) :
    funcK (env (rulesX 33 [timeC s z o, .int .i64 n] (.tuple #[timeC s2 z2 o2, .int .i64 k]))) 30 90 [.string sPlus, timeV s z o, daysV n] tabs Tryz.prog.globals.size (fun u _ _ mw => K u mw) =
  (Go.Proofs.YteaebpmgbpnbeaaGreatDoor.Same
 [Go.Value.agg (Array.mk [Go.Value.int Go.IntKind.i64 s, Go.Value.bool z, Go.Value.int Go.IntKind.i64 o]), Go.Value.int Go.IntKind.i64 (Go.IntKind.wrap Go.IntKind.i64 ((1 : Int) * n))]
 [Go.Value.agg (Array.mk [Go.Value.int Go.IntKind.i64 s, Go.Value.bool z, Go.Value.int Go.IntKind.i64 o]), Go.Value.int Go.IntKind.i64 n] ∧
 (Go.Proofs.YteaebpmgbpnbeaaGreatDoor.timeOk s2 z2 o2 →
 K
 (Go.Value.tuple
 (Array.mk
 [Go.Value.agg (Array.mk [Go.Value.iface (144 : Nat) (Go.Value.agg (Array.mk [Go.Value.int Go.IntKind.i64 s2, Go.Value.bool z2, Go.Value.int Go.IntKind.i64 o2]))]),
 Go.Value.bool Bool.true]))
 (12 : Nat)) ∧
 (¬Go.Proofs.YteaebpmgbpnbeaaGreatDoor.timeOk s2 z2 o2 → K (Go.Value.tuple (Array.mk [Go.Value.agg (Array.mk [Go.Value.nilIface]), Go.Value.bool Bool.true])) (12 : Nat))) := by kernel_rfl
theorem aCLater_hk (base : World) (s o n s2 o2 k : Int) (z z2 : Bool) (hL : Tot base 33 [timeC s z o, .int .i64 n] (.tuple #[timeC s2 z2 o2, .int .i64 k])) (ht : timeOk s2 z2 o2) (hn : spanOk n) : ReckE (env (rulesX 33 [timeC s z o, .int .i64 n] (.tuple #[timeC s2 z2 o2, .int .i64 k]))) 30 90 [.string sPlus, timeV s z o, daysV n] ((· = .tuple #[timeV s2 z2 o2, .bool true])) := by
  constructor
  rw [aCLater_tree fun u mw => u = .tuple #[timeV s2 z2 o2, .bool true] ∧ Tryz.prog.globals.size ≤ mw]
  try simp only [wOne hn, wNeg hn]
  repeat' (first
    | exact ⟨rfl, Nat.le_of_ble_eq_true (by kernel_rfl)⟩
    | exact rfl
    | assumption
    | refine And.intro ?_ ?_
    | refine bsel_of (fun _ => ?_) (fun _ => ?_)
    | intro _)
  all_goals (exfalso; first | contradiction | (simp_all; done) | (simp_all; omega))
theorem aCLater  (base : World) (s o n s2 o2 k : Int) (z z2 : Bool) (hL : Tot base 33 [timeC s z o, .int .i64 n] (.tuple #[timeC s2 z2 o2, .int .i64 k])) (ht : timeOk s2 z2 o2) (hn : spanOk n) : Tot base 90 [.string sPlus, timeV s z o, daysV n] (.tuple #[timeV s2 z2 o2, .bool true]) := tot_lit (rulesX_ok hL) (aCLater_hk base s o n s2 o2 k z z2 hL ht hn) (by kernel_rfl) (by repeat' (first | refine List.forall_mem_cons.2 ⟨?_, ?_⟩ | exact (fun _ h => nomatch h) | assumption | kernel_rfl))
theorem aCSooner_tree (K : Value → Nat → Prop) (base : World) (s o n s2 o2 k : Int) (z z2 : Bool) :
    funcK (env (rulesX 33 [timeC s z o, .int .i64 (-n)] (.tuple #[timeC s2 z2 o2, .int .i64 k]))) 30 90 [.string sMinus, timeV s z o, daysV n] tabs Tryz.prog.globals.size (fun u _ _ mw => K u mw) =
  (Go.Pe.bsel z
 ((Go.Proofs.YteaebpmgbpnbeaaGreatDoor.spanOk (Int.ofNat (0 : Nat)) →
 Go.Proofs.YteaebpmgbpnbeaaGreatDoor.Same
 [Go.Value.agg (Array.mk [Go.Value.int Go.IntKind.i64 s, Go.Value.bool z, Go.Value.int Go.IntKind.i64 o]), Go.Value.int Go.IntKind.i64 (Go.IntKind.wrap Go.IntKind.i64 ((-1 : Int) * n))]
 [Go.Value.agg (Array.mk [Go.Value.int Go.IntKind.i64 s, Go.Value.bool z, Go.Value.int Go.IntKind.i64 o]), Go.Value.int Go.IntKind.i64 (-n)] ∧
 (Go.Proofs.YteaebpmgbpnbeaaGreatDoor.timeOk s2 z2 o2 →
 K
 (Go.Value.tuple
 (Array.mk
 [Go.Value.agg (Array.mk [Go.Value.iface (144 : Nat) (Go.Value.agg (Array.mk [Go.Value.int Go.IntKind.i64 s2, Go.Value.bool z2, Go.Value.int Go.IntKind.i64 o2]))]),
 Go.Value.bool Bool.true]))
 (12 : Nat)) ∧
 (¬Go.Proofs.YteaebpmgbpnbeaaGreatDoor.timeOk s2 z2 o2 → K (Go.Value.tuple (Array.mk [Go.Value.agg (Array.mk [Go.Value.nilIface]), Go.Value.bool Bool.true])) (12 : Nat))) ∧
 (¬Go.Proofs.YteaebpmgbpnbeaaGreatDoor.spanOk (Int.ofNat (0 : Nat)) →
 Go.Proofs.YteaebpmgbpnbeaaGreatDoor.Same
 [Go.Value.agg (Array.mk [Go.Value.int Go.IntKind.i64 s, Go.Value.bool z, Go.Value.int Go.IntKind.i64 o]), Go.Value.int Go.IntKind.i64 (Go.IntKind.wrap Go.IntKind.i64 ((-1 : Int) * n))]
 [Go.Value.agg (Array.mk [Go.Value.int Go.IntKind.i64 s, Go.Value.bool z, Go.Value.int Go.IntKind.i64 o]), Go.Value.int Go.IntKind.i64 (-n)] ∧
 (Go.Proofs.YteaebpmgbpnbeaaGreatDoor.timeOk s2 z2 o2 →
 K
 (Go.Value.tuple
 (Array.mk
 [Go.Value.agg (Array.mk [Go.Value.iface (144 : Nat) (Go.Value.agg (Array.mk [Go.Value.int Go.IntKind.i64 s2, Go.Value.bool z2, Go.Value.int Go.IntKind.i64 o2]))]),
 Go.Value.bool Bool.true]))
 (12 : Nat)) ∧
 (¬Go.Proofs.YteaebpmgbpnbeaaGreatDoor.timeOk s2 z2 o2 → K (Go.Value.tuple (Array.mk [Go.Value.agg (Array.mk [Go.Value.nilIface]), Go.Value.bool Bool.true])) (12 : Nat))))
 ((Go.Proofs.YteaebpmgbpnbeaaGreatDoor.spanOk (Go.IntKind.wrap Go.IntKind.i64 (Go.IntKind.wrap Go.IntKind.i64 (s - o) - Go.IntKind.wrap Go.IntKind.i64 ((0 : Int) - (0 : Int)))) →
 Go.Proofs.YteaebpmgbpnbeaaGreatDoor.Same
 [Go.Value.agg (Array.mk [Go.Value.int Go.IntKind.i64 s, Go.Value.bool z, Go.Value.int Go.IntKind.i64 o]), Go.Value.int Go.IntKind.i64 (Go.IntKind.wrap Go.IntKind.i64 ((-1 : Int) * n))]
 [Go.Value.agg (Array.mk [Go.Value.int Go.IntKind.i64 s, Go.Value.bool z, Go.Value.int Go.IntKind.i64 o]), Go.Value.int Go.IntKind.i64 (-n)] ∧
 (Go.Proofs.YteaebpmgbpnbeaaGreatDoor.timeOk s2 z2 o2 →
 K
 (Go.Value.tuple
 (Array.mk
 [Go.Value.agg (Array.mk [Go.Value.iface (144 : Nat) (Go.Value.agg (Array.mk [Go.Value.int Go.IntKind.i64 s2, Go.Value.bool z2, Go.Value.int Go.IntKind.i64 o2]))]),
 Go.Value.bool Bool.true]))
 (12 : Nat)) ∧
 (¬Go.Proofs.YteaebpmgbpnbeaaGreatDoor.timeOk s2 z2 o2 → K (Go.Value.tuple (Array.mk [Go.Value.agg (Array.mk [Go.Value.nilIface]), Go.Value.bool Bool.true])) (12 : Nat))) ∧
 (¬Go.Proofs.YteaebpmgbpnbeaaGreatDoor.spanOk (Go.IntKind.wrap Go.IntKind.i64 (Go.IntKind.wrap Go.IntKind.i64 (s - o) - Go.IntKind.wrap Go.IntKind.i64 ((0 : Int) - (0 : Int)))) →
 Go.Proofs.YteaebpmgbpnbeaaGreatDoor.Same
 [Go.Value.agg (Array.mk [Go.Value.int Go.IntKind.i64 s, Go.Value.bool z, Go.Value.int Go.IntKind.i64 o]), Go.Value.int Go.IntKind.i64 (Go.IntKind.wrap Go.IntKind.i64 ((-1 : Int) * n))]
 [Go.Value.agg (Array.mk [Go.Value.int Go.IntKind.i64 s, Go.Value.bool z, Go.Value.int Go.IntKind.i64 o]), Go.Value.int Go.IntKind.i64 (-n)] ∧
 (Go.Proofs.YteaebpmgbpnbeaaGreatDoor.timeOk s2 z2 o2 →
 K
 (Go.Value.tuple
 (Array.mk
 [Go.Value.agg (Array.mk [Go.Value.iface (144 : Nat) (Go.Value.agg (Array.mk [Go.Value.int Go.IntKind.i64 s2, Go.Value.bool z2, Go.Value.int Go.IntKind.i64 o2]))]),
 Go.Value.bool Bool.true]))
 (12 : Nat)) ∧
 (¬Go.Proofs.YteaebpmgbpnbeaaGreatDoor.timeOk s2 z2 o2 → K (Go.Value.tuple (Array.mk [Go.Value.agg (Array.mk [Go.Value.nilIface]), Go.Value.bool Bool.true])) (12 : Nat))))) := by kernel_rfl
theorem aCSooner_hk (base : World) (s o n s2 o2 k : Int) (z z2 : Bool) (hL : Tot base 33 [timeC s z o, .int .i64 (-n)] (.tuple #[timeC s2 z2 o2, .int .i64 k])) (ht : timeOk s2 z2 o2) (hn : spanOk n) : ReckE (env (rulesX 33 [timeC s z o, .int .i64 (-n)] (.tuple #[timeC s2 z2 o2, .int .i64 k]))) 30 90 [.string sMinus, timeV s z o, daysV n] ((· = .tuple #[timeV s2 z2 o2, .bool true])) := by
  constructor
  rw [aCSooner_tree fun u mw => u = .tuple #[timeV s2 z2 o2, .bool true] ∧ Tryz.prog.globals.size ≤ mw]
  try simp only [wOne hn, wNeg hn]
  repeat' (first
    | exact ⟨rfl, Nat.le_of_ble_eq_true (by kernel_rfl)⟩
    | exact rfl
    | assumption
    | refine And.intro ?_ ?_
    | refine bsel_of (fun _ => ?_) (fun _ => ?_)
    | intro _)
  all_goals (exfalso; first | contradiction | (simp_all; done) | (simp_all; omega))
theorem aCSooner  (base : World) (s o n s2 o2 k : Int) (z z2 : Bool) (hL : Tot base 33 [timeC s z o, .int .i64 (-n)] (.tuple #[timeC s2 z2 o2, .int .i64 k])) (ht : timeOk s2 z2 o2) (hn : spanOk n) : Tot base 90 [.string sMinus, timeV s z o, daysV n] (.tuple #[timeV s2 z2 o2, .bool true]) := tot_lit (rulesX_ok hL) (aCSooner_hk base s o n s2 o2 k z z2 hL ht hn) (by kernel_rfl) (by repeat' (first | refine List.forall_mem_cons.2 ⟨?_, ?_⟩ | exact (fun _ h => nomatch h) | assumption | kernel_rfl))
theorem aTimeMonths_tree (K : Value → Nat → Prop) (base : World) (s o n : Int) (z : Bool) :
    funcK (env (rulesK)) 30 90 [.string sPlus, timeV s z o, monthsV n] tabs Tryz.prog.globals.size (fun u _ _ mw => K u mw) =
  (K (Go.Value.tuple (Array.mk [Go.Value.agg (Array.mk [Go.Value.nilIface]), Go.Value.bool Bool.true])) (12 : Nat)) := by kernel_rfl
theorem aTimeMonths_hk (base : World) (s o n : Int) (z : Bool) (hn : spanOk n) : ReckE (env (rulesK)) 30 90 [.string sPlus, timeV s z o, monthsV n] ((· = .tuple #[nullV, .bool true])) := by
  constructor
  rw [aTimeMonths_tree fun u mw => u = .tuple #[nullV, .bool true] ∧ Tryz.prog.globals.size ≤ mw]
  try simp only [wOne hn, wNeg hn]
  repeat' (first
    | exact ⟨rfl, Nat.le_of_ble_eq_true (by kernel_rfl)⟩
    | exact rfl
    | assumption
    | refine And.intro ?_ ?_
    | refine bsel_of (fun _ => ?_) (fun _ => ?_)
    | intro _)
  all_goals (exfalso; first | contradiction | (simp_all; done) | (simp_all; omega))
theorem aTimeMonths  (base : World) (s o n : Int) (z : Bool) (hn : spanOk n) : Tot base 90 [.string sPlus, timeV s z o, monthsV n] (.tuple #[nullV, .bool true]) := tot_lit (rulesK_ok base) (aTimeMonths_hk base s o n z hn) (by kernel_rfl) (by repeat' (first | refine List.forall_mem_cons.2 ⟨?_, ?_⟩ | exact (fun _ h => nomatch h) | assumption | kernel_rfl))
theorem aMomMom_tree (K : Value → Nat → Prop) (base : World) (y m d s o : Int) (z : Bool) (y2 m2 d2 s2 o2 : Int) (z2 : Bool) :
    funcK (env (rulesK)) 30 90 [.string sPlus, momentV y m d s z o, momentV y2 m2 d2 s2 z2 o2] tabs Tryz.prog.globals.size (fun u _ _ mw => K u mw) =
  (K (Go.Value.tuple (Array.mk [Go.Value.agg (Array.mk [Go.Value.nilIface]), Go.Value.bool Bool.true])) (12 : Nat)) := by kernel_rfl
theorem aMomMom_hk (base : World) (y m d s o : Int) (z : Bool) (y2 m2 d2 s2 o2 : Int) (z2 : Bool)  : ReckE (env (rulesK)) 30 90 [.string sPlus, momentV y m d s z o, momentV y2 m2 d2 s2 z2 o2] ((· = .tuple #[nullV, .bool true])) := by
  constructor
  rw [aMomMom_tree fun u mw => u = .tuple #[nullV, .bool true] ∧ Tryz.prog.globals.size ≤ mw]
  try simp only [wOne hn, wNeg hn]
  repeat' (first
    | exact ⟨rfl, Nat.le_of_ble_eq_true (by kernel_rfl)⟩
    | exact rfl
    | assumption
    | refine And.intro ?_ ?_
    | refine bsel_of (fun _ => ?_) (fun _ => ?_)
    | intro _)
  all_goals (exfalso; first | contradiction | (simp_all; done) | (simp_all; omega))
theorem aMomMom  (base : World) (y m d s o : Int) (z : Bool) (y2 m2 d2 s2 o2 : Int) (z2 : Bool)  : Tot base 90 [.string sPlus, momentV y m d s z o, momentV y2 m2 d2 s2 z2 o2] (.tuple #[nullV, .bool true]) := tot_lit (rulesK_ok base) (aMomMom_hk base y m d s o z y2 m2 d2 s2 o2 z2) (by kernel_rfl) (by repeat' (first | refine List.forall_mem_cons.2 ⟨?_, ?_⟩ | exact (fun _ h => nomatch h) | assumption | kernel_rfl))
theorem aBtwT_tree (K : Value → Nat → Prop) (base : World) (y m d s o : Int) (z : Bool) (y2 m2 d2 s2 o2 : Int) (z2 : Bool) (k : Int) :
    funcK (env (rulesX 34 [momentC y2 m2 d2 s2 z2 o2, momentC y m d s z o] (.tuple #[.int .i64 k, .bool true]))) 30 90 [.string sMinus, momentV y m d s z o, momentV y2 m2 d2 s2 z2 o2] tabs Tryz.prog.globals.size (fun u _ _ mw => K u mw) =
  (Go.Proofs.YteaebpmgbpnbeaaGreatDoor.Same
 [Go.Value.agg
 (Array.mk [Go.Value.int Go.IntKind.i64 y2, Go.Value.int Go.IntKind.i64 m2, Go.Value.int Go.IntKind.i64 d2, Go.Value.int Go.IntKind.i64 s2, Go.Value.bool z2, Go.Value.int Go.IntKind.i64 o2]),
 Go.Value.agg
 (Array.mk [Go.Value.int Go.IntKind.i64 y, Go.Value.int Go.IntKind.i64 m, Go.Value.int Go.IntKind.i64 d, Go.Value.int Go.IntKind.i64 s, Go.Value.bool z, Go.Value.int Go.IntKind.i64 o])]
 [Go.Value.agg
 (Array.mk [Go.Value.int Go.IntKind.i64 y2, Go.Value.int Go.IntKind.i64 m2, Go.Value.int Go.IntKind.i64 d2, Go.Value.int Go.IntKind.i64 s2, Go.Value.bool z2, Go.Value.int Go.IntKind.i64 o2]),
 Go.Value.agg
 (Array.mk [Go.Value.int Go.IntKind.i64 y, Go.Value.int Go.IntKind.i64 m, Go.Value.int Go.IntKind.i64 d, Go.Value.int Go.IntKind.i64 s, Go.Value.bool z, Go.Value.int Go.IntKind.i64 o])] ∧
 (Go.Proofs.YteaebpmgbpnbeaaGreatDoor.spanOk k →
 K (Go.Value.tuple (Array.mk [Go.Value.agg (Array.mk [Go.Value.iface (131 : Nat) (Go.Value.int Go.IntKind.i64 k)]), Go.Value.bool Bool.true])) (12 : Nat)) ∧
 (¬Go.Proofs.YteaebpmgbpnbeaaGreatDoor.spanOk k → K (Go.Value.tuple (Array.mk [Go.Value.agg (Array.mk [Go.Value.nilIface]), Go.Value.bool Bool.true])) (12 : Nat))) := by kernel_rfl
theorem aBtwT_hk (base : World) (y m d s o : Int) (z : Bool) (y2 m2 d2 s2 o2 : Int) (z2 : Bool) (k : Int) (hL : Tot base 34 [momentC y2 m2 d2 s2 z2 o2, momentC y m d s z o] (.tuple #[.int .i64 k, .bool true])) (hk : spanOk k) : ReckE (env (rulesX 34 [momentC y2 m2 d2 s2 z2 o2, momentC y m d s z o] (.tuple #[.int .i64 k, .bool true]))) 30 90 [.string sMinus, momentV y m d s z o, momentV y2 m2 d2 s2 z2 o2] ((· = .tuple #[daysV k, .bool true])) := by
  constructor
  rw [aBtwT_tree fun u mw => u = .tuple #[daysV k, .bool true] ∧ Tryz.prog.globals.size ≤ mw]
  try simp only [wOne hn, wNeg hn]
  repeat' (first
    | exact ⟨rfl, Nat.le_of_ble_eq_true (by kernel_rfl)⟩
    | exact rfl
    | assumption
    | refine And.intro ?_ ?_
    | refine bsel_of (fun _ => ?_) (fun _ => ?_)
    | intro _)
  all_goals (exfalso; first | contradiction | (simp_all; done) | (simp_all; omega))
theorem aBtwT  (base : World) (y m d s o : Int) (z : Bool) (y2 m2 d2 s2 o2 : Int) (z2 : Bool) (k : Int) (hL : Tot base 34 [momentC y2 m2 d2 s2 z2 o2, momentC y m d s z o] (.tuple #[.int .i64 k, .bool true])) (hk : spanOk k) : Tot base 90 [.string sMinus, momentV y m d s z o, momentV y2 m2 d2 s2 z2 o2] (.tuple #[daysV k, .bool true]) := tot_lit (rulesX_ok hL) (aBtwT_hk base y m d s o z y2 m2 d2 s2 o2 z2 k hL hk) (by kernel_rfl) (by repeat' (first | refine List.forall_mem_cons.2 ⟨?_, ?_⟩ | exact (fun _ h => nomatch h) | assumption | kernel_rfl))
theorem aBtwN_tree (K : Value → Nat → Prop) (base : World) (y m d s o : Int) (z : Bool) (y2 m2 d2 s2 o2 : Int) (z2 : Bool) (k : Int) :
    funcK (env (rulesX 34 [momentC y2 m2 d2 s2 z2 o2, momentC y m d s z o] (.tuple #[.int .i64 k, .bool true]))) 30 90 [.string sMinus, momentV y m d s z o, momentV y2 m2 d2 s2 z2 o2] tabs Tryz.prog.globals.size (fun u _ _ mw => K u mw) =
  (Go.Proofs.YteaebpmgbpnbeaaGreatDoor.Same
 [Go.Value.agg
 (Array.mk [Go.Value.int Go.IntKind.i64 y2, Go.Value.int Go.IntKind.i64 m2, Go.Value.int Go.IntKind.i64 d2, Go.Value.int Go.IntKind.i64 s2, Go.Value.bool z2, Go.Value.int Go.IntKind.i64 o2]),
 Go.Value.agg
 (Array.mk [Go.Value.int Go.IntKind.i64 y, Go.Value.int Go.IntKind.i64 m, Go.Value.int Go.IntKind.i64 d, Go.Value.int Go.IntKind.i64 s, Go.Value.bool z, Go.Value.int Go.IntKind.i64 o])]
 [Go.Value.agg
 (Array.mk [Go.Value.int Go.IntKind.i64 y2, Go.Value.int Go.IntKind.i64 m2, Go.Value.int Go.IntKind.i64 d2, Go.Value.int Go.IntKind.i64 s2, Go.Value.bool z2, Go.Value.int Go.IntKind.i64 o2]),
 Go.Value.agg
 (Array.mk [Go.Value.int Go.IntKind.i64 y, Go.Value.int Go.IntKind.i64 m, Go.Value.int Go.IntKind.i64 d, Go.Value.int Go.IntKind.i64 s, Go.Value.bool z, Go.Value.int Go.IntKind.i64 o])] ∧
 (Go.Proofs.YteaebpmgbpnbeaaGreatDoor.spanOk k →
 K (Go.Value.tuple (Array.mk [Go.Value.agg (Array.mk [Go.Value.iface (131 : Nat) (Go.Value.int Go.IntKind.i64 k)]), Go.Value.bool Bool.true])) (12 : Nat)) ∧
 (¬Go.Proofs.YteaebpmgbpnbeaaGreatDoor.spanOk k → K (Go.Value.tuple (Array.mk [Go.Value.agg (Array.mk [Go.Value.nilIface]), Go.Value.bool Bool.true])) (12 : Nat))) := by kernel_rfl
theorem aBtwN_hk (base : World) (y m d s o : Int) (z : Bool) (y2 m2 d2 s2 o2 : Int) (z2 : Bool) (k : Int) (hL : Tot base 34 [momentC y2 m2 d2 s2 z2 o2, momentC y m d s z o] (.tuple #[.int .i64 k, .bool true])) (hk : ¬ spanOk k) : ReckE (env (rulesX 34 [momentC y2 m2 d2 s2 z2 o2, momentC y m d s z o] (.tuple #[.int .i64 k, .bool true]))) 30 90 [.string sMinus, momentV y m d s z o, momentV y2 m2 d2 s2 z2 o2] ((· = .tuple #[nullV, .bool true])) := by
  constructor
  rw [aBtwN_tree fun u mw => u = .tuple #[nullV, .bool true] ∧ Tryz.prog.globals.size ≤ mw]
  try simp only [wOne hn, wNeg hn]
  repeat' (first
    | exact ⟨rfl, Nat.le_of_ble_eq_true (by kernel_rfl)⟩
    | exact rfl
    | assumption
    | refine And.intro ?_ ?_
    | refine bsel_of (fun _ => ?_) (fun _ => ?_)
    | intro _)
  all_goals (exfalso; first | contradiction | (simp_all; done) | (simp_all; omega))
theorem aBtwN  (base : World) (y m d s o : Int) (z : Bool) (y2 m2 d2 s2 o2 : Int) (z2 : Bool) (k : Int) (hL : Tot base 34 [momentC y2 m2 d2 s2 z2 o2, momentC y m d s z o] (.tuple #[.int .i64 k, .bool true])) (hk : ¬ spanOk k) : Tot base 90 [.string sMinus, momentV y m d s z o, momentV y2 m2 d2 s2 z2 o2] (.tuple #[nullV, .bool true]) := tot_lit (rulesX_ok hL) (aBtwN_hk base y m d s o z y2 m2 d2 s2 o2 z2 k hL hk) (by kernel_rfl) (by repeat' (first | refine List.forall_mem_cons.2 ⟨?_, ?_⟩ | exact (fun _ h => nomatch h) | assumption | kernel_rfl))
theorem aBtwF_tree (K : Value → Nat → Prop) (base : World) (y m d s o : Int) (z : Bool) (y2 m2 d2 s2 o2 : Int) (z2 : Bool) (k : Int) :
    funcK (env (rulesX 34 [momentC y2 m2 d2 s2 z2 o2, momentC y m d s z o] (.tuple #[.int .i64 k, .bool false]))) 30 90 [.string sMinus, momentV y m d s z o, momentV y2 m2 d2 s2 z2 o2] tabs Tryz.prog.globals.size (fun u _ _ mw => K u mw) =
  (Go.Proofs.YteaebpmgbpnbeaaGreatDoor.Same
 [Go.Value.agg
 (Array.mk [Go.Value.int Go.IntKind.i64 y2, Go.Value.int Go.IntKind.i64 m2, Go.Value.int Go.IntKind.i64 d2, Go.Value.int Go.IntKind.i64 s2, Go.Value.bool z2, Go.Value.int Go.IntKind.i64 o2]),
 Go.Value.agg
 (Array.mk [Go.Value.int Go.IntKind.i64 y, Go.Value.int Go.IntKind.i64 m, Go.Value.int Go.IntKind.i64 d, Go.Value.int Go.IntKind.i64 s, Go.Value.bool z, Go.Value.int Go.IntKind.i64 o])]
 [Go.Value.agg
 (Array.mk [Go.Value.int Go.IntKind.i64 y2, Go.Value.int Go.IntKind.i64 m2, Go.Value.int Go.IntKind.i64 d2, Go.Value.int Go.IntKind.i64 s2, Go.Value.bool z2, Go.Value.int Go.IntKind.i64 o2]),
 Go.Value.agg
 (Array.mk [Go.Value.int Go.IntKind.i64 y, Go.Value.int Go.IntKind.i64 m, Go.Value.int Go.IntKind.i64 d, Go.Value.int Go.IntKind.i64 s, Go.Value.bool z, Go.Value.int Go.IntKind.i64 o])] ∧
 (Go.Proofs.YteaebpmgbpnbeaaGreatDoor.spanOk k → K (Go.Value.tuple (Array.mk [Go.Value.agg (Array.mk [Go.Value.nilIface]), Go.Value.bool Bool.true])) (12 : Nat)) ∧
 (¬Go.Proofs.YteaebpmgbpnbeaaGreatDoor.spanOk k → K (Go.Value.tuple (Array.mk [Go.Value.agg (Array.mk [Go.Value.nilIface]), Go.Value.bool Bool.true])) (12 : Nat))) := by kernel_rfl
theorem aBtwF_hk (base : World) (y m d s o : Int) (z : Bool) (y2 m2 d2 s2 o2 : Int) (z2 : Bool) (k : Int) (hL : Tot base 34 [momentC y2 m2 d2 s2 z2 o2, momentC y m d s z o] (.tuple #[.int .i64 k, .bool false])) : ReckE (env (rulesX 34 [momentC y2 m2 d2 s2 z2 o2, momentC y m d s z o] (.tuple #[.int .i64 k, .bool false]))) 30 90 [.string sMinus, momentV y m d s z o, momentV y2 m2 d2 s2 z2 o2] ((· = .tuple #[nullV, .bool true])) := by
  constructor
  rw [aBtwF_tree fun u mw => u = .tuple #[nullV, .bool true] ∧ Tryz.prog.globals.size ≤ mw]
  try simp only [wOne hn, wNeg hn]
  repeat' (first
    | exact ⟨rfl, Nat.le_of_ble_eq_true (by kernel_rfl)⟩
    | exact rfl
    | assumption
    | refine And.intro ?_ ?_
    | refine bsel_of (fun _ => ?_) (fun _ => ?_)
    | intro _)
  all_goals (exfalso; first | contradiction | (simp_all; done) | (simp_all; omega))
theorem aBtwF  (base : World) (y m d s o : Int) (z : Bool) (y2 m2 d2 s2 o2 : Int) (z2 : Bool) (k : Int) (hL : Tot base 34 [momentC y2 m2 d2 s2 z2 o2, momentC y m d s z o] (.tuple #[.int .i64 k, .bool false])) : Tot base 90 [.string sMinus, momentV y m d s z o, momentV y2 m2 d2 s2 z2 o2] (.tuple #[nullV, .bool true]) := tot_lit (rulesX_ok hL) (aBtwF_hk base y m d s o z y2 m2 d2 s2 o2 z2 k hL) (by kernel_rfl) (by repeat' (first | refine List.forall_mem_cons.2 ⟨?_, ?_⟩ | exact (fun _ h => nomatch h) | assumption | kernel_rfl))
theorem aDBtwT_tree (K : Value → Nat → Prop) (base : World) (y m d y2 m2 d2 k : Int) :
    funcK (env (rulesX 34 [momentC y2 m2 d2 0 true 0, momentC y m d 0 true 0] (.tuple #[.int .i64 k, .bool true]))) 30 90 [.string sMinus, dateV y m d, dateV y2 m2 d2] tabs Tryz.prog.globals.size (fun u _ _ mw => K u mw) =
  (Go.Proofs.YteaebpmgbpnbeaaGreatDoor.Same
 [Go.Value.agg
 (Array.mk
 [Go.Value.int Go.IntKind.i64 y2, Go.Value.int Go.IntKind.i64 m2, Go.Value.int Go.IntKind.i64 d2, Go.Value.int Go.IntKind.i64 (Int.ofNat (0 : Nat)), Go.Value.bool Bool.true,
 Go.Value.int Go.IntKind.i64 (Int.ofNat (0 : Nat))]),
 Go.Value.agg
 (Array.mk
 [Go.Value.int Go.IntKind.i64 y, Go.Value.int Go.IntKind.i64 m, Go.Value.int Go.IntKind.i64 d, Go.Value.int Go.IntKind.i64 (Int.ofNat (0 : Nat)), Go.Value.bool Bool.true,
 Go.Value.int Go.IntKind.i64 (Int.ofNat (0 : Nat))])]
 [Go.Value.agg
 (Array.mk
 [Go.Value.int Go.IntKind.i64 y2, Go.Value.int Go.IntKind.i64 m2, Go.Value.int Go.IntKind.i64 d2, Go.Value.int Go.IntKind.i64 (Int.ofNat (0 : Nat)), Go.Value.bool Bool.true,
 Go.Value.int Go.IntKind.i64 (Int.ofNat (0 : Nat))]),
 Go.Value.agg
 (Array.mk
 [Go.Value.int Go.IntKind.i64 y, Go.Value.int Go.IntKind.i64 m, Go.Value.int Go.IntKind.i64 d, Go.Value.int Go.IntKind.i64 (Int.ofNat (0 : Nat)), Go.Value.bool Bool.true,
 Go.Value.int Go.IntKind.i64 (Int.ofNat (0 : Nat))])] ∧
 (Go.Proofs.YteaebpmgbpnbeaaGreatDoor.spanOk k →
 K (Go.Value.tuple (Array.mk [Go.Value.agg (Array.mk [Go.Value.iface (131 : Nat) (Go.Value.int Go.IntKind.i64 k)]), Go.Value.bool Bool.true])) (12 : Nat)) ∧
 (¬Go.Proofs.YteaebpmgbpnbeaaGreatDoor.spanOk k → K (Go.Value.tuple (Array.mk [Go.Value.agg (Array.mk [Go.Value.nilIface]), Go.Value.bool Bool.true])) (12 : Nat))) := by kernel_rfl
theorem aDBtwT_hk (base : World) (y m d y2 m2 d2 k : Int) (hL : Tot base 34 [momentC y2 m2 d2 0 true 0, momentC y m d 0 true 0] (.tuple #[.int .i64 k, .bool true])) (hk : spanOk k) : ReckE (env (rulesX 34 [momentC y2 m2 d2 0 true 0, momentC y m d 0 true 0] (.tuple #[.int .i64 k, .bool true]))) 30 90 [.string sMinus, dateV y m d, dateV y2 m2 d2] ((· = .tuple #[daysV k, .bool true])) := by
  constructor
  rw [aDBtwT_tree fun u mw => u = .tuple #[daysV k, .bool true] ∧ Tryz.prog.globals.size ≤ mw]
  try simp only [wOne hn, wNeg hn]
  repeat' (first
    | exact ⟨rfl, Nat.le_of_ble_eq_true (by kernel_rfl)⟩
    | exact rfl
    | assumption
    | refine And.intro ?_ ?_
    | refine bsel_of (fun _ => ?_) (fun _ => ?_)
    | intro _)
  all_goals (exfalso; first | contradiction | (simp_all; done) | (simp_all; omega))
theorem aDBtwT  (base : World) (y m d y2 m2 d2 k : Int) (hL : Tot base 34 [momentC y2 m2 d2 0 true 0, momentC y m d 0 true 0] (.tuple #[.int .i64 k, .bool true])) (hk : spanOk k) : Tot base 90 [.string sMinus, dateV y m d, dateV y2 m2 d2] (.tuple #[daysV k, .bool true]) := tot_lit (rulesX_ok hL) (aDBtwT_hk base y m d y2 m2 d2 k hL hk) (by kernel_rfl) (by repeat' (first | refine List.forall_mem_cons.2 ⟨?_, ?_⟩ | exact (fun _ h => nomatch h) | assumption | kernel_rfl))
theorem aDBtwN_tree (K : Value → Nat → Prop) (base : World) (y m d y2 m2 d2 k : Int) :
    funcK (env (rulesX 34 [momentC y2 m2 d2 0 true 0, momentC y m d 0 true 0] (.tuple #[.int .i64 k, .bool true]))) 30 90 [.string sMinus, dateV y m d, dateV y2 m2 d2] tabs Tryz.prog.globals.size (fun u _ _ mw => K u mw) =
  (Go.Proofs.YteaebpmgbpnbeaaGreatDoor.Same
 [Go.Value.agg
 (Array.mk
 [Go.Value.int Go.IntKind.i64 y2, Go.Value.int Go.IntKind.i64 m2, Go.Value.int Go.IntKind.i64 d2, Go.Value.int Go.IntKind.i64 (Int.ofNat (0 : Nat)), Go.Value.bool Bool.true,
 Go.Value.int Go.IntKind.i64 (Int.ofNat (0 : Nat))]),
 Go.Value.agg
 (Array.mk
 [Go.Value.int Go.IntKind.i64 y, Go.Value.int Go.IntKind.i64 m, Go.Value.int Go.IntKind.i64 d, Go.Value.int Go.IntKind.i64 (Int.ofNat (0 : Nat)), Go.Value.bool Bool.true,
 Go.Value.int Go.IntKind.i64 (Int.ofNat (0 : Nat))])]
 [Go.Value.agg
 (Array.mk
 [Go.Value.int Go.IntKind.i64 y2, Go.Value.int Go.IntKind.i64 m2, Go.Value.int Go.IntKind.i64 d2, Go.Value.int Go.IntKind.i64 (Int.ofNat (0 : Nat)), Go.Value.bool Bool.true,
 Go.Value.int Go.IntKind.i64 (Int.ofNat (0 : Nat))]),
 Go.Value.agg
 (Array.mk
 [Go.Value.int Go.IntKind.i64 y, Go.Value.int Go.IntKind.i64 m, Go.Value.int Go.IntKind.i64 d, Go.Value.int Go.IntKind.i64 (Int.ofNat (0 : Nat)), Go.Value.bool Bool.true,
 Go.Value.int Go.IntKind.i64 (Int.ofNat (0 : Nat))])] ∧
 (Go.Proofs.YteaebpmgbpnbeaaGreatDoor.spanOk k →
 K (Go.Value.tuple (Array.mk [Go.Value.agg (Array.mk [Go.Value.iface (131 : Nat) (Go.Value.int Go.IntKind.i64 k)]), Go.Value.bool Bool.true])) (12 : Nat)) ∧
 (¬Go.Proofs.YteaebpmgbpnbeaaGreatDoor.spanOk k → K (Go.Value.tuple (Array.mk [Go.Value.agg (Array.mk [Go.Value.nilIface]), Go.Value.bool Bool.true])) (12 : Nat))) := by kernel_rfl
theorem aDBtwN_hk (base : World) (y m d y2 m2 d2 k : Int) (hL : Tot base 34 [momentC y2 m2 d2 0 true 0, momentC y m d 0 true 0] (.tuple #[.int .i64 k, .bool true])) (hk : ¬ spanOk k) : ReckE (env (rulesX 34 [momentC y2 m2 d2 0 true 0, momentC y m d 0 true 0] (.tuple #[.int .i64 k, .bool true]))) 30 90 [.string sMinus, dateV y m d, dateV y2 m2 d2] ((· = .tuple #[nullV, .bool true])) := by
  constructor
  rw [aDBtwN_tree fun u mw => u = .tuple #[nullV, .bool true] ∧ Tryz.prog.globals.size ≤ mw]
  try simp only [wOne hn, wNeg hn]
  repeat' (first
    | exact ⟨rfl, Nat.le_of_ble_eq_true (by kernel_rfl)⟩
    | exact rfl
    | assumption
    | refine And.intro ?_ ?_
    | refine bsel_of (fun _ => ?_) (fun _ => ?_)
    | intro _)
  all_goals (exfalso; first | contradiction | (simp_all; done) | (simp_all; omega))
theorem aDBtwN  (base : World) (y m d y2 m2 d2 k : Int) (hL : Tot base 34 [momentC y2 m2 d2 0 true 0, momentC y m d 0 true 0] (.tuple #[.int .i64 k, .bool true])) (hk : ¬ spanOk k) : Tot base 90 [.string sMinus, dateV y m d, dateV y2 m2 d2] (.tuple #[nullV, .bool true]) := tot_lit (rulesX_ok hL) (aDBtwN_hk base y m d y2 m2 d2 k hL hk) (by kernel_rfl) (by repeat' (first | refine List.forall_mem_cons.2 ⟨?_, ?_⟩ | exact (fun _ h => nomatch h) | assumption | kernel_rfl))
theorem aMDBtwT_tree (K : Value → Nat → Prop) (base : World) (y m d s o : Int) (z : Bool) (y2 m2 d2 k : Int) :
    funcK (env (rulesX 34 [momentC y2 m2 d2 0 true 0, momentC y m d s z o] (.tuple #[.int .i64 k, .bool true]))) 30 90 [.string sMinus, momentV y m d s z o, dateV y2 m2 d2] tabs Tryz.prog.globals.size (fun u _ _ mw => K u mw) =
  (Go.Proofs.YteaebpmgbpnbeaaGreatDoor.Same
 [Go.Value.agg
 (Array.mk
 [Go.Value.int Go.IntKind.i64 y2, Go.Value.int Go.IntKind.i64 m2, Go.Value.int Go.IntKind.i64 d2, Go.Value.int Go.IntKind.i64 (Int.ofNat (0 : Nat)), Go.Value.bool Bool.true,
 Go.Value.int Go.IntKind.i64 (Int.ofNat (0 : Nat))]),
 Go.Value.agg
 (Array.mk [Go.Value.int Go.IntKind.i64 y, Go.Value.int Go.IntKind.i64 m, Go.Value.int Go.IntKind.i64 d, Go.Value.int Go.IntKind.i64 s, Go.Value.bool z, Go.Value.int Go.IntKind.i64 o])]
 [Go.Value.agg
 (Array.mk
 [Go.Value.int Go.IntKind.i64 y2, Go.Value.int Go.IntKind.i64 m2, Go.Value.int Go.IntKind.i64 d2, Go.Value.int Go.IntKind.i64 (Int.ofNat (0 : Nat)), Go.Value.bool Bool.true,
 Go.Value.int Go.IntKind.i64 (Int.ofNat (0 : Nat))]),
 Go.Value.agg
 (Array.mk [Go.Value.int Go.IntKind.i64 y, Go.Value.int Go.IntKind.i64 m, Go.Value.int Go.IntKind.i64 d, Go.Value.int Go.IntKind.i64 s, Go.Value.bool z, Go.Value.int Go.IntKind.i64 o])] ∧
 (Go.Proofs.YteaebpmgbpnbeaaGreatDoor.spanOk k →
 K (Go.Value.tuple (Array.mk [Go.Value.agg (Array.mk [Go.Value.iface (131 : Nat) (Go.Value.int Go.IntKind.i64 k)]), Go.Value.bool Bool.true])) (12 : Nat)) ∧
 (¬Go.Proofs.YteaebpmgbpnbeaaGreatDoor.spanOk k → K (Go.Value.tuple (Array.mk [Go.Value.agg (Array.mk [Go.Value.nilIface]), Go.Value.bool Bool.true])) (12 : Nat))) := by kernel_rfl
theorem aMDBtwT_hk (base : World) (y m d s o : Int) (z : Bool) (y2 m2 d2 k : Int) (hL : Tot base 34 [momentC y2 m2 d2 0 true 0, momentC y m d s z o] (.tuple #[.int .i64 k, .bool true])) (hk : spanOk k) : ReckE (env (rulesX 34 [momentC y2 m2 d2 0 true 0, momentC y m d s z o] (.tuple #[.int .i64 k, .bool true]))) 30 90 [.string sMinus, momentV y m d s z o, dateV y2 m2 d2] ((· = .tuple #[daysV k, .bool true])) := by
  constructor
  rw [aMDBtwT_tree fun u mw => u = .tuple #[daysV k, .bool true] ∧ Tryz.prog.globals.size ≤ mw]
  try simp only [wOne hn, wNeg hn]
  repeat' (first
    | exact ⟨rfl, Nat.le_of_ble_eq_true (by kernel_rfl)⟩
    | exact rfl
    | assumption
    | refine And.intro ?_ ?_
    | refine bsel_of (fun _ => ?_) (fun _ => ?_)
    | intro _)
  all_goals (exfalso; first | contradiction | (simp_all; done) | (simp_all; omega))
theorem aMDBtwT  (base : World) (y m d s o : Int) (z : Bool) (y2 m2 d2 k : Int) (hL : Tot base 34 [momentC y2 m2 d2 0 true 0, momentC y m d s z o] (.tuple #[.int .i64 k, .bool true])) (hk : spanOk k) : Tot base 90 [.string sMinus, momentV y m d s z o, dateV y2 m2 d2] (.tuple #[daysV k, .bool true]) := tot_lit (rulesX_ok hL) (aMDBtwT_hk base y m d s o z y2 m2 d2 k hL hk) (by kernel_rfl) (by repeat' (first | refine List.forall_mem_cons.2 ⟨?_, ?_⟩ | exact (fun _ h => nomatch h) | assumption | kernel_rfl))
theorem aMDBtwN_tree (K : Value → Nat → Prop) (base : World) (y m d s o : Int) (z : Bool) (y2 m2 d2 k : Int) :
    funcK (env (rulesX 34 [momentC y2 m2 d2 0 true 0, momentC y m d s z o] (.tuple #[.int .i64 k, .bool true]))) 30 90 [.string sMinus, momentV y m d s z o, dateV y2 m2 d2] tabs Tryz.prog.globals.size (fun u _ _ mw => K u mw) =
  (Go.Proofs.YteaebpmgbpnbeaaGreatDoor.Same
 [Go.Value.agg
 (Array.mk
 [Go.Value.int Go.IntKind.i64 y2, Go.Value.int Go.IntKind.i64 m2, Go.Value.int Go.IntKind.i64 d2, Go.Value.int Go.IntKind.i64 (Int.ofNat (0 : Nat)), Go.Value.bool Bool.true,
 Go.Value.int Go.IntKind.i64 (Int.ofNat (0 : Nat))]),
 Go.Value.agg
 (Array.mk [Go.Value.int Go.IntKind.i64 y, Go.Value.int Go.IntKind.i64 m, Go.Value.int Go.IntKind.i64 d, Go.Value.int Go.IntKind.i64 s, Go.Value.bool z, Go.Value.int Go.IntKind.i64 o])]
 [Go.Value.agg
 (Array.mk
 [Go.Value.int Go.IntKind.i64 y2, Go.Value.int Go.IntKind.i64 m2, Go.Value.int Go.IntKind.i64 d2, Go.Value.int Go.IntKind.i64 (Int.ofNat (0 : Nat)), Go.Value.bool Bool.true,
 Go.Value.int Go.IntKind.i64 (Int.ofNat (0 : Nat))]),
 Go.Value.agg
 (Array.mk [Go.Value.int Go.IntKind.i64 y, Go.Value.int Go.IntKind.i64 m, Go.Value.int Go.IntKind.i64 d, Go.Value.int Go.IntKind.i64 s, Go.Value.bool z, Go.Value.int Go.IntKind.i64 o])] ∧
 (Go.Proofs.YteaebpmgbpnbeaaGreatDoor.spanOk k →
 K (Go.Value.tuple (Array.mk [Go.Value.agg (Array.mk [Go.Value.iface (131 : Nat) (Go.Value.int Go.IntKind.i64 k)]), Go.Value.bool Bool.true])) (12 : Nat)) ∧
 (¬Go.Proofs.YteaebpmgbpnbeaaGreatDoor.spanOk k → K (Go.Value.tuple (Array.mk [Go.Value.agg (Array.mk [Go.Value.nilIface]), Go.Value.bool Bool.true])) (12 : Nat))) := by kernel_rfl
theorem aMDBtwN_hk (base : World) (y m d s o : Int) (z : Bool) (y2 m2 d2 k : Int) (hL : Tot base 34 [momentC y2 m2 d2 0 true 0, momentC y m d s z o] (.tuple #[.int .i64 k, .bool true])) (hk : ¬ spanOk k) : ReckE (env (rulesX 34 [momentC y2 m2 d2 0 true 0, momentC y m d s z o] (.tuple #[.int .i64 k, .bool true]))) 30 90 [.string sMinus, momentV y m d s z o, dateV y2 m2 d2] ((· = .tuple #[nullV, .bool true])) := by
  constructor
  rw [aMDBtwN_tree fun u mw => u = .tuple #[nullV, .bool true] ∧ Tryz.prog.globals.size ≤ mw]
  try simp only [wOne hn, wNeg hn]
  repeat' (first
    | exact ⟨rfl, Nat.le_of_ble_eq_true (by kernel_rfl)⟩
    | exact rfl
    | assumption
    | refine And.intro ?_ ?_
    | refine bsel_of (fun _ => ?_) (fun _ => ?_)
    | intro _)
  all_goals (exfalso; first | contradiction | (simp_all; done) | (simp_all; omega))
theorem aMDBtwN  (base : World) (y m d s o : Int) (z : Bool) (y2 m2 d2 k : Int) (hL : Tot base 34 [momentC y2 m2 d2 0 true 0, momentC y m d s z o] (.tuple #[.int .i64 k, .bool true])) (hk : ¬ spanOk k) : Tot base 90 [.string sMinus, momentV y m d s z o, dateV y2 m2 d2] (.tuple #[nullV, .bool true]) := tot_lit (rulesX_ok hL) (aMDBtwN_hk base y m d s o z y2 m2 d2 k hL hk) (by kernel_rfl) (by repeat' (first | refine List.forall_mem_cons.2 ⟨?_, ?_⟩ | exact (fun _ h => nomatch h) | assumption | kernel_rfl))
theorem aMDBtwF_tree (K : Value → Nat → Prop) (base : World) (y m d s o : Int) (z : Bool) (y2 m2 d2 k : Int) :
    funcK (env (rulesX 34 [momentC y2 m2 d2 0 true 0, momentC y m d s z o] (.tuple #[.int .i64 k, .bool false]))) 30 90 [.string sMinus, momentV y m d s z o, dateV y2 m2 d2] tabs Tryz.prog.globals.size (fun u _ _ mw => K u mw) =
  (Go.Proofs.YteaebpmgbpnbeaaGreatDoor.Same
 [Go.Value.agg
 (Array.mk
 [Go.Value.int Go.IntKind.i64 y2, Go.Value.int Go.IntKind.i64 m2, Go.Value.int Go.IntKind.i64 d2, Go.Value.int Go.IntKind.i64 (Int.ofNat (0 : Nat)), Go.Value.bool Bool.true,
 Go.Value.int Go.IntKind.i64 (Int.ofNat (0 : Nat))]),
 Go.Value.agg
 (Array.mk [Go.Value.int Go.IntKind.i64 y, Go.Value.int Go.IntKind.i64 m, Go.Value.int Go.IntKind.i64 d, Go.Value.int Go.IntKind.i64 s, Go.Value.bool z, Go.Value.int Go.IntKind.i64 o])]
 [Go.Value.agg
 (Array.mk
 [Go.Value.int Go.IntKind.i64 y2, Go.Value.int Go.IntKind.i64 m2, Go.Value.int Go.IntKind.i64 d2, Go.Value.int Go.IntKind.i64 (Int.ofNat (0 : Nat)), Go.Value.bool Bool.true,
 Go.Value.int Go.IntKind.i64 (Int.ofNat (0 : Nat))]),
 Go.Value.agg
 (Array.mk [Go.Value.int Go.IntKind.i64 y, Go.Value.int Go.IntKind.i64 m, Go.Value.int Go.IntKind.i64 d, Go.Value.int Go.IntKind.i64 s, Go.Value.bool z, Go.Value.int Go.IntKind.i64 o])] ∧
 (Go.Proofs.YteaebpmgbpnbeaaGreatDoor.spanOk k → K (Go.Value.tuple (Array.mk [Go.Value.agg (Array.mk [Go.Value.nilIface]), Go.Value.bool Bool.true])) (12 : Nat)) ∧
 (¬Go.Proofs.YteaebpmgbpnbeaaGreatDoor.spanOk k → K (Go.Value.tuple (Array.mk [Go.Value.agg (Array.mk [Go.Value.nilIface]), Go.Value.bool Bool.true])) (12 : Nat))) := by kernel_rfl
theorem aMDBtwF_hk (base : World) (y m d s o : Int) (z : Bool) (y2 m2 d2 k : Int) (hL : Tot base 34 [momentC y2 m2 d2 0 true 0, momentC y m d s z o] (.tuple #[.int .i64 k, .bool false])) : ReckE (env (rulesX 34 [momentC y2 m2 d2 0 true 0, momentC y m d s z o] (.tuple #[.int .i64 k, .bool false]))) 30 90 [.string sMinus, momentV y m d s z o, dateV y2 m2 d2] ((· = .tuple #[nullV, .bool true])) := by
  constructor
  rw [aMDBtwF_tree fun u mw => u = .tuple #[nullV, .bool true] ∧ Tryz.prog.globals.size ≤ mw]
  try simp only [wOne hn, wNeg hn]
  repeat' (first
    | exact ⟨rfl, Nat.le_of_ble_eq_true (by kernel_rfl)⟩
    | exact rfl
    | assumption
    | refine And.intro ?_ ?_
    | refine bsel_of (fun _ => ?_) (fun _ => ?_)
    | intro _)
  all_goals (exfalso; first | contradiction | (simp_all; done) | (simp_all; omega))
theorem aMDBtwF  (base : World) (y m d s o : Int) (z : Bool) (y2 m2 d2 k : Int) (hL : Tot base 34 [momentC y2 m2 d2 0 true 0, momentC y m d s z o] (.tuple #[.int .i64 k, .bool false])) : Tot base 90 [.string sMinus, momentV y m d s z o, dateV y2 m2 d2] (.tuple #[nullV, .bool true]) := tot_lit (rulesX_ok hL) (aMDBtwF_hk base y m d s o z y2 m2 d2 k hL) (by kernel_rfl) (by repeat' (first | refine List.forall_mem_cons.2 ⟨?_, ?_⟩ | exact (fun _ h => nomatch h) | assumption | kernel_rfl))
theorem aCBtwT_tree (K : Value → Nat → Prop) (base : World) (s o s2 o2 k : Int) (z z2 : Bool) :
    funcK (env (rulesX 36 [timeC s2 z2 o2, timeC s z o] (.tuple #[.int .i64 k, .bool true]))) 30 90 [.string sMinus, timeV s z o, timeV s2 z2 o2] tabs Tryz.prog.globals.size (fun u _ _ mw => K u mw) =
  (Go.Proofs.YteaebpmgbpnbeaaGreatDoor.Same
 [Go.Value.agg (Array.mk [Go.Value.int Go.IntKind.i64 s2, Go.Value.bool z2, Go.Value.int Go.IntKind.i64 o2]),
 Go.Value.agg (Array.mk [Go.Value.int Go.IntKind.i64 s, Go.Value.bool z, Go.Value.int Go.IntKind.i64 o])]
 [Go.Value.agg (Array.mk [Go.Value.int Go.IntKind.i64 s2, Go.Value.bool z2, Go.Value.int Go.IntKind.i64 o2]),
 Go.Value.agg (Array.mk [Go.Value.int Go.IntKind.i64 s, Go.Value.bool z, Go.Value.int Go.IntKind.i64 o])] ∧
 (Go.Proofs.YteaebpmgbpnbeaaGreatDoor.spanOk k →
 K (Go.Value.tuple (Array.mk [Go.Value.agg (Array.mk [Go.Value.iface (131 : Nat) (Go.Value.int Go.IntKind.i64 k)]), Go.Value.bool Bool.true])) (12 : Nat)) ∧
 (¬Go.Proofs.YteaebpmgbpnbeaaGreatDoor.spanOk k → K (Go.Value.tuple (Array.mk [Go.Value.agg (Array.mk [Go.Value.nilIface]), Go.Value.bool Bool.true])) (12 : Nat))) := by kernel_rfl
theorem aCBtwT_hk (base : World) (s o s2 o2 k : Int) (z z2 : Bool) (hL : Tot base 36 [timeC s2 z2 o2, timeC s z o] (.tuple #[.int .i64 k, .bool true])) (hk : spanOk k) : ReckE (env (rulesX 36 [timeC s2 z2 o2, timeC s z o] (.tuple #[.int .i64 k, .bool true]))) 30 90 [.string sMinus, timeV s z o, timeV s2 z2 o2] ((· = .tuple #[daysV k, .bool true])) := by
  constructor
  rw [aCBtwT_tree fun u mw => u = .tuple #[daysV k, .bool true] ∧ Tryz.prog.globals.size ≤ mw]
  try simp only [wOne hn, wNeg hn]
  repeat' (first
    | exact ⟨rfl, Nat.le_of_ble_eq_true (by kernel_rfl)⟩
    | exact rfl
    | assumption
    | refine And.intro ?_ ?_
    | refine bsel_of (fun _ => ?_) (fun _ => ?_)
    | intro _)
  all_goals (exfalso; first | contradiction | (simp_all; done) | (simp_all; omega))
theorem aCBtwT  (base : World) (s o s2 o2 k : Int) (z z2 : Bool) (hL : Tot base 36 [timeC s2 z2 o2, timeC s z o] (.tuple #[.int .i64 k, .bool true])) (hk : spanOk k) : Tot base 90 [.string sMinus, timeV s z o, timeV s2 z2 o2] (.tuple #[daysV k, .bool true]) := tot_lit (rulesX_ok hL) (aCBtwT_hk base s o s2 o2 k z z2 hL hk) (by kernel_rfl) (by repeat' (first | refine List.forall_mem_cons.2 ⟨?_, ?_⟩ | exact (fun _ h => nomatch h) | assumption | kernel_rfl))
theorem aCBtwN_tree (K : Value → Nat → Prop) (base : World) (s o s2 o2 k : Int) (z z2 : Bool) :
    funcK (env (rulesX 36 [timeC s2 z2 o2, timeC s z o] (.tuple #[.int .i64 k, .bool true]))) 30 90 [.string sMinus, timeV s z o, timeV s2 z2 o2] tabs Tryz.prog.globals.size (fun u _ _ mw => K u mw) =
  (Go.Proofs.YteaebpmgbpnbeaaGreatDoor.Same
 [Go.Value.agg (Array.mk [Go.Value.int Go.IntKind.i64 s2, Go.Value.bool z2, Go.Value.int Go.IntKind.i64 o2]),
 Go.Value.agg (Array.mk [Go.Value.int Go.IntKind.i64 s, Go.Value.bool z, Go.Value.int Go.IntKind.i64 o])]
 [Go.Value.agg (Array.mk [Go.Value.int Go.IntKind.i64 s2, Go.Value.bool z2, Go.Value.int Go.IntKind.i64 o2]),
 Go.Value.agg (Array.mk [Go.Value.int Go.IntKind.i64 s, Go.Value.bool z, Go.Value.int Go.IntKind.i64 o])] ∧
 (Go.Proofs.YteaebpmgbpnbeaaGreatDoor.spanOk k →
 K (Go.Value.tuple (Array.mk [Go.Value.agg (Array.mk [Go.Value.iface (131 : Nat) (Go.Value.int Go.IntKind.i64 k)]), Go.Value.bool Bool.true])) (12 : Nat)) ∧
 (¬Go.Proofs.YteaebpmgbpnbeaaGreatDoor.spanOk k → K (Go.Value.tuple (Array.mk [Go.Value.agg (Array.mk [Go.Value.nilIface]), Go.Value.bool Bool.true])) (12 : Nat))) := by kernel_rfl
theorem aCBtwN_hk (base : World) (s o s2 o2 k : Int) (z z2 : Bool) (hL : Tot base 36 [timeC s2 z2 o2, timeC s z o] (.tuple #[.int .i64 k, .bool true])) (hk : ¬ spanOk k) : ReckE (env (rulesX 36 [timeC s2 z2 o2, timeC s z o] (.tuple #[.int .i64 k, .bool true]))) 30 90 [.string sMinus, timeV s z o, timeV s2 z2 o2] ((· = .tuple #[nullV, .bool true])) := by
  constructor
  rw [aCBtwN_tree fun u mw => u = .tuple #[nullV, .bool true] ∧ Tryz.prog.globals.size ≤ mw]
  try simp only [wOne hn, wNeg hn]
  repeat' (first
    | exact ⟨rfl, Nat.le_of_ble_eq_true (by kernel_rfl)⟩
    | exact rfl
    | assumption
    | refine And.intro ?_ ?_
    | refine bsel_of (fun _ => ?_) (fun _ => ?_)
    | intro _)
  all_goals (exfalso; first | contradiction | (simp_all; done) | (simp_all; omega))
theorem aCBtwN  (base : World) (s o s2 o2 k : Int) (z z2 : Bool) (hL : Tot base 36 [timeC s2 z2 o2, timeC s z o] (.tuple #[.int .i64 k, .bool true])) (hk : ¬ spanOk k) : Tot base 90 [.string sMinus, timeV s z o, timeV s2 z2 o2] (.tuple #[nullV, .bool true]) := tot_lit (rulesX_ok hL) (aCBtwN_hk base s o s2 o2 k z z2 hL hk) (by kernel_rfl) (by repeat' (first | refine List.forall_mem_cons.2 ⟨?_, ?_⟩ | exact (fun _ h => nomatch h) | assumption | kernel_rfl))
theorem aCBtwF_tree (K : Value → Nat → Prop) (base : World) (s o s2 o2 k : Int) (z z2 : Bool) :
    funcK (env (rulesX 36 [timeC s2 z2 o2, timeC s z o] (.tuple #[.int .i64 k, .bool false]))) 30 90 [.string sMinus, timeV s z o, timeV s2 z2 o2] tabs Tryz.prog.globals.size (fun u _ _ mw => K u mw) =
  (Go.Proofs.YteaebpmgbpnbeaaGreatDoor.Same
 [Go.Value.agg (Array.mk [Go.Value.int Go.IntKind.i64 s2, Go.Value.bool z2, Go.Value.int Go.IntKind.i64 o2]),
 Go.Value.agg (Array.mk [Go.Value.int Go.IntKind.i64 s, Go.Value.bool z, Go.Value.int Go.IntKind.i64 o])]
 [Go.Value.agg (Array.mk [Go.Value.int Go.IntKind.i64 s2, Go.Value.bool z2, Go.Value.int Go.IntKind.i64 o2]),
 Go.Value.agg (Array.mk [Go.Value.int Go.IntKind.i64 s, Go.Value.bool z, Go.Value.int Go.IntKind.i64 o])] ∧
 (Go.Proofs.YteaebpmgbpnbeaaGreatDoor.spanOk k → K (Go.Value.tuple (Array.mk [Go.Value.agg (Array.mk [Go.Value.nilIface]), Go.Value.bool Bool.true])) (12 : Nat)) ∧
 (¬Go.Proofs.YteaebpmgbpnbeaaGreatDoor.spanOk k → K (Go.Value.tuple (Array.mk [Go.Value.agg (Array.mk [Go.Value.nilIface]), Go.Value.bool Bool.true])) (12 : Nat))) := by kernel_rfl
theorem aCBtwF_hk (base : World) (s o s2 o2 k : Int) (z z2 : Bool) (hL : Tot base 36 [timeC s2 z2 o2, timeC s z o] (.tuple #[.int .i64 k, .bool false])) : ReckE (env (rulesX 36 [timeC s2 z2 o2, timeC s z o] (.tuple #[.int .i64 k, .bool false]))) 30 90 [.string sMinus, timeV s z o, timeV s2 z2 o2] ((· = .tuple #[nullV, .bool true])) := by
  constructor
  rw [aCBtwF_tree fun u mw => u = .tuple #[nullV, .bool true] ∧ Tryz.prog.globals.size ≤ mw]
  try simp only [wOne hn, wNeg hn]
  repeat' (first
    | exact ⟨rfl, Nat.le_of_ble_eq_true (by kernel_rfl)⟩
    | exact rfl
    | assumption
    | refine And.intro ?_ ?_
    | refine bsel_of (fun _ => ?_) (fun _ => ?_)
    | intro _)
  all_goals (exfalso; first | contradiction | (simp_all; done) | (simp_all; omega))
theorem aCBtwF  (base : World) (s o s2 o2 k : Int) (z z2 : Bool) (hL : Tot base 36 [timeC s2 z2 o2, timeC s z o] (.tuple #[.int .i64 k, .bool false])) : Tot base 90 [.string sMinus, timeV s z o, timeV s2 z2 o2] (.tuple #[nullV, .bool true]) := tot_lit (rulesX_ok hL) (aCBtwF_hk base s o s2 o2 k z z2 hL) (by kernel_rfl) (by repeat' (first | refine List.forall_mem_cons.2 ⟨?_, ?_⟩ | exact (fun _ h => nomatch h) | assumption | kernel_rfl))

end Go.Proofs.YteaebpmgbpnbeaaGreatDoor
