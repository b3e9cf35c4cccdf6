/-
  Values that are made of one another and of numbers.
-/
import Derived.Test.YteaebpmgbpnbeaaGreatDoorFd
namespace Go.Proofs.YteaebpmgbpnbeaaGreatDoor
open Go Go.Pe Go.RowKit

theorem tDateM_tree (K : Value → Nat → Prop) (y m d s o : Int) (z : Bool) :
    funcK (env (rulesK)) 30 49 [momentV y m d s z o] tabs Tryz.prog.globals.size (fun u _ _ mw => K u mw) =
  ((Go.Proofs.YteaebpmgbpnbeaaGreatDoor.dateOk y m d →
 K (Go.Value.agg (Array.mk [Go.Value.iface (143 : Nat) (Go.Value.agg (Array.mk [Go.Value.int Go.IntKind.i64 y, Go.Value.int Go.IntKind.i64 m, Go.Value.int Go.IntKind.i64 d]))])) (11 : Nat)) ∧
 (¬Go.Proofs.YteaebpmgbpnbeaaGreatDoor.dateOk y m d → K (Go.Value.agg (Array.mk [Go.Value.nilIface])) (11 : Nat))) := by kernel_rfl
theorem tDateM_hk (y m d s o : Int) (z : Bool) (hd : dateOk y m d) (ht : timeOk s z o) : ReckE (env (rulesK)) 30 49 [momentV y m d s z o] ((· = dateV y m d)) := by
  constructor
  rw [tDateM_tree fun u mw => u = dateV y m d ∧ Tryz.prog.globals.size ≤ mw]
  repeat' (first
    | exact ⟨rfl, Nat.le_of_ble_eq_true (by kernel_rfl)⟩
    | exact rfl
    | assumption
    | exact zero_time'
    | refine And.intro ?_ ?_
    | refine bsel_of (fun _ => ?_) (fun _ => ?_)
    | intro _)
  all_goals (exfalso; first | contradiction | (simp_all; done) | (simp_all [zero_time']; done) | (simp_all; omega))
theorem tDateM {base : World} (y m d s o : Int) (z : Bool) (hd : dateOk y m d) (ht : timeOk s z o) : Tot base 49 [momentV y m d s z o] (dateV y m d) := tot_lit (rulesK_ok base) (tDateM_hk y m d s o z hd ht) (by kernel_rfl) (by repeat' (first | refine List.forall_mem_cons.2 ⟨?_, ?_⟩ | exact (fun _ h => nomatch h) | assumption | kernel_rfl))
theorem tDateD_tree (K : Value → Nat → Prop) (y m d : Int) :
    funcK (env (rulesK)) 30 49 [dateV y m d] tabs Tryz.prog.globals.size (fun u _ _ mw => K u mw) =
  ((Go.Proofs.YteaebpmgbpnbeaaGreatDoor.dateOk y m d →
 K (Go.Value.agg (Array.mk [Go.Value.iface (143 : Nat) (Go.Value.agg (Array.mk [Go.Value.int Go.IntKind.i64 y, Go.Value.int Go.IntKind.i64 m, Go.Value.int Go.IntKind.i64 d]))])) (11 : Nat)) ∧
 (¬Go.Proofs.YteaebpmgbpnbeaaGreatDoor.dateOk y m d → K (Go.Value.agg (Array.mk [Go.Value.nilIface])) (11 : Nat))) := by kernel_rfl
theorem tDateD_hk (y m d : Int) (hd : dateOk y m d) : ReckE (env (rulesK)) 30 49 [dateV y m d] ((· = dateV y m d)) := by
  constructor
  rw [tDateD_tree fun u mw => u = dateV y m d ∧ Tryz.prog.globals.size ≤ mw]
  repeat' (first
    | exact ⟨rfl, Nat.le_of_ble_eq_true (by kernel_rfl)⟩
    | exact rfl
    | assumption
    | exact zero_time'
    | refine And.intro ?_ ?_
    | refine bsel_of (fun _ => ?_) (fun _ => ?_)
    | intro _)
  all_goals (exfalso; first | contradiction | (simp_all; done) | (simp_all [zero_time']; done) | (simp_all; omega))
theorem tDateD {base : World} (y m d : Int) (hd : dateOk y m d) : Tot base 49 [dateV y m d] (dateV y m d) := tot_lit (rulesK_ok base) (tDateD_hk y m d hd) (by kernel_rfl) (by repeat' (first | refine List.forall_mem_cons.2 ⟨?_, ?_⟩ | exact (fun _ h => nomatch h) | assumption | kernel_rfl))
theorem tTimeM_tree (K : Value → Nat → Prop) (y m d s o : Int) (z : Bool) :
    funcK (env (rulesK)) 30 50 [momentV y m d s z o] tabs Tryz.prog.globals.size (fun u _ _ mw => K u mw) =
  ((Go.Proofs.YteaebpmgbpnbeaaGreatDoor.timeOk s z o →
 K (Go.Value.agg (Array.mk [Go.Value.iface (144 : Nat) (Go.Value.agg (Array.mk [Go.Value.int Go.IntKind.i64 s, Go.Value.bool z, Go.Value.int Go.IntKind.i64 o]))])) (11 : Nat)) ∧
 (¬Go.Proofs.YteaebpmgbpnbeaaGreatDoor.timeOk s z o → K (Go.Value.agg (Array.mk [Go.Value.nilIface])) (11 : Nat))) := by kernel_rfl
theorem tTimeM_hk (y m d s o : Int) (z : Bool) (hd : dateOk y m d) (ht : timeOk s z o) : ReckE (env (rulesK)) 30 50 [momentV y m d s z o] ((· = timeV s z o)) := by
  constructor
  rw [tTimeM_tree fun u mw => u = timeV s z o ∧ Tryz.prog.globals.size ≤ mw]
  repeat' (first
    | exact ⟨rfl, Nat.le_of_ble_eq_true (by kernel_rfl)⟩
    | exact rfl
    | assumption
    | exact zero_time'
    | refine And.intro ?_ ?_
    | refine bsel_of (fun _ => ?_) (fun _ => ?_)
    | intro _)
  all_goals (exfalso; first | contradiction | (simp_all; done) | (simp_all [zero_time']; done) | (simp_all; omega))
theorem tTimeM {base : World} (y m d s o : Int) (z : Bool) (hd : dateOk y m d) (ht : timeOk s z o) : Tot base 50 [momentV y m d s z o] (timeV s z o) := tot_lit (rulesK_ok base) (tTimeM_hk y m d s o z hd ht) (by kernel_rfl) (by repeat' (first | refine List.forall_mem_cons.2 ⟨?_, ?_⟩ | exact (fun _ h => nomatch h) | assumption | kernel_rfl))
theorem tTimeT_tree (K : Value → Nat → Prop) (s o : Int) (z : Bool) :
    funcK (env (rulesK)) 30 50 [timeV s z o] tabs Tryz.prog.globals.size (fun u _ _ mw => K u mw) =
  ((Go.Proofs.YteaebpmgbpnbeaaGreatDoor.timeOk s z o →
 K (Go.Value.agg (Array.mk [Go.Value.iface (144 : Nat) (Go.Value.agg (Array.mk [Go.Value.int Go.IntKind.i64 s, Go.Value.bool z, Go.Value.int Go.IntKind.i64 o]))])) (11 : Nat)) ∧
 (¬Go.Proofs.YteaebpmgbpnbeaaGreatDoor.timeOk s z o → K (Go.Value.agg (Array.mk [Go.Value.nilIface])) (11 : Nat))) := by kernel_rfl
theorem tTimeT_hk (s o : Int) (z : Bool) (ht : timeOk s z o) : ReckE (env (rulesK)) 30 50 [timeV s z o] ((· = timeV s z o)) := by
  constructor
  rw [tTimeT_tree fun u mw => u = timeV s z o ∧ Tryz.prog.globals.size ≤ mw]
  repeat' (first
    | exact ⟨rfl, Nat.le_of_ble_eq_true (by kernel_rfl)⟩
    | exact rfl
    | assumption
    | exact zero_time'
    | refine And.intro ?_ ?_
    | refine bsel_of (fun _ => ?_) (fun _ => ?_)
    | intro _)
  all_goals (exfalso; first | contradiction | (simp_all; done) | (simp_all [zero_time']; done) | (simp_all; omega))
theorem tTimeT {base : World} (s o : Int) (z : Bool) (ht : timeOk s z o) : Tot base 50 [timeV s z o] (timeV s z o) := tot_lit (rulesK_ok base) (tTimeT_hk s o z ht) (by kernel_rfl) (by repeat' (first | refine List.forall_mem_cons.2 ⟨?_, ?_⟩ | exact (fun _ h => nomatch h) | assumption | kernel_rfl))
theorem tTimeD_tree (K : Value → Nat → Prop) (y m d : Int) :
    funcK (env (rulesK)) 30 50 [dateV y m d] tabs Tryz.prog.globals.size (fun u _ _ mw => K u mw) =
  ((Go.Proofs.YteaebpmgbpnbeaaGreatDoor.timeOk (Int.ofNat (0 : Nat)) Bool.true (Int.ofNat (0 : Nat)) →
 K
 (Go.Value.agg
 (Array.mk
 [Go.Value.iface (144 : Nat) (Go.Value.agg (Array.mk [Go.Value.int Go.IntKind.i64 (Int.ofNat (0 : Nat)), Go.Value.bool Bool.true, Go.Value.int Go.IntKind.i64 (Int.ofNat (0 : Nat))]))]))
 (11 : Nat)) ∧
 (¬Go.Proofs.YteaebpmgbpnbeaaGreatDoor.timeOk (Int.ofNat (0 : Nat)) Bool.true (Int.ofNat (0 : Nat)) → K (Go.Value.agg (Array.mk [Go.Value.nilIface])) (11 : Nat))) := by kernel_rfl
theorem tTimeD_hk (y m d : Int) (hd : dateOk y m d) : ReckE (env (rulesK)) 30 50 [dateV y m d] ((· = timeV 0 true 0)) := by
  constructor
  rw [tTimeD_tree fun u mw => u = timeV 0 true 0 ∧ Tryz.prog.globals.size ≤ mw]
  repeat' (first
    | exact ⟨rfl, Nat.le_of_ble_eq_true (by kernel_rfl)⟩
    | exact rfl
    | assumption
    | exact zero_time'
    | refine And.intro ?_ ?_
    | refine bsel_of (fun _ => ?_) (fun _ => ?_)
    | intro _)
  all_goals (exfalso; first | contradiction | (simp_all; done) | (simp_all [zero_time']; done) | (simp_all; omega))
theorem tTimeD {base : World} (y m d : Int) (hd : dateOk y m d) : Tot base 50 [dateV y m d] (timeV 0 true 0) := tot_lit (rulesK_ok base) (tTimeD_hk y m d hd) (by kernel_rfl) (by repeat' (first | refine List.forall_mem_cons.2 ⟨?_, ?_⟩ | exact (fun _ h => nomatch h) | assumption | kernel_rfl))
theorem tMomentM_tree (K : Value → Nat → Prop) (y m d s o : Int) (z : Bool) :
    funcK (env (rulesK)) 30 48 [momentV y m d s z o] tabs Tryz.prog.globals.size (fun u _ _ mw => K u mw) =
  ((Go.Proofs.YteaebpmgbpnbeaaGreatDoor.dateOk y m d ∧ Go.Proofs.YteaebpmgbpnbeaaGreatDoor.timeOk s z o →
 K
 (Go.Value.agg
 (Array.mk
 [Go.Value.iface (142 : Nat)
 (Go.Value.agg
 (Array.mk
 [Go.Value.int Go.IntKind.i64 y, Go.Value.int Go.IntKind.i64 m, Go.Value.int Go.IntKind.i64 d, Go.Value.int Go.IntKind.i64 s, Go.Value.bool z, Go.Value.int Go.IntKind.i64 o]))]))
 (11 : Nat)) ∧
 (¬(Go.Proofs.YteaebpmgbpnbeaaGreatDoor.dateOk y m d ∧ Go.Proofs.YteaebpmgbpnbeaaGreatDoor.timeOk s z o) → K (Go.Value.agg (Array.mk [Go.Value.nilIface])) (11 : Nat))) := by kernel_rfl
theorem tMomentM_hk (y m d s o : Int) (z : Bool) (hd : dateOk y m d) (ht : timeOk s z o) : ReckE (env (rulesK)) 30 48 [momentV y m d s z o] ((· = momentV y m d s z o)) := by
  constructor
  rw [tMomentM_tree fun u mw => u = momentV y m d s z o ∧ Tryz.prog.globals.size ≤ mw]
  repeat' (first
    | exact ⟨rfl, Nat.le_of_ble_eq_true (by kernel_rfl)⟩
    | exact rfl
    | assumption
    | exact zero_time'
    | refine And.intro ?_ ?_
    | refine bsel_of (fun _ => ?_) (fun _ => ?_)
    | intro _)
  all_goals (exfalso; first | contradiction | (simp_all; done) | (simp_all [zero_time']; done) | (simp_all; omega))
theorem tMomentM {base : World} (y m d s o : Int) (z : Bool) (hd : dateOk y m d) (ht : timeOk s z o) : Tot base 48 [momentV y m d s z o] (momentV y m d s z o) := tot_lit (rulesK_ok base) (tMomentM_hk y m d s o z hd ht) (by kernel_rfl) (by repeat' (first | refine List.forall_mem_cons.2 ⟨?_, ?_⟩ | exact (fun _ h => nomatch h) | assumption | kernel_rfl))
theorem tMomentD_tree (K : Value → Nat → Prop) (y m d : Int) :
    funcK (env (rulesK)) 30 48 [dateV y m d] tabs Tryz.prog.globals.size (fun u _ _ mw => K u mw) =
  ((Go.Proofs.YteaebpmgbpnbeaaGreatDoor.dateOk y m d ∧ Go.Proofs.YteaebpmgbpnbeaaGreatDoor.timeOk (Int.ofNat (0 : Nat)) Bool.true (Int.ofNat (0 : Nat)) →
 K
 (Go.Value.agg
 (Array.mk
 [Go.Value.iface (142 : Nat)
 (Go.Value.agg
 (Array.mk
 [Go.Value.int Go.IntKind.i64 y, Go.Value.int Go.IntKind.i64 m, Go.Value.int Go.IntKind.i64 d, Go.Value.int Go.IntKind.i64 (Int.ofNat (0 : Nat)), Go.Value.bool Bool.true,
 Go.Value.int Go.IntKind.i64 (Int.ofNat (0 : Nat))]))]))
 (11 : Nat)) ∧
 (¬(Go.Proofs.YteaebpmgbpnbeaaGreatDoor.dateOk y m d ∧ Go.Proofs.YteaebpmgbpnbeaaGreatDoor.timeOk (Int.ofNat (0 : Nat)) Bool.true (Int.ofNat (0 : Nat))) →
 K (Go.Value.agg (Array.mk [Go.Value.nilIface])) (11 : Nat))) := by kernel_rfl
theorem tMomentD_hk (y m d : Int) (hd : dateOk y m d) : ReckE (env (rulesK)) 30 48 [dateV y m d] ((· = momentV y m d 0 true 0)) := by
  constructor
  rw [tMomentD_tree fun u mw => u = momentV y m d 0 true 0 ∧ Tryz.prog.globals.size ≤ mw]
  repeat' (first
    | exact ⟨rfl, Nat.le_of_ble_eq_true (by kernel_rfl)⟩
    | exact rfl
    | assumption
    | exact zero_time'
    | refine And.intro ?_ ?_
    | refine bsel_of (fun _ => ?_) (fun _ => ?_)
    | intro _)
  all_goals (exfalso; first | contradiction | (simp_all; done) | (simp_all [zero_time']; done) | (simp_all; omega))
theorem tMomentD {base : World} (y m d : Int) (hd : dateOk y m d) : Tot base 48 [dateV y m d] (momentV y m d 0 true 0) := tot_lit (rulesK_ok base) (tMomentD_hk y m d hd) (by kernel_rfl) (by repeat' (first | refine List.forall_mem_cons.2 ⟨?_, ?_⟩ | exact (fun _ h => nomatch h) | assumption | kernel_rfl))
theorem tMomOfM_tree (K : Value → Nat → Prop) (y m d s o : Int) (z : Bool) (s2 o2 : Int) (z2 : Bool) :
    funcK (env (rulesK)) 30 63 [momentV y m d s z o, timeV s2 z2 o2] tabs Tryz.prog.globals.size (fun u _ _ mw => K u mw) =
  ((Go.Proofs.YteaebpmgbpnbeaaGreatDoor.dateOk y m d ∧ Go.Proofs.YteaebpmgbpnbeaaGreatDoor.timeOk s2 z2 o2 →
 K
 (Go.Value.agg
 (Array.mk
 [Go.Value.iface (142 : Nat)
 (Go.Value.agg
 (Array.mk
 [Go.Value.int Go.IntKind.i64 y, Go.Value.int Go.IntKind.i64 m, Go.Value.int Go.IntKind.i64 d, Go.Value.int Go.IntKind.i64 s2, Go.Value.bool z2, Go.Value.int Go.IntKind.i64 o2]))]))
 (12 : Nat)) ∧
 (¬(Go.Proofs.YteaebpmgbpnbeaaGreatDoor.dateOk y m d ∧ Go.Proofs.YteaebpmgbpnbeaaGreatDoor.timeOk s2 z2 o2) → K (Go.Value.agg (Array.mk [Go.Value.nilIface])) (12 : Nat))) := by kernel_rfl
theorem tMomOfM_hk (y m d s o : Int) (z : Bool) (s2 o2 : Int) (z2 : Bool) (hd : dateOk y m d) (ht : timeOk s2 z2 o2) : ReckE (env (rulesK)) 30 63 [momentV y m d s z o, timeV s2 z2 o2] ((· = momentV y m d s2 z2 o2)) := by
  constructor
  rw [tMomOfM_tree fun u mw => u = momentV y m d s2 z2 o2 ∧ Tryz.prog.globals.size ≤ mw]
  repeat' (first
    | exact ⟨rfl, Nat.le_of_ble_eq_true (by kernel_rfl)⟩
    | exact rfl
    | assumption
    | exact zero_time'
    | refine And.intro ?_ ?_
    | refine bsel_of (fun _ => ?_) (fun _ => ?_)
    | intro _)
  all_goals (exfalso; first | contradiction | (simp_all; done) | (simp_all [zero_time']; done) | (simp_all; omega))
theorem tMomOfM {base : World} (y m d s o : Int) (z : Bool) (s2 o2 : Int) (z2 : Bool) (hd : dateOk y m d) (ht : timeOk s2 z2 o2) : Tot base 63 [momentV y m d s z o, timeV s2 z2 o2] (momentV y m d s2 z2 o2) := tot_lit (rulesK_ok base) (tMomOfM_hk y m d s o z s2 o2 z2 hd ht) (by kernel_rfl) (by repeat' (first | refine List.forall_mem_cons.2 ⟨?_, ?_⟩ | exact (fun _ h => nomatch h) | assumption | kernel_rfl))
theorem tMomOfD_tree (K : Value → Nat → Prop) (y m d s o : Int) (z : Bool) :
    funcK (env (rulesK)) 30 63 [dateV y m d, timeV s z o] tabs Tryz.prog.globals.size (fun u _ _ mw => K u mw) =
  ((Go.Proofs.YteaebpmgbpnbeaaGreatDoor.dateOk y m d ∧ Go.Proofs.YteaebpmgbpnbeaaGreatDoor.timeOk s z o →
 K
 (Go.Value.agg
 (Array.mk
 [Go.Value.iface (142 : Nat)
 (Go.Value.agg
 (Array.mk
 [Go.Value.int Go.IntKind.i64 y, Go.Value.int Go.IntKind.i64 m, Go.Value.int Go.IntKind.i64 d, Go.Value.int Go.IntKind.i64 s, Go.Value.bool z, Go.Value.int Go.IntKind.i64 o]))]))
 (12 : Nat)) ∧
 (¬(Go.Proofs.YteaebpmgbpnbeaaGreatDoor.dateOk y m d ∧ Go.Proofs.YteaebpmgbpnbeaaGreatDoor.timeOk s z o) → K (Go.Value.agg (Array.mk [Go.Value.nilIface])) (12 : Nat))) := by kernel_rfl
theorem tMomOfD_hk (y m d s o : Int) (z : Bool) (hd : dateOk y m d) (ht : timeOk s z o) : ReckE (env (rulesK)) 30 63 [dateV y m d, timeV s z o] ((· = momentV y m d s z o)) := by
  constructor
  rw [tMomOfD_tree fun u mw => u = momentV y m d s z o ∧ Tryz.prog.globals.size ≤ mw]
  repeat' (first
    | exact ⟨rfl, Nat.le_of_ble_eq_true (by kernel_rfl)⟩
    | exact rfl
    | assumption
    | exact zero_time'
    | refine And.intro ?_ ?_
    | refine bsel_of (fun _ => ?_) (fun _ => ?_)
    | intro _)
  all_goals (exfalso; first | contradiction | (simp_all; done) | (simp_all [zero_time']; done) | (simp_all; omega))
theorem tMomOfD {base : World} (y m d s o : Int) (z : Bool) (hd : dateOk y m d) (ht : timeOk s z o) : Tot base 63 [dateV y m d, timeV s z o] (momentV y m d s z o) := tot_lit (rulesK_ok base) (tMomOfD_hk y m d s o z hd ht) (by kernel_rfl) (by repeat' (first | refine List.forall_mem_cons.2 ⟨?_, ?_⟩ | exact (fun _ h => nomatch h) | assumption | kernel_rfl))
theorem tMomOfN_tree (K : Value → Nat → Prop) (y m d s o : Int) (z : Bool) :
    funcK (env (rulesK)) 30 63 [timeV s z o, dateV y m d] tabs Tryz.prog.globals.size (fun u _ _ mw => K u mw) =
  (K (Go.Value.agg (Array.mk [Go.Value.nilIface])) (12 : Nat)) := by kernel_rfl
theorem tMomOfN_hk (y m d s o : Int) (z : Bool)  : ReckE (env (rulesK)) 30 63 [timeV s z o, dateV y m d] ((· = nullV)) := by
  constructor
  rw [tMomOfN_tree fun u mw => u = nullV ∧ Tryz.prog.globals.size ≤ mw]
  repeat' (first
    | exact ⟨rfl, Nat.le_of_ble_eq_true (by kernel_rfl)⟩
    | exact rfl
    | assumption
    | exact zero_time'
    | refine And.intro ?_ ?_
    | refine bsel_of (fun _ => ?_) (fun _ => ?_)
    | intro _)
  all_goals (exfalso; first | contradiction | (simp_all; done) | (simp_all [zero_time']; done) | (simp_all; omega))
theorem tMomOfN {base : World} (y m d s o : Int) (z : Bool)  : Tot base 63 [timeV s z o, dateV y m d] (nullV) := tot_lit (rulesK_ok base) (tMomOfN_hk y m d s o z) (by kernel_rfl) (by repeat' (first | refine List.forall_mem_cons.2 ⟨?_, ?_⟩ | exact (fun _ h => nomatch h) | assumption | kernel_rfl))
theorem tDateOfN_tree (K : Value → Nat → Prop) (y m d s o : Int) (z : Bool) :
    funcK (env (rulesK)) 30 64 [momentV y m d s z o, dateV y m d, timeV s z o] tabs Tryz.prog.globals.size (fun u _ _ mw => K u mw) =
  (K (Go.Value.agg (Array.mk [Go.Value.nilIface])) (13 : Nat)) := by kernel_rfl
theorem tDateOfN_hk (y m d s o : Int) (z : Bool)  : ReckE (env (rulesK)) 30 64 [momentV y m d s z o, dateV y m d, timeV s z o] ((· = nullV)) := by
  constructor
  rw [tDateOfN_tree fun u mw => u = nullV ∧ Tryz.prog.globals.size ≤ mw]
  repeat' (first
    | exact ⟨rfl, Nat.le_of_ble_eq_true (by kernel_rfl)⟩
    | exact rfl
    | assumption
    | exact zero_time'
    | refine And.intro ?_ ?_
    | refine bsel_of (fun _ => ?_) (fun _ => ?_)
    | intro _)
  all_goals (exfalso; first | contradiction | (simp_all; done) | (simp_all [zero_time']; done) | (simp_all; omega))
theorem tDateOfN {base : World} (y m d s o : Int) (z : Bool)  : Tot base 64 [momentV y m d s z o, dateV y m d, timeV s z o] (nullV) := tot_lit (rulesK_ok base) (tDateOfN_hk y m d s o z) (by kernel_rfl) (by repeat' (first | refine List.forall_mem_cons.2 ⟨?_, ?_⟩ | exact (fun _ h => nomatch h) | assumption | kernel_rfl))

/-- A value as a whole number. -/
def ruleAsInt : Rule := rule1 fun args => match args with
  | [v] => some fun K => ∃ n, v = intV n ∧ rng n ∧ K (.tuple #[.int .i64 n, .bool true])
  | _ => none
theorem asInt_ok {base : World} : RuleOk Tryz.prog base 85 ruleAsInt := ruleOk_of fun args T K hT hK => by
  split at hT
  · cases hT
    obtain ⟨n, rfl, h, hK⟩ := hK
    exact ⟨_, hK, asInt_tot h⟩
  · cases hT

def rulesAI : List (Nat × Rule) := (85, ruleAsInt) :: rulesK
theorem rulesAI_ok (base : World) : ∀ x ∈ rulesAI, RuleOk Tryz.prog base x.1 x.2 := List.forall_mem_cons.2 ⟨asInt_ok, rulesK_ok base⟩
def rulesOf (a b c : Int) (v : Value) (xs : List Value) (u : Value) : List (Nat × Rule) := (67, ruleAt [.int .i64 a, .int .i64 b, .int .i64 c] v) :: (68, ruleAt xs u) :: rulesAI
theorem rulesOf_ok {base : World} {a b c : Int} {v : Value} {xs : List Value} {u : Value} (h : Tot base 67 [.int .i64 a, .int .i64 b, .int .i64 c] v) (h2 : Tot base 68 xs u) :
    ∀ x ∈ rulesOf a b c v xs u, RuleOk Tryz.prog base x.1 x.2 := List.forall_mem_cons.2 ⟨ruleOk_at h, List.forall_mem_cons.2 ⟨ruleOk_at h2, rulesAI_ok base⟩⟩

theorem tDateOfT_tree (K : Value → Nat → Prop) (a b c : Int) :
    funcK (env (rulesAI)) 30 64 [intV a, intV b, intV c] tabs Tryz.prog.globals.size (fun u _ _ mw => K u mw) =
  (∃ (x : Int),
 Go.Value.agg
 (Array.mk
 [Go.Value.iface (130 : Nat)
 (Go.Value.agg
 (Array.mk
 [Go.Value.bool (Decidable.decide (a < (0 : Int))), Go.Value.int Go.IntKind.u64 (Int.ofNat (0 : Nat)), Go.Value.int Go.IntKind.u64 (Int.ofNat (Int.natAbs a)),
 Go.Value.int Go.IntKind.i64 (Int.ofNat (0 : Nat))]))]) =
 Go.Value.agg
 (Array.mk
 [Go.Value.iface (130 : Nat)
 (Go.Value.agg
 (Array.mk
 [Go.Value.bool (Decidable.decide (x < (0 : Int))), Go.Value.int Go.IntKind.u64 (Int.ofNat (0 : Nat)), Go.Value.int Go.IntKind.u64 (Int.ofNat (Int.natAbs x)),
 Go.Value.int Go.IntKind.i64 (Int.ofNat (0 : Nat))]))]) ∧
 Go.Proofs.YteaebpmgbpnbeaaGreatDoor.rng x ∧
 ∃ (x_1 : Int),
 Go.Value.agg
 (Array.mk
 [Go.Value.iface (130 : Nat)
 (Go.Value.agg
 (Array.mk
 [Go.Value.bool (Decidable.decide (b < (0 : Int))), Go.Value.int Go.IntKind.u64 (Int.ofNat (0 : Nat)), Go.Value.int Go.IntKind.u64 (Int.ofNat (Int.natAbs b)),
 Go.Value.int Go.IntKind.i64 (Int.ofNat (0 : Nat))]))]) =
 Go.Value.agg
 (Array.mk
 [Go.Value.iface (130 : Nat)
 (Go.Value.agg
 (Array.mk
 [Go.Value.bool (Decidable.decide (x_1 < (0 : Int))), Go.Value.int Go.IntKind.u64 (Int.ofNat (0 : Nat)), Go.Value.int Go.IntKind.u64 (Int.ofNat (Int.natAbs x_1)),
 Go.Value.int Go.IntKind.i64 (Int.ofNat (0 : Nat))]))]) ∧
 Go.Proofs.YteaebpmgbpnbeaaGreatDoor.rng x_1 ∧
 ∃ (x_2 : Int),
 Go.Value.agg
 (Array.mk
 [Go.Value.iface (130 : Nat)
 (Go.Value.agg
 (Array.mk
 [Go.Value.bool (Decidable.decide (c < (0 : Int))), Go.Value.int Go.IntKind.u64 (Int.ofNat (0 : Nat)), Go.Value.int Go.IntKind.u64 (Int.ofNat (Int.natAbs c)),
 Go.Value.int Go.IntKind.i64 (Int.ofNat (0 : Nat))]))]) =
 Go.Value.agg
 (Array.mk
 [Go.Value.iface (130 : Nat)
 (Go.Value.agg
 (Array.mk
 [Go.Value.bool (Decidable.decide (x_2 < (0 : Int))), Go.Value.int Go.IntKind.u64 (Int.ofNat (0 : Nat)), Go.Value.int Go.IntKind.u64 (Int.ofNat (Int.natAbs x_2)),
 Go.Value.int Go.IntKind.i64 (Int.ofNat (0 : Nat))]))]) ∧
 Go.Proofs.YteaebpmgbpnbeaaGreatDoor.rng x_2 ∧
 (Go.Proofs.YteaebpmgbpnbeaaGreatDoor.dateOk x x_1 x_2 →
 K
 (Go.Value.agg
 (Array.mk [Go.Value.iface (143 : Nat) (Go.Value.agg (Array.mk [Go.Value.int Go.IntKind.i64 x, Go.Value.int Go.IntKind.i64 x_1, Go.Value.int Go.IntKind.i64 x_2]))]))
 (13 : Nat)) ∧
 (¬Go.Proofs.YteaebpmgbpnbeaaGreatDoor.dateOk x x_1 x_2 → K (Go.Value.agg (Array.mk [Go.Value.nilIface])) (13 : Nat))) := by kernel_rfl
theorem tDateOfT_hk (a b c : Int) (ha : rng a) (hb : rng b) (hc : rng c) (hd : dateOk a b c) : ReckE (env (rulesAI)) 30 64 [intV a, intV b, intV c] ((· = dateV a b c)) := by
  constructor
  rw [tDateOfT_tree fun u mw => u = dateV a b c ∧ Tryz.prog.globals.size ≤ mw]
  repeat' (first
    | exact ⟨rfl, Nat.le_of_ble_eq_true (by kernel_rfl)⟩
    | exact rfl
    | assumption
    | refine ⟨a, rfl, ha, ?_⟩
    | refine ⟨b, rfl, hb, ?_⟩
    | refine ⟨c, rfl, hc, ?_⟩
    | refine And.intro ?_ ?_
    | refine bsel_of (fun _ => ?_) (fun _ => ?_)
    | intro _)
  all_goals (exfalso; first | contradiction | (simp_all; done) | (simp_all; omega))
theorem tDateOfT {base : World} (a b c : Int) (ha : rng a) (hb : rng b) (hc : rng c) (hd : dateOk a b c) : Tot base 64 [intV a, intV b, intV c] (dateV a b c) := tot_lit (rulesAI_ok base) (tDateOfT_hk a b c ha hb hc hd) (by kernel_rfl) (by repeat' (first | refine List.forall_mem_cons.2 ⟨?_, ?_⟩ | exact (fun _ h => nomatch h) | assumption | kernel_rfl))
theorem tDateOfF_tree (K : Value → Nat → Prop) (a b c : Int) :
    funcK (env (rulesAI)) 30 64 [intV a, intV b, intV c] tabs Tryz.prog.globals.size (fun u _ _ mw => K u mw) =
  (∃ (x : Int),
 Go.Value.agg
 (Array.mk
 [Go.Value.iface (130 : Nat)
 (Go.Value.agg
 (Array.mk
 [Go.Value.bool (Decidable.decide (a < (0 : Int))), Go.Value.int Go.IntKind.u64 (Int.ofNat (0 : Nat)), Go.Value.int Go.IntKind.u64 (Int.ofNat (Int.natAbs a)),
 Go.Value.int Go.IntKind.i64 (Int.ofNat (0 : Nat))]))]) =
 Go.Value.agg
 (Array.mk
 [Go.Value.iface (130 : Nat)
 (Go.Value.agg
 (Array.mk
 [Go.Value.bool (Decidable.decide (x < (0 : Int))), Go.Value.int Go.IntKind.u64 (Int.ofNat (0 : Nat)), Go.Value.int Go.IntKind.u64 (Int.ofNat (Int.natAbs x)),
 Go.Value.int Go.IntKind.i64 (Int.ofNat (0 : Nat))]))]) ∧
 Go.Proofs.YteaebpmgbpnbeaaGreatDoor.rng x ∧
 ∃ (x_1 : Int),
 Go.Value.agg
 (Array.mk
 [Go.Value.iface (130 : Nat)
 (Go.Value.agg
 (Array.mk
 [Go.Value.bool (Decidable.decide (b < (0 : Int))), Go.Value.int Go.IntKind.u64 (Int.ofNat (0 : Nat)), Go.Value.int Go.IntKind.u64 (Int.ofNat (Int.natAbs b)),
 Go.Value.int Go.IntKind.i64 (Int.ofNat (0 : Nat))]))]) =
 Go.Value.agg
 (Array.mk
 [Go.Value.iface (130 : Nat)
 (Go.Value.agg
 (Array.mk
 [Go.Value.bool (Decidable.decide (x_1 < (0 : Int))), Go.Value.int Go.IntKind.u64 (Int.ofNat (0 : Nat)), Go.Value.int Go.IntKind.u64 (Int.ofNat (Int.natAbs x_1)),
 Go.Value.int Go.IntKind.i64 (Int.ofNat (0 : Nat))]))]) ∧
 Go.Proofs.YteaebpmgbpnbeaaGreatDoor.rng x_1 ∧
 ∃ (x_2 : Int),
 Go.Value.agg
 (Array.mk
 [Go.Value.iface (130 : Nat)
 (Go.Value.agg
 (Array.mk
 [Go.Value.bool (Decidable.decide (c < (0 : Int))), Go.Value.int Go.IntKind.u64 (Int.ofNat (0 : Nat)), Go.Value.int Go.IntKind.u64 (Int.ofNat (Int.natAbs c)),
 Go.Value.int Go.IntKind.i64 (Int.ofNat (0 : Nat))]))]) =
 Go.Value.agg
 (Array.mk
 [Go.Value.iface (130 : Nat)
 (Go.Value.agg
 (Array.mk
 [Go.Value.bool (Decidable.decide (x_2 < (0 : Int))), Go.Value.int Go.IntKind.u64 (Int.ofNat (0 : Nat)), Go.Value.int Go.IntKind.u64 (Int.ofNat (Int.natAbs x_2)),
 Go.Value.int Go.IntKind.i64 (Int.ofNat (0 : Nat))]))]) ∧
 Go.Proofs.YteaebpmgbpnbeaaGreatDoor.rng x_2 ∧
 (Go.Proofs.YteaebpmgbpnbeaaGreatDoor.dateOk x x_1 x_2 →
 K
 (Go.Value.agg
 (Array.mk [Go.Value.iface (143 : Nat) (Go.Value.agg (Array.mk [Go.Value.int Go.IntKind.i64 x, Go.Value.int Go.IntKind.i64 x_1, Go.Value.int Go.IntKind.i64 x_2]))]))
 (13 : Nat)) ∧
 (¬Go.Proofs.YteaebpmgbpnbeaaGreatDoor.dateOk x x_1 x_2 → K (Go.Value.agg (Array.mk [Go.Value.nilIface])) (13 : Nat))) := by kernel_rfl
theorem tDateOfF_hk (a b c : Int) (ha : rng a) (hb : rng b) (hc : rng c) (hd : ¬ dateOk a b c) : ReckE (env (rulesAI)) 30 64 [intV a, intV b, intV c] ((· = nullV)) := by
  constructor
  rw [tDateOfF_tree fun u mw => u = nullV ∧ Tryz.prog.globals.size ≤ mw]
  repeat' (first
    | exact ⟨rfl, Nat.le_of_ble_eq_true (by kernel_rfl)⟩
    | exact rfl
    | assumption
    | refine ⟨a, rfl, ha, ?_⟩
    | refine ⟨b, rfl, hb, ?_⟩
    | refine ⟨c, rfl, hc, ?_⟩
    | refine And.intro ?_ ?_
    | refine bsel_of (fun _ => ?_) (fun _ => ?_)
    | intro _)
  all_goals (exfalso; first | contradiction | (simp_all; done) | (simp_all; omega))
theorem tDateOfF {base : World} (a b c : Int) (ha : rng a) (hb : rng b) (hc : rng c) (hd : ¬ dateOk a b c) : Tot base 64 [intV a, intV b, intV c] (nullV) := tot_lit (rulesAI_ok base) (tDateOfF_hk a b c ha hb hc hd) (by kernel_rfl) (by repeat' (first | refine List.forall_mem_cons.2 ⟨?_, ?_⟩ | exact (fun _ h => nomatch h) | assumption | kernel_rfl))
theorem tTimeOfT_tree (K : Value → Nat → Prop) (base : World) (a b c f s o s2 o2 : Int) (z z2 q : Bool) :
    funcK (env (rulesOf a b c (.tuple #[timeC s z o, .bool true]) [timeC s z o, .int .i64 f] (.tuple #[timeC s2 z2 o2, .bool q]))) 30 66 [intV a, intV b, intV c, nullV] tabs Tryz.prog.globals.size (fun u _ _ mw => K u mw) =
  (∃ (x : Int),
 Go.Value.agg
 (Array.mk
 [Go.Value.iface (130 : Nat)
 (Go.Value.agg
 (Array.mk
 [Go.Value.bool (Decidable.decide (a < (0 : Int))), Go.Value.int Go.IntKind.u64 (Int.ofNat (0 : Nat)), Go.Value.int Go.IntKind.u64 (Int.ofNat (Int.natAbs a)),
 Go.Value.int Go.IntKind.i64 (Int.ofNat (0 : Nat))]))]) =
 Go.Value.agg
 (Array.mk
 [Go.Value.iface (130 : Nat)
 (Go.Value.agg
 (Array.mk
 [Go.Value.bool (Decidable.decide (x < (0 : Int))), Go.Value.int Go.IntKind.u64 (Int.ofNat (0 : Nat)), Go.Value.int Go.IntKind.u64 (Int.ofNat (Int.natAbs x)),
 Go.Value.int Go.IntKind.i64 (Int.ofNat (0 : Nat))]))]) ∧
 Go.Proofs.YteaebpmgbpnbeaaGreatDoor.rng x ∧
 ∃ (x_1 : Int),
 Go.Value.agg
 (Array.mk
 [Go.Value.iface (130 : Nat)
 (Go.Value.agg
 (Array.mk
 [Go.Value.bool (Decidable.decide (b < (0 : Int))), Go.Value.int Go.IntKind.u64 (Int.ofNat (0 : Nat)), Go.Value.int Go.IntKind.u64 (Int.ofNat (Int.natAbs b)),
 Go.Value.int Go.IntKind.i64 (Int.ofNat (0 : Nat))]))]) =
 Go.Value.agg
 (Array.mk
 [Go.Value.iface (130 : Nat)
 (Go.Value.agg
 (Array.mk
 [Go.Value.bool (Decidable.decide (x_1 < (0 : Int))), Go.Value.int Go.IntKind.u64 (Int.ofNat (0 : Nat)), Go.Value.int Go.IntKind.u64 (Int.ofNat (Int.natAbs x_1)),
 Go.Value.int Go.IntKind.i64 (Int.ofNat (0 : Nat))]))]) ∧
 Go.Proofs.YteaebpmgbpnbeaaGreatDoor.rng x_1 ∧
 ∃ (x_2 : Int),
 Go.Value.agg
 (Array.mk
 [Go.Value.iface (130 : Nat)
 (Go.Value.agg
 (Array.mk
 [Go.Value.bool (Decidable.decide (c < (0 : Int))), Go.Value.int Go.IntKind.u64 (Int.ofNat (0 : Nat)), Go.Value.int Go.IntKind.u64 (Int.ofNat (Int.natAbs c)),
 Go.Value.int Go.IntKind.i64 (Int.ofNat (0 : Nat))]))]) =
 Go.Value.agg
 (Array.mk
 [Go.Value.iface (130 : Nat)
 (Go.Value.agg
 (Array.mk
 [Go.Value.bool (Decidable.decide (x_2 < (0 : Int))), Go.Value.int Go.IntKind.u64 (Int.ofNat (0 : Nat)), Go.Value.int Go.IntKind.u64 (Int.ofNat (Int.natAbs x_2)),
 Go.Value.int Go.IntKind.i64 (Int.ofNat (0 : Nat))]))]) ∧
 Go.Proofs.YteaebpmgbpnbeaaGreatDoor.rng x_2 ∧
 Go.Proofs.YteaebpmgbpnbeaaGreatDoor.Same [Go.Value.int Go.IntKind.i64 x, Go.Value.int Go.IntKind.i64 x_1, Go.Value.int Go.IntKind.i64 x_2]
 [Go.Value.int Go.IntKind.i64 a, Go.Value.int Go.IntKind.i64 b, Go.Value.int Go.IntKind.i64 c] ∧
 (Go.Proofs.YteaebpmgbpnbeaaGreatDoor.timeOk s z o →
 K (Go.Value.agg (Array.mk [Go.Value.iface (144 : Nat) (Go.Value.agg (Array.mk [Go.Value.int Go.IntKind.i64 s, Go.Value.bool z, Go.Value.int Go.IntKind.i64 o]))])) (14 : Nat)) ∧
 (¬Go.Proofs.YteaebpmgbpnbeaaGreatDoor.timeOk s z o → K (Go.Value.agg (Array.mk [Go.Value.nilIface])) (14 : Nat))) := by kernel_rfl
theorem tTimeOfT_hk (base : World) (a b c f s o s2 o2 : Int) (z z2 q : Bool) (ha : rng a) (hb : rng b) (hc : rng c) (h : Tot base 67 [.int .i64 a, .int .i64 b, .int .i64 c] (.tuple #[timeC s z o, .bool true])) (h2 : Tot base 68 [timeC s z o, .int .i64 f] (.tuple #[timeC s2 z2 o2, .bool q])) (ht : timeOk s z o) : ReckE (env (rulesOf a b c (.tuple #[timeC s z o, .bool true]) [timeC s z o, .int .i64 f] (.tuple #[timeC s2 z2 o2, .bool q]))) 30 66 [intV a, intV b, intV c, nullV] ((· = timeV s z o)) := by
  constructor
  rw [tTimeOfT_tree fun u mw => u = timeV s z o ∧ Tryz.prog.globals.size ≤ mw]
  repeat' (first
    | exact ⟨rfl, Nat.le_of_ble_eq_true (by kernel_rfl)⟩
    | exact rfl
    | assumption
    | refine ⟨a, rfl, ha, ?_⟩
    | refine ⟨b, rfl, hb, ?_⟩
    | refine ⟨c, rfl, hc, ?_⟩
    | refine And.intro ?_ ?_
    | refine bsel_of (fun _ => ?_) (fun _ => ?_)
    | intro _)
  all_goals (exfalso; first | contradiction | (simp_all; done) | (simp_all; omega))
theorem tTimeOfT  (base : World) (a b c f s o s2 o2 : Int) (z z2 q : Bool) (ha : rng a) (hb : rng b) (hc : rng c) (h : Tot base 67 [.int .i64 a, .int .i64 b, .int .i64 c] (.tuple #[timeC s z o, .bool true])) (h2 : Tot base 68 [timeC s z o, .int .i64 f] (.tuple #[timeC s2 z2 o2, .bool q])) (ht : timeOk s z o) : Tot base 66 [intV a, intV b, intV c, nullV] (timeV s z o) := tot_lit (rulesOf_ok h h2) (tTimeOfT_hk base a b c f s o s2 o2 z z2 q ha hb hc h h2 ht) (by kernel_rfl) (by repeat' (first | refine List.forall_mem_cons.2 ⟨?_, ?_⟩ | exact (fun _ h => nomatch h) | assumption | kernel_rfl))
theorem tTimeOfF_tree (K : Value → Nat → Prop) (base : World) (a b c f s o s2 o2 : Int) (z z2 q : Bool) :
    funcK (env (rulesOf a b c (.tuple #[timeC s z o, .bool false]) [timeC s z o, .int .i64 f] (.tuple #[timeC s2 z2 o2, .bool q]))) 30 66 [intV a, intV b, intV c, nullV] tabs Tryz.prog.globals.size (fun u _ _ mw => K u mw) =
  (∃ (x : Int),
 Go.Value.agg
 (Array.mk
 [Go.Value.iface (130 : Nat)
 (Go.Value.agg
 (Array.mk
 [Go.Value.bool (Decidable.decide (a < (0 : Int))), Go.Value.int Go.IntKind.u64 (Int.ofNat (0 : Nat)), Go.Value.int Go.IntKind.u64 (Int.ofNat (Int.natAbs a)),
 Go.Value.int Go.IntKind.i64 (Int.ofNat (0 : Nat))]))]) =
 Go.Value.agg
 (Array.mk
 [Go.Value.iface (130 : Nat)
 (Go.Value.agg
 (Array.mk
 [Go.Value.bool (Decidable.decide (x < (0 : Int))), Go.Value.int Go.IntKind.u64 (Int.ofNat (0 : Nat)), Go.Value.int Go.IntKind.u64 (Int.ofNat (Int.natAbs x)),
 Go.Value.int Go.IntKind.i64 (Int.ofNat (0 : Nat))]))]) ∧
 Go.Proofs.YteaebpmgbpnbeaaGreatDoor.rng x ∧
 ∃ (x_1 : Int),
 Go.Value.agg
 (Array.mk
 [Go.Value.iface (130 : Nat)
 (Go.Value.agg
 (Array.mk
 [Go.Value.bool (Decidable.decide (b < (0 : Int))), Go.Value.int Go.IntKind.u64 (Int.ofNat (0 : Nat)), Go.Value.int Go.IntKind.u64 (Int.ofNat (Int.natAbs b)),
 Go.Value.int Go.IntKind.i64 (Int.ofNat (0 : Nat))]))]) =
 Go.Value.agg
 (Array.mk
 [Go.Value.iface (130 : Nat)
 (Go.Value.agg
 (Array.mk
 [Go.Value.bool (Decidable.decide (x_1 < (0 : Int))), Go.Value.int Go.IntKind.u64 (Int.ofNat (0 : Nat)), Go.Value.int Go.IntKind.u64 (Int.ofNat (Int.natAbs x_1)),
 Go.Value.int Go.IntKind.i64 (Int.ofNat (0 : Nat))]))]) ∧
 Go.Proofs.YteaebpmgbpnbeaaGreatDoor.rng x_1 ∧
 ∃ (x_2 : Int),
 Go.Value.agg
 (Array.mk
 [Go.Value.iface (130 : Nat)
 (Go.Value.agg
 (Array.mk
 [Go.Value.bool (Decidable.decide (c < (0 : Int))), Go.Value.int Go.IntKind.u64 (Int.ofNat (0 : Nat)), Go.Value.int Go.IntKind.u64 (Int.ofNat (Int.natAbs c)),
 Go.Value.int Go.IntKind.i64 (Int.ofNat (0 : Nat))]))]) =
 Go.Value.agg
 (Array.mk
 [Go.Value.iface (130 : Nat)
 (Go.Value.agg
 (Array.mk
 [Go.Value.bool (Decidable.decide (x_2 < (0 : Int))), Go.Value.int Go.IntKind.u64 (Int.ofNat (0 : Nat)), Go.Value.int Go.IntKind.u64 (Int.ofNat (Int.natAbs x_2)),
 Go.Value.int Go.IntKind.i64 (Int.ofNat (0 : Nat))]))]) ∧
 Go.Proofs.YteaebpmgbpnbeaaGreatDoor.rng x_2 ∧
 Go.Proofs.YteaebpmgbpnbeaaGreatDoor.Same [Go.Value.int Go.IntKind.i64 x, Go.Value.int Go.IntKind.i64 x_1, Go.Value.int Go.IntKind.i64 x_2]
 [Go.Value.int Go.IntKind.i64 a, Go.Value.int Go.IntKind.i64 b, Go.Value.int Go.IntKind.i64 c] ∧
 K (Go.Value.agg (Array.mk [Go.Value.nilIface])) (14 : Nat)) := by kernel_rfl
theorem tTimeOfF_hk (base : World) (a b c f s o s2 o2 : Int) (z z2 q : Bool) (ha : rng a) (hb : rng b) (hc : rng c) (h : Tot base 67 [.int .i64 a, .int .i64 b, .int .i64 c] (.tuple #[timeC s z o, .bool false])) (h2 : Tot base 68 [timeC s z o, .int .i64 f] (.tuple #[timeC s2 z2 o2, .bool q])) : ReckE (env (rulesOf a b c (.tuple #[timeC s z o, .bool false]) [timeC s z o, .int .i64 f] (.tuple #[timeC s2 z2 o2, .bool q]))) 30 66 [intV a, intV b, intV c, nullV] ((· = nullV)) := by
  constructor
  rw [tTimeOfF_tree fun u mw => u = nullV ∧ Tryz.prog.globals.size ≤ mw]
  repeat' (first
    | exact ⟨rfl, Nat.le_of_ble_eq_true (by kernel_rfl)⟩
    | exact rfl
    | assumption
    | refine ⟨a, rfl, ha, ?_⟩
    | refine ⟨b, rfl, hb, ?_⟩
    | refine ⟨c, rfl, hc, ?_⟩
    | refine And.intro ?_ ?_
    | refine bsel_of (fun _ => ?_) (fun _ => ?_)
    | intro _)
  all_goals (exfalso; first | contradiction | (simp_all; done) | (simp_all; omega))
theorem tTimeOfF  (base : World) (a b c f s o s2 o2 : Int) (z z2 q : Bool) (ha : rng a) (hb : rng b) (hc : rng c) (h : Tot base 67 [.int .i64 a, .int .i64 b, .int .i64 c] (.tuple #[timeC s z o, .bool false])) (h2 : Tot base 68 [timeC s z o, .int .i64 f] (.tuple #[timeC s2 z2 o2, .bool q])) : Tot base 66 [intV a, intV b, intV c, nullV] (nullV) := tot_lit (rulesOf_ok h h2) (tTimeOfF_hk base a b c f s o s2 o2 z z2 q ha hb hc h h2) (by kernel_rfl) (by repeat' (first | refine List.forall_mem_cons.2 ⟨?_, ?_⟩ | exact (fun _ h => nomatch h) | assumption | kernel_rfl))
theorem tTimeAtF_tree (K : Value → Nat → Prop) (base : World) (a b c f s o s2 o2 : Int) (z z2 q : Bool) :
    funcK (env (rulesOf a b c (.tuple #[timeC s z o, .bool false]) [timeC s z o, .int .i64 f] (.tuple #[timeC s2 z2 o2, .bool q]))) 30 66 [intV a, intV b, intV c, daysV f] tabs Tryz.prog.globals.size (fun u _ _ mw => K u mw) =
  (∃ (x : Int),
 Go.Value.agg
 (Array.mk
 [Go.Value.iface (130 : Nat)
 (Go.Value.agg
 (Array.mk
 [Go.Value.bool (Decidable.decide (a < (0 : Int))), Go.Value.int Go.IntKind.u64 (Int.ofNat (0 : Nat)), Go.Value.int Go.IntKind.u64 (Int.ofNat (Int.natAbs a)),
 Go.Value.int Go.IntKind.i64 (Int.ofNat (0 : Nat))]))]) =
 Go.Value.agg
 (Array.mk
 [Go.Value.iface (130 : Nat)
 (Go.Value.agg
 (Array.mk
 [Go.Value.bool (Decidable.decide (x < (0 : Int))), Go.Value.int Go.IntKind.u64 (Int.ofNat (0 : Nat)), Go.Value.int Go.IntKind.u64 (Int.ofNat (Int.natAbs x)),
 Go.Value.int Go.IntKind.i64 (Int.ofNat (0 : Nat))]))]) ∧
 Go.Proofs.YteaebpmgbpnbeaaGreatDoor.rng x ∧
 ∃ (x_1 : Int),
 Go.Value.agg
 (Array.mk
 [Go.Value.iface (130 : Nat)
 (Go.Value.agg
 (Array.mk
 [Go.Value.bool (Decidable.decide (b < (0 : Int))), Go.Value.int Go.IntKind.u64 (Int.ofNat (0 : Nat)), Go.Value.int Go.IntKind.u64 (Int.ofNat (Int.natAbs b)),
 Go.Value.int Go.IntKind.i64 (Int.ofNat (0 : Nat))]))]) =
 Go.Value.agg
 (Array.mk
 [Go.Value.iface (130 : Nat)
 (Go.Value.agg
 (Array.mk
 [Go.Value.bool (Decidable.decide (x_1 < (0 : Int))), Go.Value.int Go.IntKind.u64 (Int.ofNat (0 : Nat)), Go.Value.int Go.IntKind.u64 (Int.ofNat (Int.natAbs x_1)),
 Go.Value.int Go.IntKind.i64 (Int.ofNat (0 : Nat))]))]) ∧
 Go.Proofs.YteaebpmgbpnbeaaGreatDoor.rng x_1 ∧
 ∃ (x_2 : Int),
 Go.Value.agg
 (Array.mk
 [Go.Value.iface (130 : Nat)
 (Go.Value.agg
 (Array.mk
 [Go.Value.bool (Decidable.decide (c < (0 : Int))), Go.Value.int Go.IntKind.u64 (Int.ofNat (0 : Nat)), Go.Value.int Go.IntKind.u64 (Int.ofNat (Int.natAbs c)),
 Go.Value.int Go.IntKind.i64 (Int.ofNat (0 : Nat))]))]) =
 Go.Value.agg
 (Array.mk
 [Go.Value.iface (130 : Nat)
 (Go.Value.agg
 (Array.mk
 [Go.Value.bool (Decidable.decide (x_2 < (0 : Int))), Go.Value.int Go.IntKind.u64 (Int.ofNat (0 : Nat)), Go.Value.int Go.IntKind.u64 (Int.ofNat (Int.natAbs x_2)),
 Go.Value.int Go.IntKind.i64 (Int.ofNat (0 : Nat))]))]) ∧
 Go.Proofs.YteaebpmgbpnbeaaGreatDoor.rng x_2 ∧
 Go.Proofs.YteaebpmgbpnbeaaGreatDoor.Same [Go.Value.int Go.IntKind.i64 x, Go.Value.int Go.IntKind.i64 x_1, Go.Value.int Go.IntKind.i64 x_2]
 [Go.Value.int Go.IntKind.i64 a, Go.Value.int Go.IntKind.i64 b, Go.Value.int Go.IntKind.i64 c] ∧
 K (Go.Value.agg (Array.mk [Go.Value.nilIface])) (14 : Nat)) := by kernel_rfl
theorem tTimeAtF_hk (base : World) (a b c f s o s2 o2 : Int) (z z2 q : Bool) (ha : rng a) (hb : rng b) (hc : rng c) (h : Tot base 67 [.int .i64 a, .int .i64 b, .int .i64 c] (.tuple #[timeC s z o, .bool false])) (h2 : Tot base 68 [timeC s z o, .int .i64 f] (.tuple #[timeC s2 z2 o2, .bool q])) : ReckE (env (rulesOf a b c (.tuple #[timeC s z o, .bool false]) [timeC s z o, .int .i64 f] (.tuple #[timeC s2 z2 o2, .bool q]))) 30 66 [intV a, intV b, intV c, daysV f] ((· = nullV)) := by
  constructor
  rw [tTimeAtF_tree fun u mw => u = nullV ∧ Tryz.prog.globals.size ≤ mw]
  repeat' (first
    | exact ⟨rfl, Nat.le_of_ble_eq_true (by kernel_rfl)⟩
    | exact rfl
    | assumption
    | refine ⟨a, rfl, ha, ?_⟩
    | refine ⟨b, rfl, hb, ?_⟩
    | refine ⟨c, rfl, hc, ?_⟩
    | refine And.intro ?_ ?_
    | refine bsel_of (fun _ => ?_) (fun _ => ?_)
    | intro _)
  all_goals (exfalso; first | contradiction | (simp_all; done) | (simp_all; omega))
theorem tTimeAtF  (base : World) (a b c f s o s2 o2 : Int) (z z2 q : Bool) (ha : rng a) (hb : rng b) (hc : rng c) (h : Tot base 67 [.int .i64 a, .int .i64 b, .int .i64 c] (.tuple #[timeC s z o, .bool false])) (h2 : Tot base 68 [timeC s z o, .int .i64 f] (.tuple #[timeC s2 z2 o2, .bool q])) : Tot base 66 [intV a, intV b, intV c, daysV f] (nullV) := tot_lit (rulesOf_ok h h2) (tTimeAtF_hk base a b c f s o s2 o2 z z2 q ha hb hc h h2) (by kernel_rfl) (by repeat' (first | refine List.forall_mem_cons.2 ⟨?_, ?_⟩ | exact (fun _ h => nomatch h) | assumption | kernel_rfl))
theorem tTimeAtTT_tree (K : Value → Nat → Prop) (base : World) (a b c f s o s2 o2 : Int) (z z2 : Bool) :
    funcK (env (rulesOf a b c (.tuple #[timeC s z o, .bool true]) [timeC s z o, .int .i64 f] (.tuple #[timeC s2 z2 o2, .bool true]))) 30 66 [intV a, intV b, intV c, daysV f] tabs Tryz.prog.globals.size (fun u _ _ mw => K u mw) =
  (∃ (x : Int),
 Go.Value.agg
 (Array.mk
 [Go.Value.iface (130 : Nat)
 (Go.Value.agg
 (Array.mk
 [Go.Value.bool (Decidable.decide (a < (0 : Int))), Go.Value.int Go.IntKind.u64 (Int.ofNat (0 : Nat)), Go.Value.int Go.IntKind.u64 (Int.ofNat (Int.natAbs a)),
 Go.Value.int Go.IntKind.i64 (Int.ofNat (0 : Nat))]))]) =
 Go.Value.agg
 (Array.mk
 [Go.Value.iface (130 : Nat)
 (Go.Value.agg
 (Array.mk
 [Go.Value.bool (Decidable.decide (x < (0 : Int))), Go.Value.int Go.IntKind.u64 (Int.ofNat (0 : Nat)), Go.Value.int Go.IntKind.u64 (Int.ofNat (Int.natAbs x)),
 Go.Value.int Go.IntKind.i64 (Int.ofNat (0 : Nat))]))]) ∧
 Go.Proofs.YteaebpmgbpnbeaaGreatDoor.rng x ∧
 ∃ (x_1 : Int),
 Go.Value.agg
 (Array.mk
 [Go.Value.iface (130 : Nat)
 (Go.Value.agg
 (Array.mk
 [Go.Value.bool (Decidable.decide (b < (0 : Int))), Go.Value.int Go.IntKind.u64 (Int.ofNat (0 : Nat)), Go.Value.int Go.IntKind.u64 (Int.ofNat (Int.natAbs b)),
 Go.Value.int Go.IntKind.i64 (Int.ofNat (0 : Nat))]))]) =
 Go.Value.agg
 (Array.mk
 [Go.Value.iface (130 : Nat)
 (Go.Value.agg
 (Array.mk
 [Go.Value.bool (Decidable.decide (x_1 < (0 : Int))), Go.Value.int Go.IntKind.u64 (Int.ofNat (0 : Nat)), Go.Value.int Go.IntKind.u64 (Int.ofNat (Int.natAbs x_1)),
 Go.Value.int Go.IntKind.i64 (Int.ofNat (0 : Nat))]))]) ∧
 Go.Proofs.YteaebpmgbpnbeaaGreatDoor.rng x_1 ∧
 ∃ (x_2 : Int),
 Go.Value.agg
 (Array.mk
 [Go.Value.iface (130 : Nat)
 (Go.Value.agg
 (Array.mk
 [Go.Value.bool (Decidable.decide (c < (0 : Int))), Go.Value.int Go.IntKind.u64 (Int.ofNat (0 : Nat)), Go.Value.int Go.IntKind.u64 (Int.ofNat (Int.natAbs c)),
 Go.Value.int Go.IntKind.i64 (Int.ofNat (0 : Nat))]))]) =
 Go.Value.agg
 (Array.mk
 [Go.Value.iface (130 : Nat)
 (Go.Value.agg
 (Array.mk
 [Go.Value.bool (Decidable.decide (x_2 < (0 : Int))), Go.Value.int Go.IntKind.u64 (Int.ofNat (0 : Nat)), Go.Value.int Go.IntKind.u64 (Int.ofNat (Int.natAbs x_2)),
 Go.Value.int Go.IntKind.i64 (Int.ofNat (0 : Nat))]))]) ∧
 Go.Proofs.YteaebpmgbpnbeaaGreatDoor.rng x_2 ∧
 Go.Proofs.YteaebpmgbpnbeaaGreatDoor.Same [Go.Value.int Go.IntKind.i64 x, Go.Value.int Go.IntKind.i64 x_1, Go.Value.int Go.IntKind.i64 x_2]
 [Go.Value.int Go.IntKind.i64 a, Go.Value.int Go.IntKind.i64 b, Go.Value.int Go.IntKind.i64 c] ∧
 Go.Proofs.YteaebpmgbpnbeaaGreatDoor.Same [Go.Value.agg (Array.mk [Go.Value.int Go.IntKind.i64 s, Go.Value.bool z, Go.Value.int Go.IntKind.i64 o]), Go.Value.int Go.IntKind.i64 f]
 [Go.Value.agg (Array.mk [Go.Value.int Go.IntKind.i64 s, Go.Value.bool z, Go.Value.int Go.IntKind.i64 o]), Go.Value.int Go.IntKind.i64 f] ∧
 (Go.Proofs.YteaebpmgbpnbeaaGreatDoor.timeOk s2 z2 o2 →
 K (Go.Value.agg (Array.mk [Go.Value.iface (144 : Nat) (Go.Value.agg (Array.mk [Go.Value.int Go.IntKind.i64 s2, Go.Value.bool z2, Go.Value.int Go.IntKind.i64 o2]))]))
 (14 : Nat)) ∧
 (¬Go.Proofs.YteaebpmgbpnbeaaGreatDoor.timeOk s2 z2 o2 → K (Go.Value.agg (Array.mk [Go.Value.nilIface])) (14 : Nat))) := by kernel_rfl
theorem tTimeAtTT_hk (base : World) (a b c f s o s2 o2 : Int) (z z2 : Bool) (ha : rng a) (hb : rng b) (hc : rng c) (h : Tot base 67 [.int .i64 a, .int .i64 b, .int .i64 c] (.tuple #[timeC s z o, .bool true])) (h2 : Tot base 68 [timeC s z o, .int .i64 f] (.tuple #[timeC s2 z2 o2, .bool true])) (ht : timeOk s2 z2 o2) : ReckE (env (rulesOf a b c (.tuple #[timeC s z o, .bool true]) [timeC s z o, .int .i64 f] (.tuple #[timeC s2 z2 o2, .bool true]))) 30 66 [intV a, intV b, intV c, daysV f] ((· = timeV s2 z2 o2)) := by
  constructor
  rw [tTimeAtTT_tree fun u mw => u = timeV s2 z2 o2 ∧ Tryz.prog.globals.size ≤ mw]
  repeat' (first
    | exact ⟨rfl, Nat.le_of_ble_eq_true (by kernel_rfl)⟩
    | exact rfl
    | assumption
    | refine ⟨a, rfl, ha, ?_⟩
    | refine ⟨b, rfl, hb, ?_⟩
    | refine ⟨c, rfl, hc, ?_⟩
    | refine And.intro ?_ ?_
    | refine bsel_of (fun _ => ?_) (fun _ => ?_)
    | intro _)
  all_goals (exfalso; first | contradiction | (simp_all; done) | (simp_all; omega))
theorem tTimeAtTT  (base : World) (a b c f s o s2 o2 : Int) (z z2 : Bool) (ha : rng a) (hb : rng b) (hc : rng c) (h : Tot base 67 [.int .i64 a, .int .i64 b, .int .i64 c] (.tuple #[timeC s z o, .bool true])) (h2 : Tot base 68 [timeC s z o, .int .i64 f] (.tuple #[timeC s2 z2 o2, .bool true])) (ht : timeOk s2 z2 o2) : Tot base 66 [intV a, intV b, intV c, daysV f] (timeV s2 z2 o2) := tot_lit (rulesOf_ok h h2) (tTimeAtTT_hk base a b c f s o s2 o2 z z2 ha hb hc h h2 ht) (by kernel_rfl) (by repeat' (first | refine List.forall_mem_cons.2 ⟨?_, ?_⟩ | exact (fun _ h => nomatch h) | assumption | kernel_rfl))
theorem tTimeAtTF_tree (K : Value → Nat → Prop) (base : World) (a b c f s o s2 o2 : Int) (z z2 : Bool) :
    funcK (env (rulesOf a b c (.tuple #[timeC s z o, .bool true]) [timeC s z o, .int .i64 f] (.tuple #[timeC s2 z2 o2, .bool false]))) 30 66 [intV a, intV b, intV c, daysV f] tabs Tryz.prog.globals.size (fun u _ _ mw => K u mw) =
  (∃ (x : Int),
 Go.Value.agg
 (Array.mk
 [Go.Value.iface (130 : Nat)
 (Go.Value.agg
 (Array.mk
 [Go.Value.bool (Decidable.decide (a < (0 : Int))), Go.Value.int Go.IntKind.u64 (Int.ofNat (0 : Nat)), Go.Value.int Go.IntKind.u64 (Int.ofNat (Int.natAbs a)),
 Go.Value.int Go.IntKind.i64 (Int.ofNat (0 : Nat))]))]) =
 Go.Value.agg
 (Array.mk
 [Go.Value.iface (130 : Nat)
 (Go.Value.agg
 (Array.mk
 [Go.Value.bool (Decidable.decide (x < (0 : Int))), Go.Value.int Go.IntKind.u64 (Int.ofNat (0 : Nat)), Go.Value.int Go.IntKind.u64 (Int.ofNat (Int.natAbs x)),
 Go.Value.int Go.IntKind.i64 (Int.ofNat (0 : Nat))]))]) ∧
 Go.Proofs.YteaebpmgbpnbeaaGreatDoor.rng x ∧
 ∃ (x_1 : Int),
 Go.Value.agg
 (Array.mk
 [Go.Value.iface (130 : Nat)
 (Go.Value.agg
 (Array.mk
 [Go.Value.bool (Decidable.decide (b < (0 : Int))), Go.Value.int Go.IntKind.u64 (Int.ofNat (0 : Nat)), Go.Value.int Go.IntKind.u64 (Int.ofNat (Int.natAbs b)),
 Go.Value.int Go.IntKind.i64 (Int.ofNat (0 : Nat))]))]) =
 Go.Value.agg
 (Array.mk
 [Go.Value.iface (130 : Nat)
 (Go.Value.agg
 (Array.mk
 [Go.Value.bool (Decidable.decide (x_1 < (0 : Int))), Go.Value.int Go.IntKind.u64 (Int.ofNat (0 : Nat)), Go.Value.int Go.IntKind.u64 (Int.ofNat (Int.natAbs x_1)),
 Go.Value.int Go.IntKind.i64 (Int.ofNat (0 : Nat))]))]) ∧
 Go.Proofs.YteaebpmgbpnbeaaGreatDoor.rng x_1 ∧
 ∃ (x_2 : Int),
 Go.Value.agg
 (Array.mk
 [Go.Value.iface (130 : Nat)
 (Go.Value.agg
 (Array.mk
 [Go.Value.bool (Decidable.decide (c < (0 : Int))), Go.Value.int Go.IntKind.u64 (Int.ofNat (0 : Nat)), Go.Value.int Go.IntKind.u64 (Int.ofNat (Int.natAbs c)),
 Go.Value.int Go.IntKind.i64 (Int.ofNat (0 : Nat))]))]) =
 Go.Value.agg
 (Array.mk
 [Go.Value.iface (130 : Nat)
 (Go.Value.agg
 (Array.mk
 [Go.Value.bool (Decidable.decide (x_2 < (0 : Int))), Go.Value.int Go.IntKind.u64 (Int.ofNat (0 : Nat)), Go.Value.int Go.IntKind.u64 (Int.ofNat (Int.natAbs x_2)),
 Go.Value.int Go.IntKind.i64 (Int.ofNat (0 : Nat))]))]) ∧
 Go.Proofs.YteaebpmgbpnbeaaGreatDoor.rng x_2 ∧
 Go.Proofs.YteaebpmgbpnbeaaGreatDoor.Same [Go.Value.int Go.IntKind.i64 x, Go.Value.int Go.IntKind.i64 x_1, Go.Value.int Go.IntKind.i64 x_2]
 [Go.Value.int Go.IntKind.i64 a, Go.Value.int Go.IntKind.i64 b, Go.Value.int Go.IntKind.i64 c] ∧
 Go.Proofs.YteaebpmgbpnbeaaGreatDoor.Same [Go.Value.agg (Array.mk [Go.Value.int Go.IntKind.i64 s, Go.Value.bool z, Go.Value.int Go.IntKind.i64 o]), Go.Value.int Go.IntKind.i64 f]
 [Go.Value.agg (Array.mk [Go.Value.int Go.IntKind.i64 s, Go.Value.bool z, Go.Value.int Go.IntKind.i64 o]), Go.Value.int Go.IntKind.i64 f] ∧
 K (Go.Value.agg (Array.mk [Go.Value.nilIface])) (14 : Nat)) := by kernel_rfl
theorem tTimeAtTF_hk (base : World) (a b c f s o s2 o2 : Int) (z z2 : Bool) (ha : rng a) (hb : rng b) (hc : rng c) (h : Tot base 67 [.int .i64 a, .int .i64 b, .int .i64 c] (.tuple #[timeC s z o, .bool true])) (h2 : Tot base 68 [timeC s z o, .int .i64 f] (.tuple #[timeC s2 z2 o2, .bool false])) : ReckE (env (rulesOf a b c (.tuple #[timeC s z o, .bool true]) [timeC s z o, .int .i64 f] (.tuple #[timeC s2 z2 o2, .bool false]))) 30 66 [intV a, intV b, intV c, daysV f] ((· = nullV)) := by
  constructor
  rw [tTimeAtTF_tree fun u mw => u = nullV ∧ Tryz.prog.globals.size ≤ mw]
  repeat' (first
    | exact ⟨rfl, Nat.le_of_ble_eq_true (by kernel_rfl)⟩
    | exact rfl
    | assumption
    | refine ⟨a, rfl, ha, ?_⟩
    | refine ⟨b, rfl, hb, ?_⟩
    | refine ⟨c, rfl, hc, ?_⟩
    | refine And.intro ?_ ?_
    | refine bsel_of (fun _ => ?_) (fun _ => ?_)
    | intro _)
  all_goals (exfalso; first | contradiction | (simp_all; done) | (simp_all; omega))
theorem tTimeAtTF  (base : World) (a b c f s o s2 o2 : Int) (z z2 : Bool) (ha : rng a) (hb : rng b) (hc : rng c) (h : Tot base 67 [.int .i64 a, .int .i64 b, .int .i64 c] (.tuple #[timeC s z o, .bool true])) (h2 : Tot base 68 [timeC s z o, .int .i64 f] (.tuple #[timeC s2 z2 o2, .bool false])) : Tot base 66 [intV a, intV b, intV c, daysV f] (nullV) := tot_lit (rulesOf_ok h h2) (tTimeAtTF_hk base a b c f s o s2 o2 z z2 ha hb hc h h2) (by kernel_rfl) (by repeat' (first | refine List.forall_mem_cons.2 ⟨?_, ?_⟩ | exact (fun _ h => nomatch h) | assumption | kernel_rfl))

def isTimeB (u : Value) : Prop := ∃ s z o b, u = .tuple #[timeC s z o, .bool b] ∧ (b = true → timeOk s z o)
theorem isTimeB_pure : ∀ v, isTimeB v → pureV 6 v = true := by
  rintro v ⟨_, _, _, _, rfl, _⟩; kernel_rfl
def isMayN (n : Int) (u : Value) : Prop := ∃ b, u = .bool b ∧ (b = true ↔ spanOk n)
theorem isMayN_pure {n : Int} : ∀ v, isMayN n v → pureV 6 v = true := by
  rintro v ⟨_, rfl, _⟩; kernel_rfl

theorem clockOf_hk_tree (K : Value → Nat → Prop) (a b c : Int) :
    funcK (env rules1) 30 67 [.int .i64 a, .int .i64 b, .int .i64 c] tabs Tryz.prog.globals.size (fun u _ _ mw => K u mw) =
  (Go.Pe.bsel (Decidable.decide (a < (0 : Int)))
 (K
 (Go.Value.tuple
 (Array.mk [Go.Value.agg (Array.mk [Go.Value.int Go.IntKind.i64 (Int.ofNat (0 : Nat)), Go.Value.bool Bool.false, Go.Value.int Go.IntKind.i64 (Int.ofNat (0 : Nat))]), Go.Value.bool Bool.false]))
 (10 : Nat))
 (Go.Pe.bsel (Decidable.decide (a > (23 : Int)))
 (K
 (Go.Value.tuple
 (Array.mk [Go.Value.agg (Array.mk [Go.Value.int Go.IntKind.i64 (Int.ofNat (0 : Nat)), Go.Value.bool Bool.false, Go.Value.int Go.IntKind.i64 (Int.ofNat (0 : Nat))]), Go.Value.bool Bool.false]))
 (10 : Nat))
 (Go.Pe.bsel (Decidable.decide (b < (0 : Int)))
 (K
 (Go.Value.tuple
 (Array.mk
 [Go.Value.agg (Array.mk [Go.Value.int Go.IntKind.i64 (Int.ofNat (0 : Nat)), Go.Value.bool Bool.false, Go.Value.int Go.IntKind.i64 (Int.ofNat (0 : Nat))]), Go.Value.bool Bool.false]))
 (10 : Nat))
 (Go.Pe.bsel (Decidable.decide (b > (59 : Int)))
 (K
 (Go.Value.tuple
 (Array.mk
 [Go.Value.agg (Array.mk [Go.Value.int Go.IntKind.i64 (Int.ofNat (0 : Nat)), Go.Value.bool Bool.false, Go.Value.int Go.IntKind.i64 (Int.ofNat (0 : Nat))]), Go.Value.bool Bool.false]))
 (10 : Nat))
 (Go.Pe.bsel (Decidable.decide (c < (0 : Int)))
 (K
 (Go.Value.tuple
 (Array.mk
 [Go.Value.agg (Array.mk [Go.Value.int Go.IntKind.i64 (Int.ofNat (0 : Nat)), Go.Value.bool Bool.false, Go.Value.int Go.IntKind.i64 (Int.ofNat (0 : Nat))]), Go.Value.bool Bool.false]))
 (10 : Nat))
 (Go.Pe.bsel (Decidable.decide (c > (59 : Int)))
 (K
 (Go.Value.tuple
 (Array.mk
 [Go.Value.agg (Array.mk [Go.Value.int Go.IntKind.i64 (Int.ofNat (0 : Nat)), Go.Value.bool Bool.false, Go.Value.int Go.IntKind.i64 (Int.ofNat (0 : Nat))]), Go.Value.bool Bool.false]))
 (10 : Nat))
 (K
 (Go.Value.tuple
 (Array.mk
 [Go.Value.agg
 (Array.mk
 [Go.Value.int Go.IntKind.i64
 (Go.IntKind.wrap Go.IntKind.i64 (Go.IntKind.wrap Go.IntKind.i64 (Go.IntKind.wrap Go.IntKind.i64 ((3600 : Int) * a) + Go.IntKind.wrap Go.IntKind.i64 ((60 : Int) * b)) + c)),
 Go.Value.bool Bool.false, Go.Value.int Go.IntKind.i64 (Int.ofNat (0 : Nat))]),
 Go.Value.bool Bool.true]))
 (10 : Nat)))))))) := by kernel_rfl
theorem clockOf_hk (a b c : Int)  : ReckE (env rules1) 30 67 [.int .i64 a, .int .i64 b, .int .i64 c] (isTimeB) := by
  constructor
  rw [clockOf_hk_tree fun u mw => (isTimeB) u ∧ Tryz.prog.globals.size ≤ mw]
  repeat' (refine bsel_of (fun _ => ?_) (fun _ => ?_))
  all_goals first
    | exact ⟨⟨_, _, _, _, rfl, fun h => Bool.noConfusion h⟩, Nat.le_of_ble_eq_true (by kernel_rfl)⟩
    | (refine ⟨⟨_, _, _, _, rfl, fun _ => ?_⟩, Nat.le_of_ble_eq_true (by kernel_rfl)⟩
       simp only [decide_eq_true_eq, decide_eq_false_iff_not] at *
       simp (disch := (unfold rng; omega)) only [wrap_i64]
       exact ⟨by omega, by omega, by decide, by decide, fun _ => rfl⟩)
theorem clockAt_hk_tree (K : Value → Nat → Prop) (s o f : Int) (z : Bool) :
    funcK (env rulesV1) 30 68 [timeC s z o, .int .i64 f] tabs Tryz.prog.globals.size (fun u _ _ mw => K u mw) =
  ((Go.Proofs.YteaebpmgbpnbeaaGreatDoor.timeOk s Bool.true f →
 K (Go.Value.tuple (Array.mk [Go.Value.agg (Array.mk [Go.Value.int Go.IntKind.i64 s, Go.Value.bool Bool.true, Go.Value.int Go.IntKind.i64 f]), Go.Value.bool Bool.true])) (10 : Nat)) ∧
 (¬Go.Proofs.YteaebpmgbpnbeaaGreatDoor.timeOk s Bool.true f →
 K
 (Go.Value.tuple
 (Array.mk [Go.Value.agg (Array.mk [Go.Value.int Go.IntKind.i64 (Int.ofNat (0 : Nat)), Go.Value.bool Bool.false, Go.Value.int Go.IntKind.i64 (Int.ofNat (0 : Nat))]), Go.Value.bool Bool.false]))
 (10 : Nat))) := by kernel_rfl
theorem clockAt_hk (s o f : Int) (z : Bool)  : ReckE (env rulesV1) 30 68 [timeC s z o, .int .i64 f] (isTimeB) := by
  constructor
  rw [clockAt_hk_tree fun u mw => (isTimeB) u ∧ Tryz.prog.globals.size ≤ mw]
  refine ⟨fun h => ⟨⟨_, _, _, _, rfl, fun _ => h⟩, Nat.le_of_ble_eq_true (by kernel_rfl)⟩, fun _ => ⟨⟨_, _, _, _, rfl, fun h => nomatch h⟩, Nat.le_of_ble_eq_true (by kernel_rfl)⟩⟩
theorem spanMay_hk_tree (K : Value → Nat → Prop) (n : Int) :
    funcK (env rules1) 30 69 [.int .i64 n] tabs Tryz.prog.globals.size (fun u _ _ mw => K u mw) =
  (Go.Pe.bsel (Decidable.decide (n ≥ (-9007199254740992 : Int)))
 (Go.Pe.bsel (Decidable.decide (n ≤ (9007199254740992 : Int))) (K (Go.Value.bool Bool.true) (18446744073709551616 : Nat)) (K (Go.Value.bool Bool.false) (18446744073709551616 : Nat)))
 (K (Go.Value.bool Bool.false) (18446744073709551616 : Nat))) := by kernel_rfl
theorem spanMay_hk (n : Int)  : ReckE (env rules1) 30 69 [.int .i64 n] (isMayN n) := by
  constructor
  rw [spanMay_hk_tree fun u mw => (isMayN n) u ∧ Tryz.prog.globals.size ≤ mw]
  repeat' (refine bsel_of (fun _ => ?_) (fun _ => ?_))
  all_goals first
    | exact ⟨⟨_, rfl, by grind [spanOk]⟩, Nat.le_of_ble_eq_true (by kernel_rfl)⟩
    | (exfalso; grind)

end Go.Proofs.YteaebpmgbpnbeaaGreatDoor
