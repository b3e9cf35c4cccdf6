/-
  value.read of simple kinds; as a contract in every later world.
-/
import Derived.Test.YthmogphlnjpakaaGreatDoorEl1
namespace Go.Proofs.YthmogphlnjpakaaGreatDoor
open Go Go.Pe Go.RowKit
theorem tRd5T_tree (K : Value → Nat → Prop) (base : World) (s : ByteArray) (y m d : Int) :
 funcK (env (rulesQ 118 [.string s] (.tuple #[dateC y m d, .bool true]))) 30 63 [.int .i64 5, .string s] tabs Tryz.prog.globals.size (fun u _ _ mw => K u mw) =
 (Same [.string s] [.string s] ∧ dateOk y m d ∧ K (.agg (Array.mk [.iface 184 (Value.agg (Array.mk [.int .i64 y, .int .i64 m, .int .i64 d]))])) 10) := by kernel_rfl
theorem tRd5T_hk (base : World) (s : ByteArray) (y m d : Int) (hr : Tot base 118 [.string s] (.tuple #[dateC y m d, .bool true])) (hd : dateOk y m d) : ReckE (env (rulesQ 118 [.string s] (.tuple #[dateC y m d, .bool true]))) 30 63 [.int .i64 5, .string s] ((· = dateV y m d)) := by
  constructor
  rw [tRd5T_tree fun u mw => u = dateV y m d ∧ Tryz.prog.globals.size ≤ mw]
  exact ⟨rfl, hd, rfl, Nat.le_of_ble_eq_true (by kernel_rfl)⟩
  exact base
theorem tRd5T  (base : World) (s : ByteArray) (y m d : Int) (hr : Tot base 118 [.string s] (.tuple #[dateC y m d, .bool true])) (hd : dateOk y m d) : Tot base 63 [.int .i64 5, .string s] (dateV y m d) := tot_lit (rulesQ_ok hr) (tRd5T_hk base s y m d hr hd) (by kernel_rfl) (by repeat' (first | refine List.forall_mem_cons.2 ⟨?_, ?_⟩ | exact (fun _ h => nomatch h) | assumption | kernel_rfl))
theorem tRd5F_tree (K : Value → Nat → Prop) (base : World) (s : ByteArray) (y m d : Int) :
 funcK (env (rulesQ 118 [.string s] (.tuple #[dateC y m d, .bool false]))) 30 63 [.int .i64 5, .string s] tabs Tryz.prog.globals.size (fun u _ _ mw => K u mw) =
 (Same [.string s] [.string s] ∧ K (.agg (Array.mk [.nilIface])) 10) := by kernel_rfl
theorem tRd5F_hk (base : World) (s : ByteArray) (y m d : Int) (hr : Tot base 118 [.string s] (.tuple #[dateC y m d, .bool false])) : ReckE (env (rulesQ 118 [.string s] (.tuple #[dateC y m d, .bool false]))) 30 63 [.int .i64 5, .string s] ((· = nullV)) := by
  constructor
  rw [tRd5F_tree fun u mw => u = nullV ∧ Tryz.prog.globals.size ≤ mw]
  exact ⟨rfl, rfl, Nat.le_of_ble_eq_true (by kernel_rfl)⟩
  exact base
theorem tRd5F  (base : World) (s : ByteArray) (y m d : Int) (hr : Tot base 118 [.string s] (.tuple #[dateC y m d, .bool false])) : Tot base 63 [.int .i64 5, .string s] (nullV) := tot_lit (rulesQ_ok hr) (tRd5F_hk base s y m d hr) (by kernel_rfl) (by repeat' (first | refine List.forall_mem_cons.2 ⟨?_, ?_⟩ | exact (fun _ h => nomatch h) | assumption | kernel_rfl))
theorem tRd6T_tree (K : Value → Nat → Prop) (base : World) (s : ByteArray) (t o : Int) (z : Bool) :
 funcK (env (rulesQ 121 [.string s] (.tuple #[timeC t z o, .bool true]))) 30 63 [.int .i64 6, .string s] tabs Tryz.prog.globals.size (fun u _ _ mw => K u mw) =
 (Same [.string s] [.string s] ∧ timeOk t z o ∧ K (.agg (Array.mk [.iface 186 (Value.agg (Array.mk [.int .i64 t, .bool z, .int .i64 o]))])) 10) := by kernel_rfl
theorem tRd6T_hk (base : World) (s : ByteArray) (t o : Int) (z : Bool) (hr : Tot base 121 [.string s] (.tuple #[timeC t z o, .bool true])) (hd : timeOk t z o) : ReckE (env (rulesQ 121 [.string s] (.tuple #[timeC t z o, .bool true]))) 30 63 [.int .i64 6, .string s] ((· = timeV t z o)) := by
  constructor
  rw [tRd6T_tree fun u mw => u = timeV t z o ∧ Tryz.prog.globals.size ≤ mw]
  exact ⟨rfl, hd, rfl, Nat.le_of_ble_eq_true (by kernel_rfl)⟩
  exact base
theorem tRd6T  (base : World) (s : ByteArray) (t o : Int) (z : Bool) (hr : Tot base 121 [.string s] (.tuple #[timeC t z o, .bool true])) (hd : timeOk t z o) : Tot base 63 [.int .i64 6, .string s] (timeV t z o) := tot_lit (rulesQ_ok hr) (tRd6T_hk base s t o z hr hd) (by kernel_rfl) (by repeat' (first | refine List.forall_mem_cons.2 ⟨?_, ?_⟩ | exact (fun _ h => nomatch h) | assumption | kernel_rfl))
theorem tRd6F_tree (K : Value → Nat → Prop) (base : World) (s : ByteArray) (t o : Int) (z : Bool) :
 funcK (env (rulesQ 121 [.string s] (.tuple #[timeC t z o, .bool false]))) 30 63 [.int .i64 6, .string s] tabs Tryz.prog.globals.size (fun u _ _ mw => K u mw) =
 (Same [.string s] [.string s] ∧ K (.agg (Array.mk [.nilIface])) 10) := by kernel_rfl
theorem tRd6F_hk (base : World) (s : ByteArray) (t o : Int) (z : Bool) (hr : Tot base 121 [.string s] (.tuple #[timeC t z o, .bool false])) : ReckE (env (rulesQ 121 [.string s] (.tuple #[timeC t z o, .bool false]))) 30 63 [.int .i64 6, .string s] ((· = nullV)) := by
  constructor
  rw [tRd6F_tree fun u mw => u = nullV ∧ Tryz.prog.globals.size ≤ mw]
  exact ⟨rfl, rfl, Nat.le_of_ble_eq_true (by kernel_rfl)⟩
  exact base
theorem tRd6F  (base : World) (s : ByteArray) (t o : Int) (z : Bool) (hr : Tot base 121 [.string s] (.tuple #[timeC t z o, .bool false])) : Tot base 63 [.int .i64 6, .string s] (nullV) := tot_lit (rulesQ_ok hr) (tRd6F_hk base s t o z hr) (by kernel_rfl) (by repeat' (first | refine List.forall_mem_cons.2 ⟨?_, ?_⟩ | exact (fun _ h => nomatch h) | assumption | kernel_rfl))
theorem tRd7T_tree (K : Value → Nat → Prop) (base : World) (s : ByteArray) (y m d t o : Int) (z : Bool) :
 funcK (env (rulesQ 124 [.string s] (.tuple #[momentC y m d t z o, .bool true]))) 30 63 [.int .i64 7, .string s] tabs Tryz.prog.globals.size (fun u _ _ mw => K u mw) =
 (Same [.string s] [.string s] ∧ dateOk y m d ∧ timeOk t z o ∧ K (.agg (Array.mk [.iface 188 (Value.agg (Array.mk [.int .i64 y, .int .i64 m, .int .i64 d, .int .i64 t, .bool z, .int .i64 o]))])) 10) := by kernel_rfl
theorem tRd7T_hk (base : World) (s : ByteArray) (y m d t o : Int) (z : Bool) (hr : Tot base 124 [.string s] (.tuple #[momentC y m d t z o, .bool true])) (hd : dateOk y m d) (ht : timeOk t z o) : ReckE (env (rulesQ 124 [.string s] (.tuple #[momentC y m d t z o, .bool true]))) 30 63 [.int .i64 7, .string s] ((· = momentV y m d t z o)) := by
  constructor
  rw [tRd7T_tree fun u mw => u = momentV y m d t z o ∧ Tryz.prog.globals.size ≤ mw]
  exact ⟨rfl, hd, ht, rfl, Nat.le_of_ble_eq_true (by kernel_rfl)⟩
  exact base
theorem tRd7T  (base : World) (s : ByteArray) (y m d t o : Int) (z : Bool) (hr : Tot base 124 [.string s] (.tuple #[momentC y m d t z o, .bool true])) (hd : dateOk y m d) (ht : timeOk t z o) : Tot base 63 [.int .i64 7, .string s] (momentV y m d t z o) := tot_lit (rulesQ_ok hr) (tRd7T_hk base s y m d t o z hr hd ht) (by kernel_rfl) (by repeat' (first | refine List.forall_mem_cons.2 ⟨?_, ?_⟩ | exact (fun _ h => nomatch h) | assumption | kernel_rfl))
theorem tRd7F_tree (K : Value → Nat → Prop) (base : World) (s : ByteArray) (y m d t o : Int) (z : Bool) :
 funcK (env (rulesQ 124 [.string s] (.tuple #[momentC y m d t z o, .bool false]))) 30 63 [.int .i64 7, .string s] tabs Tryz.prog.globals.size (fun u _ _ mw => K u mw) =
 (Same [.string s] [.string s] ∧ K (.agg (Array.mk [.nilIface])) 10) := by kernel_rfl
theorem tRd7F_hk (base : World) (s : ByteArray) (y m d t o : Int) (z : Bool) (hr : Tot base 124 [.string s] (.tuple #[momentC y m d t z o, .bool false])) : ReckE (env (rulesQ 124 [.string s] (.tuple #[momentC y m d t z o, .bool false]))) 30 63 [.int .i64 7, .string s] ((· = nullV)) := by
  constructor
  rw [tRd7F_tree fun u mw => u = nullV ∧ Tryz.prog.globals.size ≤ mw]
  exact ⟨rfl, rfl, Nat.le_of_ble_eq_true (by kernel_rfl)⟩
  exact base
theorem tRd7F  (base : World) (s : ByteArray) (y m d t o : Int) (z : Bool) (hr : Tot base 124 [.string s] (.tuple #[momentC y m d t z o, .bool false])) : Tot base 63 [.int .i64 7, .string s] (nullV) := tot_lit (rulesQ_ok hr) (tRd7F_hk base s y m d t o z hr) (by kernel_rfl) (by repeat' (first | refine List.forall_mem_cons.2 ⟨?_, ?_⟩ | exact (fun _ h => nomatch h) | assumption | kernel_rfl))
theorem tRd8T_tree (K : Value → Nat → Prop) (base : World) (s : ByteArray) (n : Int) :
 funcK (env (rulesQ 138 [.string s] (.tuple #[.int .i64 n, .bool true]))) 30 63 [.int .i64 8, .string s] tabs Tryz.prog.globals.size (fun u _ _ mw => K u mw) =
 (Same [.string s] [.string s] ∧ bsel (decide (n ≥ (-9007199254740992 : Int))) (bsel (decide (n ≤ (9007199254740992 : Int))) (K (.agg (Array.mk [.iface 190 (Value.int .i64 n)])) 10) (K (.agg (Array.mk [.nilIface])) 10)) (K (.agg (Array.mk [.nilIface])) 10)) := by kernel_rfl
theorem tRd8T_hk (base : World) (s : ByteArray) (n : Int) (hr : Tot base 138 [.string s] (.tuple #[.int .i64 n, .bool true])) (h1 : -9007199254740992 ≤ n) (h2 : n ≤ 9007199254740992) : ReckE (env (rulesQ 138 [.string s] (.tuple #[.int .i64 n, .bool true]))) 30 63 [.int .i64 8, .string s] ((· = daysV n)) := by
  constructor
  rw [tRd8T_tree fun u mw => u = daysV n ∧ Tryz.prog.globals.size ≤ mw]
  exact ⟨rfl, bsel_of (fun _ => bsel_of (fun _ => ⟨rfl, Nat.le_of_ble_eq_true (by kernel_rfl)⟩) (fun h => absurd (of_decide_eq_false h) (by omega))) (fun h => absurd (of_decide_eq_false h) (by omega))⟩
  exact base
theorem tRd8T  (base : World) (s : ByteArray) (n : Int) (hr : Tot base 138 [.string s] (.tuple #[.int .i64 n, .bool true])) (h1 : -9007199254740992 ≤ n) (h2 : n ≤ 9007199254740992) : Tot base 63 [.int .i64 8, .string s] (daysV n) := tot_lit (rulesQ_ok hr) (tRd8T_hk base s n hr h1 h2) (by kernel_rfl) (by repeat' (first | refine List.forall_mem_cons.2 ⟨?_, ?_⟩ | exact (fun _ h => nomatch h) | assumption | kernel_rfl))
theorem tRd8F_tree (K : Value → Nat → Prop) (base : World) (s : ByteArray) (n : Int) :
 funcK (env (rulesQ 138 [.string s] (.tuple #[.int .i64 n, .bool false]))) 30 63 [.int .i64 8, .string s] tabs Tryz.prog.globals.size (fun u _ _ mw => K u mw) =
 (Same [.string s] [.string s] ∧ K (.agg (Array.mk [.nilIface])) 10) := by kernel_rfl
theorem tRd8F_hk (base : World) (s : ByteArray) (n : Int) (hr : Tot base 138 [.string s] (.tuple #[.int .i64 n, .bool false])) : ReckE (env (rulesQ 138 [.string s] (.tuple #[.int .i64 n, .bool false]))) 30 63 [.int .i64 8, .string s] ((· = nullV)) := by
  constructor
  rw [tRd8F_tree fun u mw => u = nullV ∧ Tryz.prog.globals.size ≤ mw]
  exact ⟨rfl, rfl, Nat.le_of_ble_eq_true (by kernel_rfl)⟩
  exact base
theorem tRd8F  (base : World) (s : ByteArray) (n : Int) (hr : Tot base 138 [.string s] (.tuple #[.int .i64 n, .bool false])) : Tot base 63 [.int .i64 8, .string s] (nullV) := tot_lit (rulesQ_ok hr) (tRd8F_hk base s n hr) (by kernel_rfl) (by repeat' (first | refine List.forall_mem_cons.2 ⟨?_, ?_⟩ | exact (fun _ h => nomatch h) | assumption | kernel_rfl))
theorem tRd9T_tree (K : Value → Nat → Prop) (base : World) (s : ByteArray) (n : Int) :
 funcK (env (rulesQ 139 [.string s] (.tuple #[.int .i64 n, .bool true]))) 30 63 [.int .i64 9, .string s] tabs Tryz.prog.globals.size (fun u _ _ mw => K u mw) =
 (Same [.string s] [.string s] ∧ bsel (decide (n ≥ (-9007199254740992 : Int))) (bsel (decide (n ≤ (9007199254740992 : Int))) (K (.agg (Array.mk [.iface 192 (Value.int .i64 n)])) 10) (K (.agg (Array.mk [.nilIface])) 10)) (K (.agg (Array.mk [.nilIface])) 10)) := by kernel_rfl
theorem tRd9T_hk (base : World) (s : ByteArray) (n : Int) (hr : Tot base 139 [.string s] (.tuple #[.int .i64 n, .bool true])) (h1 : -9007199254740992 ≤ n) (h2 : n ≤ 9007199254740992) : ReckE (env (rulesQ 139 [.string s] (.tuple #[.int .i64 n, .bool true]))) 30 63 [.int .i64 9, .string s] ((· = monthsV n)) := by
  constructor
  rw [tRd9T_tree fun u mw => u = monthsV n ∧ Tryz.prog.globals.size ≤ mw]
  exact ⟨rfl, bsel_of (fun _ => bsel_of (fun _ => ⟨rfl, Nat.le_of_ble_eq_true (by kernel_rfl)⟩) (fun h => absurd (of_decide_eq_false h) (by omega))) (fun h => absurd (of_decide_eq_false h) (by omega))⟩
  exact base
theorem tRd9T  (base : World) (s : ByteArray) (n : Int) (hr : Tot base 139 [.string s] (.tuple #[.int .i64 n, .bool true])) (h1 : -9007199254740992 ≤ n) (h2 : n ≤ 9007199254740992) : Tot base 63 [.int .i64 9, .string s] (monthsV n) := tot_lit (rulesQ_ok hr) (tRd9T_hk base s n hr h1 h2) (by kernel_rfl) (by repeat' (first | refine List.forall_mem_cons.2 ⟨?_, ?_⟩ | exact (fun _ h => nomatch h) | assumption | kernel_rfl))
theorem tRd9F_tree (K : Value → Nat → Prop) (base : World) (s : ByteArray) (n : Int) :
 funcK (env (rulesQ 139 [.string s] (.tuple #[.int .i64 n, .bool false]))) 30 63 [.int .i64 9, .string s] tabs Tryz.prog.globals.size (fun u _ _ mw => K u mw) =
 (Same [.string s] [.string s] ∧ K (.agg (Array.mk [.nilIface])) 10) := by kernel_rfl
theorem tRd9F_hk (base : World) (s : ByteArray) (n : Int) (hr : Tot base 139 [.string s] (.tuple #[.int .i64 n, .bool false])) : ReckE (env (rulesQ 139 [.string s] (.tuple #[.int .i64 n, .bool false]))) 30 63 [.int .i64 9, .string s] ((· = nullV)) := by
  constructor
  rw [tRd9F_tree fun u mw => u = nullV ∧ Tryz.prog.globals.size ≤ mw]
  exact ⟨rfl, rfl, Nat.le_of_ble_eq_true (by kernel_rfl)⟩
  exact base
theorem tRd9F  (base : World) (s : ByteArray) (n : Int) (hr : Tot base 139 [.string s] (.tuple #[.int .i64 n, .bool false])) : Tot base 63 [.int .i64 9, .string s] (nullV) := tot_lit (rulesQ_ok hr) (tRd9F_hk base s n hr) (by kernel_rfl) (by repeat' (first | refine List.forall_mem_cons.2 ⟨?_, ?_⟩ | exact (fun _ h => nomatch h) | assumption | kernel_rfl))
theorem tRd3T_tree (K : Value → Nat → Prop) (base : World) (s : ByteArray) (n : Bool) (a b e : Int) :
 funcK (env ((158, ruleAt [decC n a b e] (.bool true)) :: rulesQ 106 [.string s] (.tuple #[decC n a b e, .bool true]))) 30 63 [.int .i64 3, .string s] tabs Tryz.prog.globals.size (fun u _ _ mw => K u mw) =
 (Same [.string s] [.string s] ∧ Same [.agg (Array.mk [.bool n, .int .u64 a, .int .u64 b, .int .i64 e])] [.agg (Array.mk [.bool n, .int .u64 a, .int .u64 b, .int .i64 e])] ∧ K (.agg (Array.mk [.iface 176 (Value.agg (Array.mk [.bool n, .int .u64 a, .int .u64 b, .int .i64 e]))])) 10) := by kernel_rfl
theorem tRd3T_hk (base : World) (s : ByteArray) (n : Bool) (a b e : Int) (hr : Tot base 106 [.string s] (.tuple #[decC n a b e, .bool true])) (hm : Tot base 158 [decC n a b e] (.bool true)) : ReckE (env ((158, ruleAt [decC n a b e] (.bool true)) :: rulesQ 106 [.string s] (.tuple #[decC n a b e, .bool true]))) 30 63 [.int .i64 3, .string s] ((· = numV n a b e)) := by
  constructor
  rw [tRd3T_tree fun u mw => u = numV n a b e ∧ Tryz.prog.globals.size ≤ mw]
  exact ⟨rfl, rfl, rfl, Nat.le_of_ble_eq_true (by kernel_rfl)⟩
  exact base
theorem tRd3T  (base : World) (s : ByteArray) (n : Bool) (a b e : Int) (hr : Tot base 106 [.string s] (.tuple #[decC n a b e, .bool true])) (hm : Tot base 158 [decC n a b e] (.bool true)) : Tot base 63 [.int .i64 3, .string s] (numV n a b e) := tot_lit (List.forall_mem_cons.2 ⟨ruleOk_at hm, rulesQ_ok hr⟩) (tRd3T_hk base s n a b e hr hm) (by kernel_rfl) (by repeat' (first | refine List.forall_mem_cons.2 ⟨?_, ?_⟩ | exact (fun _ h => nomatch h) | assumption | kernel_rfl))
theorem tRd3F_tree (K : Value → Nat → Prop) (base : World) (s : ByteArray) (n : Bool) (a b e : Int) :
 funcK (env (rulesQ 106 [.string s] (.tuple #[decC n a b e, .bool false]))) 30 63 [.int .i64 3, .string s] tabs Tryz.prog.globals.size (fun u _ _ mw => K u mw) =
 (Same [.string s] [.string s] ∧ K (.agg (Array.mk [.nilIface])) 10) := by kernel_rfl
theorem tRd3F_hk (base : World) (s : ByteArray) (n : Bool) (a b e : Int) (hr : Tot base 106 [.string s] (.tuple #[decC n a b e, .bool false])) : ReckE (env (rulesQ 106 [.string s] (.tuple #[decC n a b e, .bool false]))) 30 63 [.int .i64 3, .string s] ((· = nullV)) := by
  constructor
  rw [tRd3F_tree fun u mw => u = nullV ∧ Tryz.prog.globals.size ≤ mw]
  exact ⟨rfl, rfl, Nat.le_of_ble_eq_true (by kernel_rfl)⟩
  exact base
theorem tRd3F  (base : World) (s : ByteArray) (n : Bool) (a b e : Int) (hr : Tot base 106 [.string s] (.tuple #[decC n a b e, .bool false])) : Tot base 63 [.int .i64 3, .string s] (nullV) := tot_lit (rulesQ_ok hr) (tRd3F_hk base s n a b e hr) (by kernel_rfl) (by repeat' (first | refine List.forall_mem_cons.2 ⟨?_, ?_⟩ | exact (fun _ h => nomatch h) | assumption | kernel_rfl))
theorem tRd4T_tree (K : Value → Nat → Prop) (base : World) (s : ByteArray) :
 funcK (env (rulesQ 15 [.string s] (.bool true))) 30 63 [.int .i64 4, .string s] tabs Tryz.prog.globals.size (fun u _ _ mw => K u mw) =
 (Same [.string s] [.string s] ∧ bsel (decide ((↑(strLen s) : Int) > (1048576 : Int))) (K (.agg (Array.mk [.nilIface])) 10) (K (.agg (Array.mk [.iface 144 (Value.string s)])) 10)) := by kernel_rfl
theorem tRd4T_hk (base : World) (s : ByteArray) (hr : Tot base 15 [.string s] (.bool true)) (hs : strLen s ≤ 1048576) : ReckE (env (rulesQ 15 [.string s] (.bool true))) 30 63 [.int .i64 4, .string s] ((· = textV s)) := by
  constructor
  rw [tRd4T_tree fun u mw => u = textV s ∧ Tryz.prog.globals.size ≤ mw]
  exact ⟨rfl, bsel_of (fun h => absurd (of_decide_eq_true h) (by omega)) (fun _ => ⟨rfl, Nat.le_of_ble_eq_true (by kernel_rfl)⟩)⟩
  exact base
theorem tRd4T  (base : World) (s : ByteArray) (hr : Tot base 15 [.string s] (.bool true)) (hs : strLen s ≤ 1048576) : Tot base 63 [.int .i64 4, .string s] (textV s) := tot_lit (rulesQ_ok hr) (tRd4T_hk base s hr hs) (by kernel_rfl) (by repeat' (first | refine List.forall_mem_cons.2 ⟨?_, ?_⟩ | exact (fun _ h => nomatch h) | assumption | kernel_rfl))
theorem tRd4F_tree (K : Value → Nat → Prop) (base : World) (s : ByteArray) :
 funcK (env (rulesQ 15 [.string s] (.bool false))) 30 63 [.int .i64 4, .string s] tabs Tryz.prog.globals.size (fun u _ _ mw => K u mw) =
 (Same [.string s] [.string s] ∧ K (.agg (Array.mk [.nilIface])) 10) := by kernel_rfl
theorem tRd4F_hk (base : World) (s : ByteArray) (hr : Tot base 15 [.string s] (.bool false)) : ReckE (env (rulesQ 15 [.string s] (.bool false))) 30 63 [.int .i64 4, .string s] ((· = nullV)) := by
  constructor
  rw [tRd4F_tree fun u mw => u = nullV ∧ Tryz.prog.globals.size ≤ mw]
  exact ⟨rfl, rfl, Nat.le_of_ble_eq_true (by kernel_rfl)⟩
  exact base
theorem tRd4F  (base : World) (s : ByteArray) (hr : Tot base 15 [.string s] (.bool false)) : Tot base 63 [.int .i64 4, .string s] (nullV) := tot_lit (rulesQ_ok hr) (tRd4F_hk base s hr) (by kernel_rfl) (by repeat' (first | refine List.forall_mem_cons.2 ⟨?_, ?_⟩ | exact (fun _ h => nomatch h) | assumption | kernel_rfl))
theorem tRd2T_tree (K : Value → Nat → Prop) (base : World) (s : ByteArray) :
 funcK (env (rules4)) 30 63 [.int .i64 2, .string s] tabs Tryz.prog.globals.size (fun u _ _ mw => K u mw) =
 (bsel (strEq s (ByteArray.mk #[116, 114, 117, 101])) (bsel (strEq s (ByteArray.mk #[116, 114, 117, 101])) (K (.agg (Array.mk [.iface 181 (Value.bool true)])) 10) (K (.agg (Array.mk [.iface 181 (Value.bool false)])) 10)) (bsel (strEq s (ByteArray.mk #[102, 97, 108, 115, 101])) (bsel (strEq s (ByteArray.mk #[116, 114, 117, 101])) (K (.agg (Array.mk [.iface 181 (Value.bool true)])) 10) (K (.agg (Array.mk [.iface 181 (Value.bool false)])) 10)) (K (.agg (Array.mk [.nilIface])) 10))) := by kernel_rfl
theorem tRd2T_hk (base : World) (s : ByteArray) (h1 : strEq s ⟨#[116, 114, 117, 101]⟩ = true) : ReckE (env (rules4)) 30 63 [.int .i64 2, .string s] ((· = boolV true)) := by
  constructor
  rw [tRd2T_tree fun u mw => u = boolV true ∧ Tryz.prog.globals.size ≤ mw]
  exact bsel_of (fun _ => bsel_of (fun _ => ⟨rfl, Nat.le_of_ble_eq_true (by kernel_rfl)⟩) (fun h => absurd (h1.symm.trans h) (by decide))) (fun h => absurd (h1.symm.trans h) (by decide))
  exact base
theorem tRd2T  (base : World) (s : ByteArray) (h1 : strEq s ⟨#[116, 114, 117, 101]⟩ = true) : Tot base 63 [.int .i64 2, .string s] (boolV true) := tot_lit (rules4_ok base) (tRd2T_hk base s h1) (by kernel_rfl) (by repeat' (first | refine List.forall_mem_cons.2 ⟨?_, ?_⟩ | exact (fun _ h => nomatch h) | assumption | kernel_rfl))
theorem tRd2F_tree (K : Value → Nat → Prop) (base : World) (s : ByteArray) :
 funcK (env (rules4)) 30 63 [.int .i64 2, .string s] tabs Tryz.prog.globals.size (fun u _ _ mw => K u mw) =
 (bsel (strEq s (ByteArray.mk #[116, 114, 117, 101])) (bsel (strEq s (ByteArray.mk #[116, 114, 117, 101])) (K (.agg (Array.mk [.iface 181 (Value.bool true)])) 10) (K (.agg (Array.mk [.iface 181 (Value.bool false)])) 10)) (bsel (strEq s (ByteArray.mk #[102, 97, 108, 115, 101])) (bsel (strEq s (ByteArray.mk #[116, 114, 117, 101])) (K (.agg (Array.mk [.iface 181 (Value.bool true)])) 10) (K (.agg (Array.mk [.iface 181 (Value.bool false)])) 10)) (K (.agg (Array.mk [.nilIface])) 10))) := by kernel_rfl
theorem tRd2F_hk (base : World) (s : ByteArray) (h1 : strEq s ⟨#[116, 114, 117, 101]⟩ = false) (h2 : strEq s ⟨#[102, 97, 108, 115, 101]⟩ = true) : ReckE (env (rules4)) 30 63 [.int .i64 2, .string s] ((· = boolV false)) := by
  constructor
  rw [tRd2F_tree fun u mw => u = boolV false ∧ Tryz.prog.globals.size ≤ mw]
  exact bsel_of (fun h => absurd (h1.symm.trans h) (by decide)) (fun _ => bsel_of (fun _ => bsel_of (fun h => absurd (h1.symm.trans h) (by decide)) (fun _ => ⟨rfl, Nat.le_of_ble_eq_true (by kernel_rfl)⟩)) (fun h => absurd (h2.symm.trans h) (by decide)))
  exact base
theorem tRd2F  (base : World) (s : ByteArray) (h1 : strEq s ⟨#[116, 114, 117, 101]⟩ = false) (h2 : strEq s ⟨#[102, 97, 108, 115, 101]⟩ = true) : Tot base 63 [.int .i64 2, .string s] (boolV false) := tot_lit (rules4_ok base) (tRd2F_hk base s h1 h2) (by kernel_rfl) (by repeat' (first | refine List.forall_mem_cons.2 ⟨?_, ?_⟩ | exact (fun _ h => nomatch h) | assumption | kernel_rfl))
theorem tRd2N_tree (K : Value → Nat → Prop) (base : World) (s : ByteArray) :
 funcK (env (rules4)) 30 63 [.int .i64 2, .string s] tabs Tryz.prog.globals.size (fun u _ _ mw => K u mw) =
 (bsel (strEq s (ByteArray.mk #[116, 114, 117, 101])) (bsel (strEq s (ByteArray.mk #[116, 114, 117, 101])) (K (.agg (Array.mk [.iface 181 (Value.bool true)])) 10) (K (.agg (Array.mk [.iface 181 (Value.bool false)])) 10)) (bsel (strEq s (ByteArray.mk #[102, 97, 108, 115, 101])) (bsel (strEq s (ByteArray.mk #[116, 114, 117, 101])) (K (.agg (Array.mk [.iface 181 (Value.bool true)])) 10) (K (.agg (Array.mk [.iface 181 (Value.bool false)])) 10)) (K (.agg (Array.mk [.nilIface])) 10))) := by kernel_rfl
theorem tRd2N_hk (base : World) (s : ByteArray) (h1 : strEq s ⟨#[116, 114, 117, 101]⟩ = false) (h2 : strEq s ⟨#[102, 97, 108, 115, 101]⟩ = false) : ReckE (env (rules4)) 30 63 [.int .i64 2, .string s] ((· = nullV)) := by
  constructor
  rw [tRd2N_tree fun u mw => u = nullV ∧ Tryz.prog.globals.size ≤ mw]
  exact bsel_of (fun h => absurd (h1.symm.trans h) (by decide)) (fun _ => bsel_of (fun h => absurd (h2.symm.trans h) (by decide)) (fun _ => ⟨rfl, Nat.le_of_ble_eq_true (by kernel_rfl)⟩))
  exact base
theorem tRd2N  (base : World) (s : ByteArray) (h1 : strEq s ⟨#[116, 114, 117, 101]⟩ = false) (h2 : strEq s ⟨#[102, 97, 108, 115, 101]⟩ = false) : Tot base 63 [.int .i64 2, .string s] (nullV) := tot_lit (rules4_ok base) (tRd2N_hk base s h1 h2) (by kernel_rfl) (by repeat' (first | refine List.forall_mem_cons.2 ⟨?_, ?_⟩ | exact (fun _ h => nomatch h) | assumption | kernel_rfl))
theorem tot_later_of {E : Env} {base w : World} (hE : EnvOk E base) (hP : E.P = Tryz.prog) {f : FuncId} {fn : Func} (hf : Tryz.prog.funcs[f]? = some fn) (hb : fn.body.isSome = true) {args : List Value} {v : Value} (ha : ∀ x ∈ args, pureV 6 x = true) (hv : pureV 6 v = true)
    (hrel : Rel Tryz.prog base id (fun _ => 0) tabs w) (h : FuncSem E base f args tabs Tryz.prog.globals.size v tabs Tryz.prog.globals.size big) : Calls Tryz.prog f args.toArray w fun e w' => e = .returned v ∧ Below w.heap.size w w' := by
  rw [← hP] at hrel
  have hout := h.2 id (fun _ => 0) w hrel tabs_ok (fun x hx => WF.pure (ha x hx)) (by rw [hP]; exact Nat.le_refl _)
  have hargs : args.map (renV id fun _ => 0) = args := by
    have : args.map (renV id fun _ => 0) = args.map id := List.map_congr_left fun x hx => ren_pure _ _ 6 x (ha x hx)
    simpa using this
  rw [hargs, hE.enter f fn (by rw [hP]; exact hf) hb] at hout
  rw [← hP]
  refine hout.2.mono fun e w' ⟨x, he, μ', κ', hst, hx, hr'⟩ => ?_
  subst he
  rw [hx, ren_pure _ _ 6 v hv]
  have b1 := hrel.below
  have b2 := hr'.below
  exact ⟨rfl, b2.os.trans b1.os.symm, b2.tape.trans b1.tape.symm, b2.output.trans b1.output.symm, hst.sz, fun k hk => hst.fr k hk fun j j1 j2 => by have h1 := globals_big; have h2 : big = 18446744073709551616 := rfl; omega⟩
theorem tot_later {base w : World} (hs : base.ShapedOpen Tryz.prog) (hT : Lib.TabIs Tryz.prog base "internal/strconv.uint64pow10" .u64 pow10s) (hB : Below base.heap.size base w) {f : FuncId} {fn : Func} (hf : Tryz.prog.funcs[f]? = some fn) (hb : fn.body.isSome = true)
    {args : List Value} {v : Value} (ha : ∀ x ∈ args, pureV 6 x = true) (hv : pureV 6 v = true) (h : Tot base f args v) : Calls Tryz.prog f args.toArray w fun e w' => e = .returned v ∧ Below w.heap.size w w' := by
  have hrel0 : Rel Tryz.prog base id (fun _ => 0) tabs base := rel_start hs low fun k b hb => by
    unfold tabs at hb
    rw [getBlk_cons] at hb
    split at hb
    · rename_i e
      subst e
      cases hb
      exact blkOk_tab hT gPow
    · simp [getBlk] at hb
  exact tot_later_of (E := env []) (base := base) (env_ok (fun _ h => nomatch h)) rfl hf hb ha hv (hrel0.grow hB) (h (env []) rfl tabs (by kernel_rfl) _)
def ReadIs (k : Int) (x : Value) : Prop := x = .nilIface ∨ ∃ t y, x = .iface t y ∧ LeafOk k t y
theorem read_tot {base : World} (B : Firm base) (hU : Utf8At base) {k : Int} (h0 : 2 ≤ k) (h9 : k ≤ 9) {s : ByteArray} (hs : strLen s ≤ 1048576) : ∃ x, ReadIs k x ∧ Tot base 63 [.int .i64 k, .string s] (.agg ⟨[x]⟩) := by
  obtain ⟨c, rfl⟩ : ∃ c : Nat, k = c := ⟨k.toNat, by omega⟩
  have g1 : 2 ≤ c := by omega
  have g2 : c ≤ 9 := by omega
  clear h0 h9
  match c, g1, g2 with
  | 2, _, _ =>
    cases e1 : strEq s ⟨#[116, 114, 117, 101]⟩ with
    | true => exact ⟨_, .inr ⟨_, _, rfl, .bool _⟩, tRd2T base s e1⟩
    | false =>
      cases e2 : strEq s ⟨#[102, 97, 108, 115, 101]⟩ with
      | true => exact ⟨_, .inr ⟨_, _, rfl, .bool _⟩, tRd2F base s e1 e2⟩
      | false => exact ⟨_, .inl rfl, tRd2N base s e1 e2⟩
  | 3, _, _ =>
    obtain ⟨n, a, b, e, ok, hd, hr⟩ := nsigned_tot B.stood hs
    cases ok with
    | true => exact ⟨_, .inr ⟨_, _, rfl, .num _ _ _ _⟩, tRd3T base s n a b e hr (dmay_tot hd).tot⟩
    | false => exact ⟨_, .inl rfl, tRd3F base s n a b e hr⟩
  | 4, _, _ =>
    have hv := valid_tot B.begun.low hU s (Nat.le_trans (show s.size ≤ 1048576 from hs) (by decide))
    cases hb : Lib.validD s.data.toList with
    | true =>
      rw [hb] at hv
      exact ⟨_, .inr ⟨_, _, rfl, .text _⟩, tRd4T base s hv (by omega)⟩
    | false =>
      rw [hb] at hv
      exact ⟨_, .inl rfl, tRd4F base s hv⟩
  | 5, _, _ =>
    obtain ⟨y, m, d, ok, hd, hr⟩ := rdate_tot B hs
    cases ok with
    | true => exact ⟨_, .inr ⟨_, _, rfl, .day _ _ _⟩, tRd5T base s y m d hr (hd rfl)⟩
    | false => exact ⟨_, .inl rfl, tRd5F base s y m d hr⟩
  | 6, _, _ =>
    obtain ⟨t, o, z, ok, hd, hr⟩ := rtime_tot B hs
    cases ok with
    | true => exact ⟨_, .inr ⟨_, _, rfl, .time _ _ _⟩, tRd6T base s t o z hr hd⟩
    | false => exact ⟨_, .inl rfl, tRd6F base s t o z hr⟩
  | 7, _, _ =>
    obtain ⟨_, ⟨y, m, d, t, o, z, ok, rfl, q1, q2⟩, hr⟩ := rmom_tot B hs
    cases ok with
    | true =>
      obtain ⟨g1, g2⟩ := q1 rfl
      exact ⟨_, .inr ⟨_, _, rfl, .instant _ _ _ _ _ _⟩, tRd7T base s y m d t o z hr g1 g2⟩
    | false =>
      have e := q2 rfl
      rw [e] at hr
      exact ⟨_, .inl rfl, tRd7F base s 0 0 0 0 0 false hr⟩
  | 8, _, _ =>
    obtain ⟨n, ok, ⟨q1, q2⟩, hr⟩ := rdays_tot (base := base) hs
    cases ok with
    | true => exact ⟨_, .inr ⟨_, _, rfl, .days _⟩, tRd8T base s n hr q1 q2⟩
    | false => exact ⟨_, .inl rfl, tRd8F base s n hr⟩
  | 9, _, _ =>
    obtain ⟨n, ok, ⟨q1, q2⟩, hr⟩ := rmonths_tot (base := base) hs
    cases ok with
    | true => exact ⟨_, .inr ⟨_, _, rfl, .months _⟩, tRd9T base s n hr q1 q2⟩
    | false => exact ⟨_, .inl rfl, tRd9F base s n hr⟩
end Go.Proofs.YthmogphlnjpakaaGreatDoor
