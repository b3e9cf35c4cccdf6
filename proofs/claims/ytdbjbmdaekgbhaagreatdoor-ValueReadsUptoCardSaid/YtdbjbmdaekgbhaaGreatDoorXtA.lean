/-
  lexical.ReadMoment: what is read may be; lexical.Moment.
  value.Of and value.Plain of simple kinds.
-/
import Derived.Test.YtdbjbmdaekgbhaaGreatDoorXs

namespace Go.Proofs.YtdbjbmdaekgbhaaGreatDoor
open Go Go.Pe Go.RowKit

theorem rtime_tot {base : World} (B : Firm base) {s : ByteArray} (hs : strLen s ≤ 1048576) : ∃ (t o : Int) (z ok : Bool), timeOk t z o ∧ Tot base 32 [.string s] (.tuple #[timeC t z o, .bool ok]) := by
  obtain ⟨_, ⟨t, o, z, ok, rfl, h⟩, ht⟩ := tot_ofE (base := base) (envW_ok (rulesRt_ok B)) (findL_ok (l := []) rfl fun _ h => nomatch h) rfl (rtime_hk s hs) isRtime_pure (pure1 (by kernel_rfl))
  exact ⟨t, o, z, ok, h, ht⟩
def ruleRDate : Rule := rule1 fun args => match args with
  | [.string s] => some fun K => strLen s ≤ 1048576 ∧ ∀ (y m d : Int) (ok : Bool), (ok = true → dateOk y m d) → K (.tuple #[dateC y m d, .bool ok])
  | _ => none
def ruleRTime : Rule := rule1 fun args => match args with
  | [.string s] => some fun K => strLen s ≤ 1048576 ∧ ∀ (t o : Int) (z ok : Bool), timeOk t z o → K (.tuple #[timeC t z o, .bool ok])
  | _ => none
theorem rDate_ok {base : World} (B : Firm base) : RuleOk Tryz.prog base 30 ruleRDate := ruleOk_of fun args T K hT hK => by
  split at hT
  · cases hT
    obtain ⟨hs, hK⟩ := hK
    obtain ⟨y, m, d, ok, h, ht⟩ := rdate_tot B hs
    exact ⟨_, hK y m d ok h, ht⟩
  · cases hT
theorem rTime_ok {base : World} (B : Firm base) : RuleOk Tryz.prog base 32 ruleRTime := ruleOk_of fun args T K hT hK => by
  split at hT
  · cases hT
    obtain ⟨hs, hK⟩ := hK
    obtain ⟨t, o, z, ok, h, ht⟩ := rtime_tot B hs
    exact ⟨_, hK t o z ok h, ht⟩
  · cases hT
def rulesRm : List (Nat × Rule) := (30, ruleRDate) :: (32, ruleRTime) :: rulesSt
theorem rulesRm_ok {base : World} (B : Firm base) : ∀ x ∈ rulesRm, RuleOk Tryz.prog base x.1 x.2 := List.forall_mem_cons.2 ⟨rDate_ok B, List.forall_mem_cons.2 ⟨rTime_ok B, rulesSt_ok base⟩⟩
def isRmom (u : Value) : Prop := ∃ (y m d s o : Int) (z ok : Bool), u = .tuple #[momentC y m d s z o, .bool ok] ∧ (ok = true → dateOk y m d ∧ timeOk s z o) ∧ (ok = false → momentC y m d s z o = momentC 0 0 0 0 false 0)
theorem isRmom_pure : ∀ v, isRmom v → pureV 6 v = true := fun v ⟨_, _, _, _, _, _, _, hv, _⟩ => by subst hv; kernel_rfl
theorem isRmom0 : isRmom (.tuple #[momentC 0 0 0 0 false 0, .bool false]) := ⟨_, _, _, _, _, _, _, rfl, (fun (h : false = true) => nomatch h), fun _ => rfl⟩
theorem isRmomT {y m d s o : Int} {z : Bool} (h1 : dateOk y m d) (h2 : timeOk s z o) : isRmom (.tuple #[momentC y m d s z o, .bool true]) := ⟨_, _, _, _, _, _, _, rfl, fun _ => ⟨h1, h2⟩, fun (h : true = false) => nomatch h⟩
theorem rmom_hk_tree (K : Value → Nat → Prop) (s : ByteArray) :
 funcK (envW rulesRm []) 30 31 [.string s] tabs Tryz.prog.globals.size (fun u _ _ mw => K u mw) =
 ((strLen s ≤ 281474976710656 ∧ (ByteArray.mk #[(84 : UInt8)] = ByteArray.mk #[(69 : UInt8)] ∨ ByteArray.mk #[(84 : UInt8)] = ByteArray.mk #[(46 : UInt8)] ∨ ByteArray.mk #[(84 : UInt8)] = ByteArray.mk #[(84 : UInt8)])) ∧ ∀ (a b : ByteArray) (ok : Bool), strLen a ≤ strLen s → strLen b ≤ strLen s → bsel ok (strLen a ≤ 1048576 ∧ ∀ (y m d : Int) (ok : Bool), (ok = true → dateOk y m d) → bsel ok (strLen b ≤ 1048576 ∧ ∀ (t o : Int) (z ok : Bool), timeOk t z o → bsel ok (K (Value.tuple (Array.mk [Value.agg (Array.mk [Value.int .i64 y, Value.int .i64 m, Value.int .i64 d, Value.int .i64 t, Value.bool z, Value.int .i64 o]), Value.bool true])) 10) (K (Value.tuple (Array.mk [Value.agg (Array.mk [Value.int .i64 (Int.ofNat 0), Value.int .i64 (Int.ofNat 0), Value.int .i64 (Int.ofNat 0), Value.int .i64 (Int.ofNat 0), Value.bool false, Value.int .i64 (Int.ofNat 0)]), Value.bool false])) 10)) (strLen b ≤ 1048576 ∧ ∀ (t o : Int) (z ok : Bool), timeOk t z o → bsel ok (K (Value.tuple (Array.mk [Value.agg (Array.mk [Value.int .i64 (Int.ofNat 0), Value.int .i64 (Int.ofNat 0), Value.int .i64 (Int.ofNat 0), Value.int .i64 (Int.ofNat 0), Value.bool false, Value.int .i64 (Int.ofNat 0)]), Value.bool false])) 10) (K (Value.tuple (Array.mk [Value.agg (Array.mk [Value.int .i64 (Int.ofNat 0), Value.int .i64 (Int.ofNat 0), Value.int .i64 (Int.ofNat 0), Value.int .i64 (Int.ofNat 0), Value.bool false, Value.int .i64 (Int.ofNat 0)]), Value.bool false])) 10))) (strLen a ≤ 1048576 ∧ ∀ (y m d : Int) (ok : Bool), (ok = true → dateOk y m d) → bsel ok (strLen b ≤ 1048576 ∧ ∀ (t o : Int) (z ok : Bool), timeOk t z o → bsel ok (K (Value.tuple (Array.mk [Value.agg (Array.mk [Value.int .i64 (Int.ofNat 0), Value.int .i64 (Int.ofNat 0), Value.int .i64 (Int.ofNat 0), Value.int .i64 (Int.ofNat 0), Value.bool false, Value.int .i64 (Int.ofNat 0)]), Value.bool false])) 10) (K (Value.tuple (Array.mk [Value.agg (Array.mk [Value.int .i64 (Int.ofNat 0), Value.int .i64 (Int.ofNat 0), Value.int .i64 (Int.ofNat 0), Value.int .i64 (Int.ofNat 0), Value.bool false, Value.int .i64 (Int.ofNat 0)]), Value.bool false])) 10)) (strLen b ≤ 1048576 ∧ ∀ (t o : Int) (z ok : Bool), timeOk t z o → bsel ok (K (Value.tuple (Array.mk [Value.agg (Array.mk [Value.int .i64 (Int.ofNat 0), Value.int .i64 (Int.ofNat 0), Value.int .i64 (Int.ofNat 0), Value.int .i64 (Int.ofNat 0), Value.bool false, Value.int .i64 (Int.ofNat 0)]), Value.bool false])) 10) (K (Value.tuple (Array.mk [Value.agg (Array.mk [Value.int .i64 (Int.ofNat 0), Value.int .i64 (Int.ofNat 0), Value.int .i64 (Int.ofNat 0), Value.int .i64 (Int.ofNat 0), Value.bool false, Value.int .i64 (Int.ofNat 0)]), Value.bool false])) 10)))) := by kernel_rfl
theorem rmom_hk (s : ByteArray) (hs : strLen s ≤ 1048576) : ReckE (envW rulesRm []) 30 31 [.string s] (isRmom) := by
  constructor
  rw [rmom_hk_tree fun u mw => (isRmom) u ∧ Tryz.prog.globals.size ≤ mw]
  repeat' (first | exact ⟨isRmom0, Nat.le_of_ble_eq_true (by kernel_rfl)⟩ | exact ⟨isRmomT (by first | assumption | (have h := ‹_ = true → dateOk _ _ _›; exact h (by assumption))) (by assumption), Nat.le_of_ble_eq_true (by kernel_rfl)⟩ | refine bsel_of (fun _ => ?_) (fun _ => ?_) | refine And.intro (by (first | exact True.intro | assumption | omega | (refine And.intro (by omega) ?_; exact .inr (.inr rfl)))) ?_ | intro _)
theorem rmom_tot {base : World} (B : Firm base) {s : ByteArray} (hs : strLen s ≤ 1048576) : ∃ v, isRmom v ∧ Tot base 31 [.string s] v :=
  tot_ofE (base := base) (envW_ok (rulesRm_ok B)) (findL_ok (l := []) rfl fun _ h => nomatch h) rfl (rmom_hk s hs) isRmom_pure (pure1 (by kernel_rfl))
theorem lmom_hk_tree (K : Value → Nat → Prop) (y m d s o : Int) (z : Bool) :
 funcK (env rulesT3) 30 52 [momentC y m d s z o] tabs Tryz.prog.globals.size (fun u _ _ mw => K u mw) =
 (dateOk y m d ∧ timeOk s z o ∧ dateOk y m d ∧ ∀ (s_1 : ByteArray), strLen s_1 ≤ 200 → bsel (Nat.ble (strLen s_1 + 1) 9223372036854775807) (timeOk s z o ∧ ∀ (t : ByteArray), strLen t ≤ 200 → bsel (Nat.ble (strLen (strCat s_1 (ByteArray.mk #[(84 : UInt8)])) + strLen t) 9223372036854775807) (K (Value.string (strCat (strCat s_1 (ByteArray.mk #[(84 : UInt8)])) t)) 18446744073709551616) False) False) := by kernel_rfl
theorem lmom_hk (y m d s o : Int) (z : Bool) (h1 : dateOk y m d) (h2 : timeOk s z o) : ReckE (env rulesT3) 30 52 [momentC y m d s z o] (isShort 500) := by
  constructor
  rw [lmom_hk_tree fun u mw => (isShort 500) u ∧ Tryz.prog.globals.size ≤ mw]
  repeat' (first | exact ⟨⟨_, rfl, by first | exact Nat.zero_le _ | omega | (simp only [strLen_cat, sl0, sl1, slL, List.length_cons, List.length_nil]; omega)⟩, globals_big⟩ | exact ⟨⟨_, rfl, by first | exact Nat.zero_le _ | omega | (simp only [strLen_cat, sl0, sl1, slL, List.length_cons, List.length_nil]; omega)⟩, Nat.le_of_ble_eq_true (by kernel_rfl)⟩ | assumption | refine And.intro ?_ ?_ | refine bsel_of (fun _ => ?_) (fun h => noBig (by first | omega | (simp only [strLen_cat, sl0, sl1, slL, List.length_cons, List.length_nil]; omega)) h) | refine bsel_of (fun _ => ?_) (fun _ => ?_) | intro _)
theorem noDate0 : ¬ dateOk 0 0 0 := fun h => by
  obtain ⟨a1, a2, a3, a4, a5, _⟩ := h
  omega
theorem lmom0_hk_tree (K : Value → Nat → Prop) :
 funcK (env rulesMn) 30 52 [momentC 0 0 0 0 false 0] tabs Tryz.prog.globals.size (fun u _ _ mw => K u mw) =
 (¬dateOk (Int.ofNat 0) (Int.ofNat 0) (Int.ofNat 0) ∧ K (Value.string (ByteArray.mk #[])) 18446744073709551616) := by kernel_rfl
theorem lmom0_hk   : ReckE (env rulesMn) 30 52 [momentC 0 0 0 0 false 0] (isShort 500) := by
  constructor
  rw [lmom0_hk_tree fun u mw => (isShort 500) u ∧ Tryz.prog.globals.size ≤ mw]
  exact ⟨noDate0, ⟨_, rfl, Nat.zero_le _⟩, Nat.le_of_ble_eq_true (by kernel_rfl)⟩
end Go.Proofs.YtdbjbmdaekgbhaaGreatDoor

namespace Go.Proofs.YtdbjbmdaekgbhaaGreatDoor
open Go Go.Pe Go.RowKit

def rulesQ (f : Nat) (xs : List Value) (v : Value) : List (Nat × Rule) := (f, ruleAt xs v) :: rules4
theorem rulesQ_ok {base : World} {f : Nat} {xs : List Value} {v : Value} (h : Tot base f xs v) : ∀ x ∈ rulesQ f xs v, RuleOk Tryz.prog base x.1 x.2 := List.forall_mem_cons.2 ⟨ruleOk_at h, rules4_ok base⟩
def boolV (b : Bool) : Value := .agg ⟨[.iface 229 (.bool b)]⟩
def listV0 : Value := .agg ⟨[.iface 181 (.slice none 0 0)]⟩
def contextV0 : Value := .agg ⟨[.iface 187 (.agg ⟨[.slice none 0 0, .slice none 0 0]⟩)]⟩
theorem tOf5T_tree (K : Value → Nat → Prop) (base : World) (s : ByteArray) (y m d : Int) :
 funcK (env (rulesQ 30 [.string s] (.tuple #[dateC y m d, .bool true]))) 30 46 [datC 5 s] tabs Tryz.prog.globals.size (fun u _ _ mw => K u mw) =
 (Same [Value.string s] [Value.string s] ∧ dateOk y m d ∧ K (Value.tuple (Array.mk [Value.agg (Array.mk [Value.iface 155 (Value.agg (Array.mk [Value.int .i64 y, Value.int .i64 m, Value.int .i64 d]))]), Value.bool true])) 11) := by kernel_rfl
theorem tOf5T_hk (base : World) (s : ByteArray) (y m d : Int) (hr : Tot base 30 [.string s] (.tuple #[dateC y m d, .bool true])) (hd : dateOk y m d) : ReckE (env (rulesQ 30 [.string s] (.tuple #[dateC y m d, .bool true]))) 30 46 [datC 5 s] ((· = .tuple #[dateV y m d, .bool true])) := by
  constructor
  rw [tOf5T_tree fun u mw => u = .tuple #[dateV y m d, .bool true] ∧ Tryz.prog.globals.size ≤ mw]
  exact ⟨rfl, hd, rfl, Nat.le_of_ble_eq_true (by kernel_rfl)⟩
  exact base
theorem tOf5T  (base : World) (s : ByteArray) (y m d : Int) (hr : Tot base 30 [.string s] (.tuple #[dateC y m d, .bool true])) (hd : dateOk y m d) : Tot base 46 [datC 5 s] (.tuple #[dateV y m d, .bool true]) := tot_lit (rulesQ_ok hr) (tOf5T_hk base s y m d hr hd) (by kernel_rfl) (by repeat' (first | refine List.forall_mem_cons.2 ⟨?_, ?_⟩ | exact (fun _ h => nomatch h) | assumption | kernel_rfl))
theorem tOf5F_tree (K : Value → Nat → Prop) (base : World) (s : ByteArray) (y m d : Int) :
 funcK (env (rulesQ 30 [.string s] (.tuple #[dateC y m d, .bool false]))) 30 46 [datC 5 s] tabs Tryz.prog.globals.size (fun u _ _ mw => K u mw) =
 (Same [Value.string s] [Value.string s] ∧ K (Value.tuple (Array.mk [Value.agg (Array.mk [Value.nilIface]), Value.bool false])) 11) := by kernel_rfl
theorem tOf5F_hk (base : World) (s : ByteArray) (y m d : Int) (hr : Tot base 30 [.string s] (.tuple #[dateC y m d, .bool false])) : ReckE (env (rulesQ 30 [.string s] (.tuple #[dateC y m d, .bool false]))) 30 46 [datC 5 s] ((· = .tuple #[nullV, .bool false])) := by
  constructor
  rw [tOf5F_tree fun u mw => u = .tuple #[nullV, .bool false] ∧ Tryz.prog.globals.size ≤ mw]
  exact ⟨rfl, rfl, Nat.le_of_ble_eq_true (by kernel_rfl)⟩
  exact base
theorem tOf5F  (base : World) (s : ByteArray) (y m d : Int) (hr : Tot base 30 [.string s] (.tuple #[dateC y m d, .bool false])) : Tot base 46 [datC 5 s] (.tuple #[nullV, .bool false]) := tot_lit (rulesQ_ok hr) (tOf5F_hk base s y m d hr) (by kernel_rfl) (by repeat' (first | refine List.forall_mem_cons.2 ⟨?_, ?_⟩ | exact (fun _ h => nomatch h) | assumption | kernel_rfl))
theorem tPl5_tree (K : Value → Nat → Prop) (base : World) (x : ByteArray) (y m d : Int) :
 funcK (env (rulesQ 50 [dateC y m d] (.string x))) 30 55 [dateV y m d] tabs Tryz.prog.globals.size (fun u _ _ mw => K u mw) =
 (Same [Value.agg (Array.mk [Value.int .i64 y, Value.int .i64 m, Value.int .i64 d])] [Value.agg (Array.mk [Value.int .i64 y, Value.int .i64 m, Value.int .i64 d])] ∧ K (Value.tuple (Array.mk [Value.agg (Array.mk [Value.int .i64 (Int.ofNat 5), Value.string x, Value.slice none 0 0, Value.slice none 0 0, Value.bool false, Value.bool false]), Value.bool true])) 11) := by kernel_rfl
theorem tPl5_hk (base : World) (x : ByteArray) (y m d : Int) (hr : Tot base 50 [dateC y m d] (.string x)) : ReckE (env (rulesQ 50 [dateC y m d] (.string x))) 30 55 [dateV y m d] ((· = .tuple #[datC 5 x, .bool true])) := by
  constructor
  rw [tPl5_tree fun u mw => u = .tuple #[datC 5 x, .bool true] ∧ Tryz.prog.globals.size ≤ mw]
  exact ⟨rfl, rfl, Nat.le_of_ble_eq_true (by kernel_rfl)⟩
  exact base
theorem tPl5  (base : World) (x : ByteArray) (y m d : Int) (hr : Tot base 50 [dateC y m d] (.string x)) : Tot base 55 [dateV y m d] (.tuple #[datC 5 x, .bool true]) := tot_lit (rulesQ_ok hr) (tPl5_hk base x y m d hr) (by kernel_rfl) (by repeat' (first | refine List.forall_mem_cons.2 ⟨?_, ?_⟩ | exact (fun _ h => nomatch h) | assumption | kernel_rfl))
theorem tOf6T_tree (K : Value → Nat → Prop) (base : World) (s : ByteArray) (t o : Int) (z : Bool) :
 funcK (env (rulesQ 32 [.string s] (.tuple #[timeC t z o, .bool true]))) 30 46 [datC 6 s] tabs Tryz.prog.globals.size (fun u _ _ mw => K u mw) =
 (Same [Value.string s] [Value.string s] ∧ timeOk t z o ∧ K (Value.tuple (Array.mk [Value.agg (Array.mk [Value.iface 157 (Value.agg (Array.mk [Value.int .i64 t, Value.bool z, Value.int .i64 o]))]), Value.bool true])) 11) := by kernel_rfl
theorem tOf6T_hk (base : World) (s : ByteArray) (t o : Int) (z : Bool) (hr : Tot base 32 [.string s] (.tuple #[timeC t z o, .bool true])) (hd : timeOk t z o) : ReckE (env (rulesQ 32 [.string s] (.tuple #[timeC t z o, .bool true]))) 30 46 [datC 6 s] ((· = .tuple #[timeV t z o, .bool true])) := by
  constructor
  rw [tOf6T_tree fun u mw => u = .tuple #[timeV t z o, .bool true] ∧ Tryz.prog.globals.size ≤ mw]
  exact ⟨rfl, hd, rfl, Nat.le_of_ble_eq_true (by kernel_rfl)⟩
  exact base
theorem tOf6T  (base : World) (s : ByteArray) (t o : Int) (z : Bool) (hr : Tot base 32 [.string s] (.tuple #[timeC t z o, .bool true])) (hd : timeOk t z o) : Tot base 46 [datC 6 s] (.tuple #[timeV t z o, .bool true]) := tot_lit (rulesQ_ok hr) (tOf6T_hk base s t o z hr hd) (by kernel_rfl) (by repeat' (first | refine List.forall_mem_cons.2 ⟨?_, ?_⟩ | exact (fun _ h => nomatch h) | assumption | kernel_rfl))
theorem tOf6F_tree (K : Value → Nat → Prop) (base : World) (s : ByteArray) (t o : Int) (z : Bool) :
 funcK (env (rulesQ 32 [.string s] (.tuple #[timeC t z o, .bool false]))) 30 46 [datC 6 s] tabs Tryz.prog.globals.size (fun u _ _ mw => K u mw) =
 (Same [Value.string s] [Value.string s] ∧ K (Value.tuple (Array.mk [Value.agg (Array.mk [Value.nilIface]), Value.bool false])) 11) := by kernel_rfl
theorem tOf6F_hk (base : World) (s : ByteArray) (t o : Int) (z : Bool) (hr : Tot base 32 [.string s] (.tuple #[timeC t z o, .bool false])) : ReckE (env (rulesQ 32 [.string s] (.tuple #[timeC t z o, .bool false]))) 30 46 [datC 6 s] ((· = .tuple #[nullV, .bool false])) := by
  constructor
  rw [tOf6F_tree fun u mw => u = .tuple #[nullV, .bool false] ∧ Tryz.prog.globals.size ≤ mw]
  exact ⟨rfl, rfl, Nat.le_of_ble_eq_true (by kernel_rfl)⟩
  exact base
theorem tOf6F  (base : World) (s : ByteArray) (t o : Int) (z : Bool) (hr : Tot base 32 [.string s] (.tuple #[timeC t z o, .bool false])) : Tot base 46 [datC 6 s] (.tuple #[nullV, .bool false]) := tot_lit (rulesQ_ok hr) (tOf6F_hk base s t o z hr) (by kernel_rfl) (by repeat' (first | refine List.forall_mem_cons.2 ⟨?_, ?_⟩ | exact (fun _ h => nomatch h) | assumption | kernel_rfl))
theorem tPl6_tree (K : Value → Nat → Prop) (base : World) (x : ByteArray) (t o : Int) (z : Bool) :
 funcK (env (rulesQ 51 [timeC t z o] (.string x))) 30 55 [timeV t z o] tabs Tryz.prog.globals.size (fun u _ _ mw => K u mw) =
 (Same [Value.agg (Array.mk [Value.int .i64 t, Value.bool z, Value.int .i64 o])] [Value.agg (Array.mk [Value.int .i64 t, Value.bool z, Value.int .i64 o])] ∧ K (Value.tuple (Array.mk [Value.agg (Array.mk [Value.int .i64 (Int.ofNat 6), Value.string x, Value.slice none 0 0, Value.slice none 0 0, Value.bool false, Value.bool false]), Value.bool true])) 11) := by kernel_rfl
theorem tPl6_hk (base : World) (x : ByteArray) (t o : Int) (z : Bool) (hr : Tot base 51 [timeC t z o] (.string x)) : ReckE (env (rulesQ 51 [timeC t z o] (.string x))) 30 55 [timeV t z o] ((· = .tuple #[datC 6 x, .bool true])) := by
  constructor
  rw [tPl6_tree fun u mw => u = .tuple #[datC 6 x, .bool true] ∧ Tryz.prog.globals.size ≤ mw]
  exact ⟨rfl, rfl, Nat.le_of_ble_eq_true (by kernel_rfl)⟩
  exact base
theorem tPl6  (base : World) (x : ByteArray) (t o : Int) (z : Bool) (hr : Tot base 51 [timeC t z o] (.string x)) : Tot base 55 [timeV t z o] (.tuple #[datC 6 x, .bool true]) := tot_lit (rulesQ_ok hr) (tPl6_hk base x t o z hr) (by kernel_rfl) (by repeat' (first | refine List.forall_mem_cons.2 ⟨?_, ?_⟩ | exact (fun _ h => nomatch h) | assumption | kernel_rfl))
theorem tOf7T_tree (K : Value → Nat → Prop) (base : World) (s : ByteArray) (y m d t o : Int) (z : Bool) :
 funcK (env (rulesQ 31 [.string s] (.tuple #[momentC y m d t z o, .bool true]))) 30 46 [datC 7 s] tabs Tryz.prog.globals.size (fun u _ _ mw => K u mw) =
 (Same [Value.string s] [Value.string s] ∧ dateOk y m d ∧ timeOk t z o ∧ K (Value.tuple (Array.mk [Value.agg (Array.mk [Value.iface 156 (Value.agg (Array.mk [Value.int .i64 y, Value.int .i64 m, Value.int .i64 d, Value.int .i64 t, Value.bool z, Value.int .i64 o]))]), Value.bool true])) 11) := by kernel_rfl
theorem tOf7T_hk (base : World) (s : ByteArray) (y m d t o : Int) (z : Bool) (hr : Tot base 31 [.string s] (.tuple #[momentC y m d t z o, .bool true])) (hd : dateOk y m d) (ht : timeOk t z o) : ReckE (env (rulesQ 31 [.string s] (.tuple #[momentC y m d t z o, .bool true]))) 30 46 [datC 7 s] ((· = .tuple #[momentV y m d t z o, .bool true])) := by
  constructor
  rw [tOf7T_tree fun u mw => u = .tuple #[momentV y m d t z o, .bool true] ∧ Tryz.prog.globals.size ≤ mw]
  exact ⟨rfl, hd, ht, rfl, Nat.le_of_ble_eq_true (by kernel_rfl)⟩
  exact base
theorem tOf7T  (base : World) (s : ByteArray) (y m d t o : Int) (z : Bool) (hr : Tot base 31 [.string s] (.tuple #[momentC y m d t z o, .bool true])) (hd : dateOk y m d) (ht : timeOk t z o) : Tot base 46 [datC 7 s] (.tuple #[momentV y m d t z o, .bool true]) := tot_lit (rulesQ_ok hr) (tOf7T_hk base s y m d t o z hr hd ht) (by kernel_rfl) (by repeat' (first | refine List.forall_mem_cons.2 ⟨?_, ?_⟩ | exact (fun _ h => nomatch h) | assumption | kernel_rfl))
theorem tOf7F_tree (K : Value → Nat → Prop) (base : World) (s : ByteArray) (y m d t o : Int) (z : Bool) :
 funcK (env (rulesQ 31 [.string s] (.tuple #[momentC y m d t z o, .bool false]))) 30 46 [datC 7 s] tabs Tryz.prog.globals.size (fun u _ _ mw => K u mw) =
 (Same [Value.string s] [Value.string s] ∧ K (Value.tuple (Array.mk [Value.agg (Array.mk [Value.nilIface]), Value.bool false])) 11) := by kernel_rfl
theorem tOf7F_hk (base : World) (s : ByteArray) (y m d t o : Int) (z : Bool) (hr : Tot base 31 [.string s] (.tuple #[momentC y m d t z o, .bool false])) : ReckE (env (rulesQ 31 [.string s] (.tuple #[momentC y m d t z o, .bool false]))) 30 46 [datC 7 s] ((· = .tuple #[nullV, .bool false])) := by
  constructor
  rw [tOf7F_tree fun u mw => u = .tuple #[nullV, .bool false] ∧ Tryz.prog.globals.size ≤ mw]
  exact ⟨rfl, rfl, Nat.le_of_ble_eq_true (by kernel_rfl)⟩
  exact base
theorem tOf7F  (base : World) (s : ByteArray) (y m d t o : Int) (z : Bool) (hr : Tot base 31 [.string s] (.tuple #[momentC y m d t z o, .bool false])) : Tot base 46 [datC 7 s] (.tuple #[nullV, .bool false]) := tot_lit (rulesQ_ok hr) (tOf7F_hk base s y m d t o z hr) (by kernel_rfl) (by repeat' (first | refine List.forall_mem_cons.2 ⟨?_, ?_⟩ | exact (fun _ h => nomatch h) | assumption | kernel_rfl))
theorem tPl7_tree (K : Value → Nat → Prop) (base : World) (x : ByteArray) (y m d t o : Int) (z : Bool) :
 funcK (env (rulesQ 52 [momentC y m d t z o] (.string x))) 30 55 [momentV y m d t z o] tabs Tryz.prog.globals.size (fun u _ _ mw => K u mw) =
 (Same [Value.agg (Array.mk [Value.int .i64 y, Value.int .i64 m, Value.int .i64 d, Value.int .i64 t, Value.bool z, Value.int .i64 o])] [Value.agg (Array.mk [Value.int .i64 y, Value.int .i64 m, Value.int .i64 d, Value.int .i64 t, Value.bool z, Value.int .i64 o])] ∧ K (Value.tuple (Array.mk [Value.agg (Array.mk [Value.int .i64 (Int.ofNat 7), Value.string x, Value.slice none 0 0, Value.slice none 0 0, Value.bool false, Value.bool false]), Value.bool true])) 11) := by kernel_rfl
theorem tPl7_hk (base : World) (x : ByteArray) (y m d t o : Int) (z : Bool) (hr : Tot base 52 [momentC y m d t z o] (.string x)) : ReckE (env (rulesQ 52 [momentC y m d t z o] (.string x))) 30 55 [momentV y m d t z o] ((· = .tuple #[datC 7 x, .bool true])) := by
  constructor
  rw [tPl7_tree fun u mw => u = .tuple #[datC 7 x, .bool true] ∧ Tryz.prog.globals.size ≤ mw]
  exact ⟨rfl, rfl, Nat.le_of_ble_eq_true (by kernel_rfl)⟩
  exact base
theorem tPl7  (base : World) (x : ByteArray) (y m d t o : Int) (z : Bool) (hr : Tot base 52 [momentC y m d t z o] (.string x)) : Tot base 55 [momentV y m d t z o] (.tuple #[datC 7 x, .bool true]) := tot_lit (rulesQ_ok hr) (tPl7_hk base x y m d t o z hr) (by kernel_rfl) (by repeat' (first | refine List.forall_mem_cons.2 ⟨?_, ?_⟩ | exact (fun _ h => nomatch h) | assumption | kernel_rfl))
theorem tOf8T_tree (K : Value → Nat → Prop) (base : World) (s : ByteArray) (n : Int) :
 funcK (env (rulesQ 33 [.string s] (.tuple #[.int .i64 n, .bool true]))) 30 46 [datC 8 s] tabs Tryz.prog.globals.size (fun u _ _ mw => K u mw) =
 (Same [Value.string s] [Value.string s] ∧ bsel (decide (n ≥ (-9007199254740992 : Int))) (bsel (decide (n ≤ (9007199254740992 : Int))) (K (Value.tuple (Array.mk [Value.agg (Array.mk [Value.iface 125 (Value.int .i64 n)]), Value.bool true])) 11) (K (Value.tuple (Array.mk [Value.agg (Array.mk [Value.nilIface]), Value.bool false])) 11)) (K (Value.tuple (Array.mk [Value.agg (Array.mk [Value.nilIface]), Value.bool false])) 11)) := by kernel_rfl
theorem tOf8T_hk (base : World) (s : ByteArray) (n : Int) (hr : Tot base 33 [.string s] (.tuple #[.int .i64 n, .bool true])) (h1 : -9007199254740992 ≤ n) (h2 : n ≤ 9007199254740992) : ReckE (env (rulesQ 33 [.string s] (.tuple #[.int .i64 n, .bool true]))) 30 46 [datC 8 s] ((· = .tuple #[daysV n, .bool true])) := by
  constructor
  rw [tOf8T_tree fun u mw => u = .tuple #[daysV n, .bool true] ∧ Tryz.prog.globals.size ≤ mw]
  exact ⟨rfl, bsel_of (fun _ => bsel_of (fun _ => ⟨rfl, Nat.le_of_ble_eq_true (by kernel_rfl)⟩) (fun h => absurd (of_decide_eq_false h) (by omega))) (fun h => absurd (of_decide_eq_false h) (by omega))⟩
  exact base
theorem tOf8T  (base : World) (s : ByteArray) (n : Int) (hr : Tot base 33 [.string s] (.tuple #[.int .i64 n, .bool true])) (h1 : -9007199254740992 ≤ n) (h2 : n ≤ 9007199254740992) : Tot base 46 [datC 8 s] (.tuple #[daysV n, .bool true]) := tot_lit (rulesQ_ok hr) (tOf8T_hk base s n hr h1 h2) (by kernel_rfl) (by repeat' (first | refine List.forall_mem_cons.2 ⟨?_, ?_⟩ | exact (fun _ h => nomatch h) | assumption | kernel_rfl))
theorem tOf8F_tree (K : Value → Nat → Prop) (base : World) (s : ByteArray) (n : Int) :
 funcK (env (rulesQ 33 [.string s] (.tuple #[.int .i64 n, .bool false]))) 30 46 [datC 8 s] tabs Tryz.prog.globals.size (fun u _ _ mw => K u mw) =
 (Same [Value.string s] [Value.string s] ∧ K (Value.tuple (Array.mk [Value.agg (Array.mk [Value.nilIface]), Value.bool false])) 11) := by kernel_rfl
theorem tOf8F_hk (base : World) (s : ByteArray) (n : Int) (hr : Tot base 33 [.string s] (.tuple #[.int .i64 n, .bool false])) : ReckE (env (rulesQ 33 [.string s] (.tuple #[.int .i64 n, .bool false]))) 30 46 [datC 8 s] ((· = .tuple #[nullV, .bool false])) := by
  constructor
  rw [tOf8F_tree fun u mw => u = .tuple #[nullV, .bool false] ∧ Tryz.prog.globals.size ≤ mw]
  exact ⟨rfl, rfl, Nat.le_of_ble_eq_true (by kernel_rfl)⟩
  exact base
theorem tOf8F  (base : World) (s : ByteArray) (n : Int) (hr : Tot base 33 [.string s] (.tuple #[.int .i64 n, .bool false])) : Tot base 46 [datC 8 s] (.tuple #[nullV, .bool false]) := tot_lit (rulesQ_ok hr) (tOf8F_hk base s n hr) (by kernel_rfl) (by repeat' (first | refine List.forall_mem_cons.2 ⟨?_, ?_⟩ | exact (fun _ h => nomatch h) | assumption | kernel_rfl))
theorem tPl8_tree (K : Value → Nat → Prop) (base : World) (x : ByteArray) (n : Int) :
 funcK (env (rulesQ 53 [.int .i64 n] (.string x))) 30 55 [daysV n] tabs Tryz.prog.globals.size (fun u _ _ mw => K u mw) =
 (Same [Value.int .i64 n] [Value.int .i64 n] ∧ K (Value.tuple (Array.mk [Value.agg (Array.mk [Value.int .i64 (Int.ofNat 8), Value.string x, Value.slice none 0 0, Value.slice none 0 0, Value.bool false, Value.bool false]), Value.bool true])) 11) := by kernel_rfl
theorem tPl8_hk (base : World) (x : ByteArray) (n : Int) (hr : Tot base 53 [.int .i64 n] (.string x)) : ReckE (env (rulesQ 53 [.int .i64 n] (.string x))) 30 55 [daysV n] ((· = .tuple #[datC 8 x, .bool true])) := by
  constructor
  rw [tPl8_tree fun u mw => u = .tuple #[datC 8 x, .bool true] ∧ Tryz.prog.globals.size ≤ mw]
  exact ⟨rfl, rfl, Nat.le_of_ble_eq_true (by kernel_rfl)⟩
  exact base
theorem tPl8  (base : World) (x : ByteArray) (n : Int) (hr : Tot base 53 [.int .i64 n] (.string x)) : Tot base 55 [daysV n] (.tuple #[datC 8 x, .bool true]) := tot_lit (rulesQ_ok hr) (tPl8_hk base x n hr) (by kernel_rfl) (by repeat' (first | refine List.forall_mem_cons.2 ⟨?_, ?_⟩ | exact (fun _ h => nomatch h) | assumption | kernel_rfl))
theorem tOf9T_tree (K : Value → Nat → Prop) (base : World) (s : ByteArray) (n : Int) :
 funcK (env (rulesQ 34 [.string s] (.tuple #[.int .i64 n, .bool true]))) 30 46 [datC 9 s] tabs Tryz.prog.globals.size (fun u _ _ mw => K u mw) =
 (Same [Value.string s] [Value.string s] ∧ bsel (decide (n ≥ (-9007199254740992 : Int))) (bsel (decide (n ≤ (9007199254740992 : Int))) (K (Value.tuple (Array.mk [Value.agg (Array.mk [Value.iface 126 (Value.int .i64 n)]), Value.bool true])) 11) (K (Value.tuple (Array.mk [Value.agg (Array.mk [Value.nilIface]), Value.bool false])) 11)) (K (Value.tuple (Array.mk [Value.agg (Array.mk [Value.nilIface]), Value.bool false])) 11)) := by kernel_rfl
theorem tOf9T_hk (base : World) (s : ByteArray) (n : Int) (hr : Tot base 34 [.string s] (.tuple #[.int .i64 n, .bool true])) (h1 : -9007199254740992 ≤ n) (h2 : n ≤ 9007199254740992) : ReckE (env (rulesQ 34 [.string s] (.tuple #[.int .i64 n, .bool true]))) 30 46 [datC 9 s] ((· = .tuple #[monthsV n, .bool true])) := by
  constructor
  rw [tOf9T_tree fun u mw => u = .tuple #[monthsV n, .bool true] ∧ Tryz.prog.globals.size ≤ mw]
  exact ⟨rfl, bsel_of (fun _ => bsel_of (fun _ => ⟨rfl, Nat.le_of_ble_eq_true (by kernel_rfl)⟩) (fun h => absurd (of_decide_eq_false h) (by omega))) (fun h => absurd (of_decide_eq_false h) (by omega))⟩
  exact base
theorem tOf9T  (base : World) (s : ByteArray) (n : Int) (hr : Tot base 34 [.string s] (.tuple #[.int .i64 n, .bool true])) (h1 : -9007199254740992 ≤ n) (h2 : n ≤ 9007199254740992) : Tot base 46 [datC 9 s] (.tuple #[monthsV n, .bool true]) := tot_lit (rulesQ_ok hr) (tOf9T_hk base s n hr h1 h2) (by kernel_rfl) (by repeat' (first | refine List.forall_mem_cons.2 ⟨?_, ?_⟩ | exact (fun _ h => nomatch h) | assumption | kernel_rfl))
theorem tOf9F_tree (K : Value → Nat → Prop) (base : World) (s : ByteArray) (n : Int) :
 funcK (env (rulesQ 34 [.string s] (.tuple #[.int .i64 n, .bool false]))) 30 46 [datC 9 s] tabs Tryz.prog.globals.size (fun u _ _ mw => K u mw) =
 (Same [Value.string s] [Value.string s] ∧ K (Value.tuple (Array.mk [Value.agg (Array.mk [Value.nilIface]), Value.bool false])) 11) := by kernel_rfl
theorem tOf9F_hk (base : World) (s : ByteArray) (n : Int) (hr : Tot base 34 [.string s] (.tuple #[.int .i64 n, .bool false])) : ReckE (env (rulesQ 34 [.string s] (.tuple #[.int .i64 n, .bool false]))) 30 46 [datC 9 s] ((· = .tuple #[nullV, .bool false])) := by
  constructor
  rw [tOf9F_tree fun u mw => u = .tuple #[nullV, .bool false] ∧ Tryz.prog.globals.size ≤ mw]
  exact ⟨rfl, rfl, Nat.le_of_ble_eq_true (by kernel_rfl)⟩
  exact base
theorem tOf9F  (base : World) (s : ByteArray) (n : Int) (hr : Tot base 34 [.string s] (.tuple #[.int .i64 n, .bool false])) : Tot base 46 [datC 9 s] (.tuple #[nullV, .bool false]) := tot_lit (rulesQ_ok hr) (tOf9F_hk base s n hr) (by kernel_rfl) (by repeat' (first | refine List.forall_mem_cons.2 ⟨?_, ?_⟩ | exact (fun _ h => nomatch h) | assumption | kernel_rfl))
theorem tPl9_tree (K : Value → Nat → Prop) (base : World) (x : ByteArray) (n : Int) :
 funcK (env (rulesQ 54 [.int .i64 n] (.string x))) 30 55 [monthsV n] tabs Tryz.prog.globals.size (fun u _ _ mw => K u mw) =
 (Same [Value.int .i64 n] [Value.int .i64 n] ∧ K (Value.tuple (Array.mk [Value.agg (Array.mk [Value.int .i64 (Int.ofNat 9), Value.string x, Value.slice none 0 0, Value.slice none 0 0, Value.bool false, Value.bool false]), Value.bool true])) 11) := by kernel_rfl
theorem tPl9_hk (base : World) (x : ByteArray) (n : Int) (hr : Tot base 54 [.int .i64 n] (.string x)) : ReckE (env (rulesQ 54 [.int .i64 n] (.string x))) 30 55 [monthsV n] ((· = .tuple #[datC 9 x, .bool true])) := by
  constructor
  rw [tPl9_tree fun u mw => u = .tuple #[datC 9 x, .bool true] ∧ Tryz.prog.globals.size ≤ mw]
  exact ⟨rfl, rfl, Nat.le_of_ble_eq_true (by kernel_rfl)⟩
  exact base
theorem tPl9  (base : World) (x : ByteArray) (n : Int) (hr : Tot base 54 [.int .i64 n] (.string x)) : Tot base 55 [monthsV n] (.tuple #[datC 9 x, .bool true]) := tot_lit (rulesQ_ok hr) (tPl9_hk base x n hr) (by kernel_rfl) (by repeat' (first | refine List.forall_mem_cons.2 ⟨?_, ?_⟩ | exact (fun _ h => nomatch h) | assumption | kernel_rfl))
theorem tOf3T_tree (K : Value → Nat → Prop) (base : World) (s : ByteArray) (n : Bool) (a b e : Int) :
 funcK (env ((89, ruleAt [decC n a b e] (.bool true)) :: rulesQ 47 [.string s] (.tuple #[decC n a b e, .bool true]))) 30 46 [datC 3 s] tabs Tryz.prog.globals.size (fun u _ _ mw => K u mw) =
 (Same [Value.string s] [Value.string s] ∧ Same [Value.agg (Array.mk [Value.bool n, Value.int .u64 a, Value.int .u64 b, Value.int .i64 e])] [Value.agg (Array.mk [Value.bool n, Value.int .u64 a, Value.int .u64 b, Value.int .i64 e])] ∧ K (Value.tuple (Array.mk [Value.agg (Array.mk [Value.iface 123 (Value.agg (Array.mk [Value.bool n, Value.int .u64 a, Value.int .u64 b, Value.int .i64 e]))]), Value.bool true])) 11) := by kernel_rfl
theorem tOf3T_hk (base : World) (s : ByteArray) (n : Bool) (a b e : Int) (hr : Tot base 47 [.string s] (.tuple #[decC n a b e, .bool true])) (hm : Tot base 89 [decC n a b e] (.bool true)) : ReckE (env ((89, ruleAt [decC n a b e] (.bool true)) :: rulesQ 47 [.string s] (.tuple #[decC n a b e, .bool true]))) 30 46 [datC 3 s] ((· = .tuple #[numV n a b e, .bool true])) := by
  constructor
  rw [tOf3T_tree fun u mw => u = .tuple #[numV n a b e, .bool true] ∧ Tryz.prog.globals.size ≤ mw]
  exact ⟨rfl, rfl, rfl, Nat.le_of_ble_eq_true (by kernel_rfl)⟩
  exact base
theorem tOf3T  (base : World) (s : ByteArray) (n : Bool) (a b e : Int) (hr : Tot base 47 [.string s] (.tuple #[decC n a b e, .bool true])) (hm : Tot base 89 [decC n a b e] (.bool true)) : Tot base 46 [datC 3 s] (.tuple #[numV n a b e, .bool true]) := tot_lit (List.forall_mem_cons.2 ⟨ruleOk_at hm, rulesQ_ok hr⟩) (tOf3T_hk base s n a b e hr hm) (by kernel_rfl) (by repeat' (first | refine List.forall_mem_cons.2 ⟨?_, ?_⟩ | exact (fun _ h => nomatch h) | assumption | kernel_rfl))
theorem tOf3F_tree (K : Value → Nat → Prop) (base : World) (s : ByteArray) (n : Bool) (a b e : Int) :
 funcK (env (rulesQ 47 [.string s] (.tuple #[decC n a b e, .bool false]))) 30 46 [datC 3 s] tabs Tryz.prog.globals.size (fun u _ _ mw => K u mw) =
 (Same [Value.string s] [Value.string s] ∧ K (Value.tuple (Array.mk [Value.agg (Array.mk [Value.nilIface]), Value.bool false])) 11) := by kernel_rfl
theorem tOf3F_hk (base : World) (s : ByteArray) (n : Bool) (a b e : Int) (hr : Tot base 47 [.string s] (.tuple #[decC n a b e, .bool false])) : ReckE (env (rulesQ 47 [.string s] (.tuple #[decC n a b e, .bool false]))) 30 46 [datC 3 s] ((· = .tuple #[nullV, .bool false])) := by
  constructor
  rw [tOf3F_tree fun u mw => u = .tuple #[nullV, .bool false] ∧ Tryz.prog.globals.size ≤ mw]
  exact ⟨rfl, rfl, Nat.le_of_ble_eq_true (by kernel_rfl)⟩
  exact base
theorem tOf3F  (base : World) (s : ByteArray) (n : Bool) (a b e : Int) (hr : Tot base 47 [.string s] (.tuple #[decC n a b e, .bool false])) : Tot base 46 [datC 3 s] (.tuple #[nullV, .bool false]) := tot_lit (rulesQ_ok hr) (tOf3F_hk base s n a b e hr) (by kernel_rfl) (by repeat' (first | refine List.forall_mem_cons.2 ⟨?_, ?_⟩ | exact (fun _ h => nomatch h) | assumption | kernel_rfl))
theorem tPl3_tree (K : Value → Nat → Prop) (base : World) (x : ByteArray) (n : Bool) (a b e : Int) :
 funcK (env (rulesQ 48 [decC n a b e] (.string x))) 30 55 [numV n a b e] tabs Tryz.prog.globals.size (fun u _ _ mw => K u mw) =
 (Same [Value.agg (Array.mk [Value.bool n, Value.int .u64 a, Value.int .u64 b, Value.int .i64 e])] [Value.agg (Array.mk [Value.bool n, Value.int .u64 a, Value.int .u64 b, Value.int .i64 e])] ∧ K (Value.tuple (Array.mk [Value.agg (Array.mk [Value.int .i64 (Int.ofNat 3), Value.string x, Value.slice none 0 0, Value.slice none 0 0, Value.bool false, Value.bool false]), Value.bool true])) 11) := by kernel_rfl
theorem tPl3_hk (base : World) (x : ByteArray) (n : Bool) (a b e : Int) (hr : Tot base 48 [decC n a b e] (.string x)) : ReckE (env (rulesQ 48 [decC n a b e] (.string x))) 30 55 [numV n a b e] ((· = .tuple #[datC 3 x, .bool true])) := by
  constructor
  rw [tPl3_tree fun u mw => u = .tuple #[datC 3 x, .bool true] ∧ Tryz.prog.globals.size ≤ mw]
  exact ⟨rfl, rfl, Nat.le_of_ble_eq_true (by kernel_rfl)⟩
  exact base
theorem tPl3  (base : World) (x : ByteArray) (n : Bool) (a b e : Int) (hr : Tot base 48 [decC n a b e] (.string x)) : Tot base 55 [numV n a b e] (.tuple #[datC 3 x, .bool true]) := tot_lit (rulesQ_ok hr) (tPl3_hk base x n a b e hr) (by kernel_rfl) (by repeat' (first | refine List.forall_mem_cons.2 ⟨?_, ?_⟩ | exact (fun _ h => nomatch h) | assumption | kernel_rfl))
theorem tOf4T_tree (K : Value → Nat → Prop) (base : World) (s : ByteArray) :
 funcK (env (rulesQ 49 [.string s] (.bool true))) 30 46 [datC 4 s] tabs Tryz.prog.globals.size (fun u _ _ mw => K u mw) =
 (Same [Value.string s] [Value.string s] ∧ bsel (decide ((↑(strLen s) : Int) > (1048576 : Int))) (K (Value.tuple (Array.mk [Value.agg (Array.mk [Value.nilIface]), Value.bool false])) 11) (K (Value.tuple (Array.mk [Value.agg (Array.mk [Value.iface 140 (Value.string s)]), Value.bool true])) 11)) := by kernel_rfl
theorem tOf4T_hk (base : World) (s : ByteArray) (hr : Tot base 49 [.string s] (.bool true)) (hs : strLen s ≤ 1048576) : ReckE (env (rulesQ 49 [.string s] (.bool true))) 30 46 [datC 4 s] ((· = .tuple #[textV s, .bool true])) := by
  constructor
  rw [tOf4T_tree fun u mw => u = .tuple #[textV s, .bool true] ∧ Tryz.prog.globals.size ≤ mw]
  exact ⟨rfl, bsel_of (fun h => absurd (of_decide_eq_true h) (by omega)) (fun _ => ⟨rfl, Nat.le_of_ble_eq_true (by kernel_rfl)⟩)⟩
  exact base
theorem tOf4T  (base : World) (s : ByteArray) (hr : Tot base 49 [.string s] (.bool true)) (hs : strLen s ≤ 1048576) : Tot base 46 [datC 4 s] (.tuple #[textV s, .bool true]) := tot_lit (rulesQ_ok hr) (tOf4T_hk base s hr hs) (by kernel_rfl) (by repeat' (first | refine List.forall_mem_cons.2 ⟨?_, ?_⟩ | exact (fun _ h => nomatch h) | assumption | kernel_rfl))
theorem tOf4F_tree (K : Value → Nat → Prop) (base : World) (s : ByteArray) :
 funcK (env (rulesQ 49 [.string s] (.bool false))) 30 46 [datC 4 s] tabs Tryz.prog.globals.size (fun u _ _ mw => K u mw) =
 (Same [Value.string s] [Value.string s] ∧ K (Value.tuple (Array.mk [Value.agg (Array.mk [Value.nilIface]), Value.bool false])) 11) := by kernel_rfl
theorem tOf4F_hk (base : World) (s : ByteArray) (hr : Tot base 49 [.string s] (.bool false)) : ReckE (env (rulesQ 49 [.string s] (.bool false))) 30 46 [datC 4 s] ((· = .tuple #[nullV, .bool false])) := by
  constructor
  rw [tOf4F_tree fun u mw => u = .tuple #[nullV, .bool false] ∧ Tryz.prog.globals.size ≤ mw]
  exact ⟨rfl, rfl, Nat.le_of_ble_eq_true (by kernel_rfl)⟩
  exact base
theorem tOf4F  (base : World) (s : ByteArray) (hr : Tot base 49 [.string s] (.bool false)) : Tot base 46 [datC 4 s] (.tuple #[nullV, .bool false]) := tot_lit (rulesQ_ok hr) (tOf4F_hk base s hr) (by kernel_rfl) (by repeat' (first | refine List.forall_mem_cons.2 ⟨?_, ?_⟩ | exact (fun _ h => nomatch h) | assumption | kernel_rfl))
theorem tPl4_tree (K : Value → Nat → Prop) (base : World) (s : ByteArray) :
 funcK (env (rules4)) 30 55 [textV s] tabs Tryz.prog.globals.size (fun u _ _ mw => K u mw) =
 (K (Value.tuple (Array.mk [Value.agg (Array.mk [Value.int .i64 (Int.ofNat 4), Value.string s, Value.slice none 0 0, Value.slice none 0 0, Value.bool false, Value.bool false]), Value.bool true])) 11) := by kernel_rfl
theorem tPl4_hk (base : World) (s : ByteArray)  : ReckE (env (rules4)) 30 55 [textV s] ((· = .tuple #[datC 4 s, .bool true])) := by
  constructor
  rw [tPl4_tree fun u mw => u = .tuple #[datC 4 s, .bool true] ∧ Tryz.prog.globals.size ≤ mw]
  exact ⟨rfl, Nat.le_of_ble_eq_true (by kernel_rfl)⟩
  exact base
theorem tPl4  (base : World) (s : ByteArray)  : Tot base 55 [textV s] (.tuple #[datC 4 s, .bool true]) := tot_lit (rules4_ok base) (tPl4_hk base s) (by kernel_rfl) (by repeat' (first | refine List.forall_mem_cons.2 ⟨?_, ?_⟩ | exact (fun _ h => nomatch h) | assumption | kernel_rfl))
theorem tOf1_tree (K : Value → Nat → Prop) (base : World) (s : ByteArray) :
 funcK (env (rules4)) 30 46 [datC 1 s] tabs Tryz.prog.globals.size (fun u _ _ mw => K u mw) =
 (bsel (strEq s (ByteArray.mk #[])) (K (Value.tuple (Array.mk [Value.agg (Array.mk [Value.nilIface]), Value.bool true])) 11) (K (Value.tuple (Array.mk [Value.agg (Array.mk [Value.nilIface]), Value.bool false])) 11)) := by kernel_rfl
theorem tOf1_hk (base : World) (s : ByteArray)  : ReckE (env (rules4)) 30 46 [datC 1 s] ((· = .tuple #[nullV, .bool (strEq s ⟨#[]⟩)])) := by
  constructor
  rw [tOf1_tree fun u mw => u = .tuple #[nullV, .bool (strEq s ⟨#[]⟩)] ∧ Tryz.prog.globals.size ≤ mw]
  exact bsel_of (fun h => ⟨by rw [h]; rfl, Nat.le_of_ble_eq_true (by kernel_rfl)⟩) (fun h => ⟨by rw [h]; rfl, Nat.le_of_ble_eq_true (by kernel_rfl)⟩)
  exact base
theorem tOf1  (base : World) (s : ByteArray)  : Tot base 46 [datC 1 s] (.tuple #[nullV, .bool (strEq s ⟨#[]⟩)]) := tot_lit (rules4_ok base) (tOf1_hk base s) (by kernel_rfl) (by repeat' (first | refine List.forall_mem_cons.2 ⟨?_, ?_⟩ | exact (fun _ h => nomatch h) | assumption | kernel_rfl))
theorem tPl1_tree (K : Value → Nat → Prop) (base : World) :
 funcK (env (rules4)) 30 55 [nullV] tabs Tryz.prog.globals.size (fun u _ _ mw => K u mw) =
 (K (Value.tuple (Array.mk [Value.agg (Array.mk [Value.int .i64 (Int.ofNat 1), Value.string (ByteArray.mk #[]), Value.slice none 0 0, Value.slice none 0 0, Value.bool false, Value.bool false]), Value.bool true])) 11) := by kernel_rfl
theorem tPl1_hk (base : World)  : ReckE (env (rules4)) 30 55 [nullV] ((· = .tuple #[datC 1 ⟨#[]⟩, .bool true])) := by
  constructor
  rw [tPl1_tree fun u mw => u = .tuple #[datC 1 ⟨#[]⟩, .bool true] ∧ Tryz.prog.globals.size ≤ mw]
  exact ⟨rfl, Nat.le_of_ble_eq_true (by kernel_rfl)⟩
  exact base
theorem tPl1  (base : World)  : Tot base 55 [nullV] (.tuple #[datC 1 ⟨#[]⟩, .bool true]) := tot_lit (rules4_ok base) (tPl1_hk base) (by kernel_rfl) (by repeat' (first | refine List.forall_mem_cons.2 ⟨?_, ?_⟩ | exact (fun _ h => nomatch h) | assumption | kernel_rfl))
theorem tOf2T_tree (K : Value → Nat → Prop) (base : World) (s : ByteArray) :
 funcK (env (rules4)) 30 46 [datC 2 s] tabs Tryz.prog.globals.size (fun u _ _ mw => K u mw) =
 (bsel (strEq s (ByteArray.mk #[(116 : UInt8), (114 : UInt8), (117 : UInt8), (101 : UInt8)])) (bsel (strEq s (ByteArray.mk #[(116 : UInt8), (114 : UInt8), (117 : UInt8), (101 : UInt8)])) (K (Value.tuple (Array.mk [Value.agg (Array.mk [Value.iface 229 (Value.bool true)]), Value.bool true])) 11) (K (Value.tuple (Array.mk [Value.agg (Array.mk [Value.iface 229 (Value.bool false)]), Value.bool true])) 11)) (bsel (strEq s (ByteArray.mk #[(102 : UInt8), (97 : UInt8), (108 : UInt8), (115 : UInt8), (101 : UInt8)])) (bsel (strEq s (ByteArray.mk #[(116 : UInt8), (114 : UInt8), (117 : UInt8), (101 : UInt8)])) (K (Value.tuple (Array.mk [Value.agg (Array.mk [Value.iface 229 (Value.bool true)]), Value.bool true])) 11) (K (Value.tuple (Array.mk [Value.agg (Array.mk [Value.iface 229 (Value.bool false)]), Value.bool true])) 11)) (K (Value.tuple (Array.mk [Value.agg (Array.mk [Value.nilIface]), Value.bool false])) 11))) := by kernel_rfl
theorem tOf2T_hk (base : World) (s : ByteArray) (h1 : strEq s ⟨#[116, 114, 117, 101]⟩ = true) : ReckE (env (rules4)) 30 46 [datC 2 s] ((· = .tuple #[boolV true, .bool true])) := by
  constructor
  rw [tOf2T_tree fun u mw => u = .tuple #[boolV true, .bool true] ∧ Tryz.prog.globals.size ≤ mw]
  exact bsel_of (fun _ => bsel_of (fun _ => ⟨rfl, Nat.le_of_ble_eq_true (by kernel_rfl)⟩) (fun h => absurd (h1.symm.trans h) (by decide))) (fun h => absurd (h1.symm.trans h) (by decide))
  exact base
theorem tOf2T  (base : World) (s : ByteArray) (h1 : strEq s ⟨#[116, 114, 117, 101]⟩ = true) : Tot base 46 [datC 2 s] (.tuple #[boolV true, .bool true]) := tot_lit (rules4_ok base) (tOf2T_hk base s h1) (by kernel_rfl) (by repeat' (first | refine List.forall_mem_cons.2 ⟨?_, ?_⟩ | exact (fun _ h => nomatch h) | assumption | kernel_rfl))
theorem tOf2F_tree (K : Value → Nat → Prop) (base : World) (s : ByteArray) :
 funcK (env (rules4)) 30 46 [datC 2 s] tabs Tryz.prog.globals.size (fun u _ _ mw => K u mw) =
 (bsel (strEq s (ByteArray.mk #[(116 : UInt8), (114 : UInt8), (117 : UInt8), (101 : UInt8)])) (bsel (strEq s (ByteArray.mk #[(116 : UInt8), (114 : UInt8), (117 : UInt8), (101 : UInt8)])) (K (Value.tuple (Array.mk [Value.agg (Array.mk [Value.iface 229 (Value.bool true)]), Value.bool true])) 11) (K (Value.tuple (Array.mk [Value.agg (Array.mk [Value.iface 229 (Value.bool false)]), Value.bool true])) 11)) (bsel (strEq s (ByteArray.mk #[(102 : UInt8), (97 : UInt8), (108 : UInt8), (115 : UInt8), (101 : UInt8)])) (bsel (strEq s (ByteArray.mk #[(116 : UInt8), (114 : UInt8), (117 : UInt8), (101 : UInt8)])) (K (Value.tuple (Array.mk [Value.agg (Array.mk [Value.iface 229 (Value.bool true)]), Value.bool true])) 11) (K (Value.tuple (Array.mk [Value.agg (Array.mk [Value.iface 229 (Value.bool false)]), Value.bool true])) 11)) (K (Value.tuple (Array.mk [Value.agg (Array.mk [Value.nilIface]), Value.bool false])) 11))) := by kernel_rfl
theorem tOf2F_hk (base : World) (s : ByteArray) (h1 : strEq s ⟨#[116, 114, 117, 101]⟩ = false) (h2 : strEq s ⟨#[102, 97, 108, 115, 101]⟩ = true) : ReckE (env (rules4)) 30 46 [datC 2 s] ((· = .tuple #[boolV false, .bool true])) := by
  constructor
  rw [tOf2F_tree fun u mw => u = .tuple #[boolV false, .bool true] ∧ Tryz.prog.globals.size ≤ mw]
  exact bsel_of (fun h => absurd (h1.symm.trans h) (by decide)) (fun _ => bsel_of (fun _ => bsel_of (fun h => absurd (h1.symm.trans h) (by decide)) (fun _ => ⟨rfl, Nat.le_of_ble_eq_true (by kernel_rfl)⟩)) (fun h => absurd (h2.symm.trans h) (by decide)))
  exact base
theorem tOf2F  (base : World) (s : ByteArray) (h1 : strEq s ⟨#[116, 114, 117, 101]⟩ = false) (h2 : strEq s ⟨#[102, 97, 108, 115, 101]⟩ = true) : Tot base 46 [datC 2 s] (.tuple #[boolV false, .bool true]) := tot_lit (rules4_ok base) (tOf2F_hk base s h1 h2) (by kernel_rfl) (by repeat' (first | refine List.forall_mem_cons.2 ⟨?_, ?_⟩ | exact (fun _ h => nomatch h) | assumption | kernel_rfl))
theorem tOf2N_tree (K : Value → Nat → Prop) (base : World) (s : ByteArray) :
 funcK (env (rules4)) 30 46 [datC 2 s] tabs Tryz.prog.globals.size (fun u _ _ mw => K u mw) =
 (bsel (strEq s (ByteArray.mk #[(116 : UInt8), (114 : UInt8), (117 : UInt8), (101 : UInt8)])) (bsel (strEq s (ByteArray.mk #[(116 : UInt8), (114 : UInt8), (117 : UInt8), (101 : UInt8)])) (K (Value.tuple (Array.mk [Value.agg (Array.mk [Value.iface 229 (Value.bool true)]), Value.bool true])) 11) (K (Value.tuple (Array.mk [Value.agg (Array.mk [Value.iface 229 (Value.bool false)]), Value.bool true])) 11)) (bsel (strEq s (ByteArray.mk #[(102 : UInt8), (97 : UInt8), (108 : UInt8), (115 : UInt8), (101 : UInt8)])) (bsel (strEq s (ByteArray.mk #[(116 : UInt8), (114 : UInt8), (117 : UInt8), (101 : UInt8)])) (K (Value.tuple (Array.mk [Value.agg (Array.mk [Value.iface 229 (Value.bool true)]), Value.bool true])) 11) (K (Value.tuple (Array.mk [Value.agg (Array.mk [Value.iface 229 (Value.bool false)]), Value.bool true])) 11)) (K (Value.tuple (Array.mk [Value.agg (Array.mk [Value.nilIface]), Value.bool false])) 11))) := by kernel_rfl
theorem tOf2N_hk (base : World) (s : ByteArray) (h1 : strEq s ⟨#[116, 114, 117, 101]⟩ = false) (h2 : strEq s ⟨#[102, 97, 108, 115, 101]⟩ = false) : ReckE (env (rules4)) 30 46 [datC 2 s] ((· = .tuple #[nullV, .bool false])) := by
  constructor
  rw [tOf2N_tree fun u mw => u = .tuple #[nullV, .bool false] ∧ Tryz.prog.globals.size ≤ mw]
  exact bsel_of (fun h => absurd (h1.symm.trans h) (by decide)) (fun _ => bsel_of (fun h => absurd (h2.symm.trans h) (by decide)) (fun _ => ⟨rfl, Nat.le_of_ble_eq_true (by kernel_rfl)⟩))
  exact base
theorem tOf2N  (base : World) (s : ByteArray) (h1 : strEq s ⟨#[116, 114, 117, 101]⟩ = false) (h2 : strEq s ⟨#[102, 97, 108, 115, 101]⟩ = false) : Tot base 46 [datC 2 s] (.tuple #[nullV, .bool false]) := tot_lit (rules4_ok base) (tOf2N_hk base s h1 h2) (by kernel_rfl) (by repeat' (first | refine List.forall_mem_cons.2 ⟨?_, ?_⟩ | exact (fun _ h => nomatch h) | assumption | kernel_rfl))
theorem tPl2T_tree (K : Value → Nat → Prop) (base : World) :
 funcK (env (rules4)) 30 55 [boolV true] tabs Tryz.prog.globals.size (fun u _ _ mw => K u mw) =
 (K (Value.tuple (Array.mk [Value.agg (Array.mk [Value.int .i64 (Int.ofNat 2), Value.string (ByteArray.mk #[(116 : UInt8), (114 : UInt8), (117 : UInt8), (101 : UInt8)]), Value.slice none 0 0, Value.slice none 0 0, Value.bool false, Value.bool false]), Value.bool true])) 11) := by kernel_rfl
theorem tPl2T_hk (base : World)  : ReckE (env (rules4)) 30 55 [boolV true] ((· = .tuple #[datC 2 ⟨#[116, 114, 117, 101]⟩, .bool true])) := by
  constructor
  rw [tPl2T_tree fun u mw => u = .tuple #[datC 2 ⟨#[116, 114, 117, 101]⟩, .bool true] ∧ Tryz.prog.globals.size ≤ mw]
  exact ⟨rfl, Nat.le_of_ble_eq_true (by kernel_rfl)⟩
  exact base
theorem tPl2T  (base : World)  : Tot base 55 [boolV true] (.tuple #[datC 2 ⟨#[116, 114, 117, 101]⟩, .bool true]) := tot_lit (rules4_ok base) (tPl2T_hk base) (by kernel_rfl) (by repeat' (first | refine List.forall_mem_cons.2 ⟨?_, ?_⟩ | exact (fun _ h => nomatch h) | assumption | kernel_rfl))
theorem tPl2F_tree (K : Value → Nat → Prop) (base : World) :
 funcK (env (rules4)) 30 55 [boolV false] tabs Tryz.prog.globals.size (fun u _ _ mw => K u mw) =
 (K (Value.tuple (Array.mk [Value.agg (Array.mk [Value.int .i64 (Int.ofNat 2), Value.string (ByteArray.mk #[(102 : UInt8), (97 : UInt8), (108 : UInt8), (115 : UInt8), (101 : UInt8)]), Value.slice none 0 0, Value.slice none 0 0, Value.bool false, Value.bool false]), Value.bool true])) 11) := by kernel_rfl
theorem tPl2F_hk (base : World)  : ReckE (env (rules4)) 30 55 [boolV false] ((· = .tuple #[datC 2 ⟨#[102, 97, 108, 115, 101]⟩, .bool true])) := by
  constructor
  rw [tPl2F_tree fun u mw => u = .tuple #[datC 2 ⟨#[102, 97, 108, 115, 101]⟩, .bool true] ∧ Tryz.prog.globals.size ≤ mw]
  exact ⟨rfl, Nat.le_of_ble_eq_true (by kernel_rfl)⟩
  exact base
theorem tPl2F  (base : World)  : Tot base 55 [boolV false] (.tuple #[datC 2 ⟨#[102, 97, 108, 115, 101]⟩, .bool true]) := tot_lit (rules4_ok base) (tPl2F_hk base) (by kernel_rfl) (by repeat' (first | refine List.forall_mem_cons.2 ⟨?_, ?_⟩ | exact (fun _ h => nomatch h) | assumption | kernel_rfl))
theorem tOf10T_tree (K : Value → Nat → Prop) (base : World) (s : ByteArray) :
 funcK (env (rules4)) 30 46 [datC 10 s] tabs Tryz.prog.globals.size (fun u _ _ mw => K u mw) =
 (bsel (!strEq s (ByteArray.mk #[])) (K (Value.tuple (Array.mk [Value.agg (Array.mk [Value.nilIface]), Value.bool false])) 11) (K (Value.tuple (Array.mk [Value.agg (Array.mk [Value.iface 181 (Value.slice none 0 0)]), Value.bool true])) 11)) := by kernel_rfl
theorem tOf10T_hk (base : World) (s : ByteArray) (h1 : strEq s ⟨#[]⟩ = true) : ReckE (env (rules4)) 30 46 [datC 10 s] ((· = .tuple #[listV0, .bool true])) := by
  constructor
  rw [tOf10T_tree fun u mw => u = .tuple #[listV0, .bool true] ∧ Tryz.prog.globals.size ≤ mw]
  exact bsel_of (fun h => by rw [h1] at h; cases h) (fun _ => ⟨rfl, Nat.le_of_ble_eq_true (by kernel_rfl)⟩)
  exact base
theorem tOf10T  (base : World) (s : ByteArray) (h1 : strEq s ⟨#[]⟩ = true) : Tot base 46 [datC 10 s] (.tuple #[listV0, .bool true]) := tot_lit (rules4_ok base) (tOf10T_hk base s h1) (by kernel_rfl) (by repeat' (first | refine List.forall_mem_cons.2 ⟨?_, ?_⟩ | exact (fun _ h => nomatch h) | assumption | kernel_rfl))
theorem tOf10F_tree (K : Value → Nat → Prop) (base : World) (s : ByteArray) :
 funcK (env (rules4)) 30 46 [datC 10 s] tabs Tryz.prog.globals.size (fun u _ _ mw => K u mw) =
 (bsel (!strEq s (ByteArray.mk #[])) (K (Value.tuple (Array.mk [Value.agg (Array.mk [Value.nilIface]), Value.bool false])) 11) (K (Value.tuple (Array.mk [Value.agg (Array.mk [Value.iface 181 (Value.slice none 0 0)]), Value.bool true])) 11)) := by kernel_rfl
theorem tOf10F_hk (base : World) (s : ByteArray) (h1 : strEq s ⟨#[]⟩ = false) : ReckE (env (rules4)) 30 46 [datC 10 s] ((· = .tuple #[nullV, .bool false])) := by
  constructor
  rw [tOf10F_tree fun u mw => u = .tuple #[nullV, .bool false] ∧ Tryz.prog.globals.size ≤ mw]
  exact bsel_of (fun _ => ⟨rfl, Nat.le_of_ble_eq_true (by kernel_rfl)⟩) (fun h => by rw [h1] at h; cases h)
  exact base
theorem tOf10F  (base : World) (s : ByteArray) (h1 : strEq s ⟨#[]⟩ = false) : Tot base 46 [datC 10 s] (.tuple #[nullV, .bool false]) := tot_lit (rules4_ok base) (tOf10F_hk base s h1) (by kernel_rfl) (by repeat' (first | refine List.forall_mem_cons.2 ⟨?_, ?_⟩ | exact (fun _ h => nomatch h) | assumption | kernel_rfl))
theorem tPl10_tree (K : Value → Nat → Prop) (base : World) :
 funcK (env (rules4)) 30 55 [listV0] tabs Tryz.prog.globals.size (fun u _ _ mw => K u mw) =
 (K (Value.tuple (Array.mk [Value.agg (Array.mk [Value.int .i64 (Int.ofNat 10), Value.string (ByteArray.mk #[]), Value.slice none 0 0, Value.slice none 0 0, Value.bool false, Value.bool false]), Value.bool true])) 11) := by kernel_rfl
theorem tPl10_hk (base : World)  : ReckE (env (rules4)) 30 55 [listV0] ((· = .tuple #[datC 10 ⟨#[]⟩, .bool true])) := by
  constructor
  rw [tPl10_tree fun u mw => u = .tuple #[datC 10 ⟨#[]⟩, .bool true] ∧ Tryz.prog.globals.size ≤ mw]
  exact ⟨rfl, Nat.le_of_ble_eq_true (by kernel_rfl)⟩
  exact base
theorem tPl10  (base : World)  : Tot base 55 [listV0] (.tuple #[datC 10 ⟨#[]⟩, .bool true]) := tot_lit (rules4_ok base) (tPl10_hk base) (by kernel_rfl) (by repeat' (first | refine List.forall_mem_cons.2 ⟨?_, ?_⟩ | exact (fun _ h => nomatch h) | assumption | kernel_rfl))
theorem tOf11T_tree (K : Value → Nat → Prop) (base : World) (s : ByteArray) :
 funcK (env (rules4)) 30 46 [datC 11 s] tabs Tryz.prog.globals.size (fun u _ _ mw => K u mw) =
 (bsel (!strEq s (ByteArray.mk #[])) (K (Value.tuple (Array.mk [Value.agg (Array.mk [Value.nilIface]), Value.bool false])) 11) (K (Value.tuple (Array.mk [Value.agg (Array.mk [Value.iface 187 (Value.agg (Array.mk [Value.slice none 0 0, Value.slice none 0 0]))]), Value.bool true])) 11)) := by kernel_rfl
theorem tOf11T_hk (base : World) (s : ByteArray) (h1 : strEq s ⟨#[]⟩ = true) : ReckE (env (rules4)) 30 46 [datC 11 s] ((· = .tuple #[contextV0, .bool true])) := by
  constructor
  rw [tOf11T_tree fun u mw => u = .tuple #[contextV0, .bool true] ∧ Tryz.prog.globals.size ≤ mw]
  exact bsel_of (fun h => by rw [h1] at h; cases h) (fun _ => ⟨rfl, Nat.le_of_ble_eq_true (by kernel_rfl)⟩)
  exact base
theorem tOf11T  (base : World) (s : ByteArray) (h1 : strEq s ⟨#[]⟩ = true) : Tot base 46 [datC 11 s] (.tuple #[contextV0, .bool true]) := tot_lit (rules4_ok base) (tOf11T_hk base s h1) (by kernel_rfl) (by repeat' (first | refine List.forall_mem_cons.2 ⟨?_, ?_⟩ | exact (fun _ h => nomatch h) | assumption | kernel_rfl))
theorem tOf11F_tree (K : Value → Nat → Prop) (base : World) (s : ByteArray) :
 funcK (env (rules4)) 30 46 [datC 11 s] tabs Tryz.prog.globals.size (fun u _ _ mw => K u mw) =
 (bsel (!strEq s (ByteArray.mk #[])) (K (Value.tuple (Array.mk [Value.agg (Array.mk [Value.nilIface]), Value.bool false])) 11) (K (Value.tuple (Array.mk [Value.agg (Array.mk [Value.iface 187 (Value.agg (Array.mk [Value.slice none 0 0, Value.slice none 0 0]))]), Value.bool true])) 11)) := by kernel_rfl
theorem tOf11F_hk (base : World) (s : ByteArray) (h1 : strEq s ⟨#[]⟩ = false) : ReckE (env (rules4)) 30 46 [datC 11 s] ((· = .tuple #[nullV, .bool false])) := by
  constructor
  rw [tOf11F_tree fun u mw => u = .tuple #[nullV, .bool false] ∧ Tryz.prog.globals.size ≤ mw]
  exact bsel_of (fun _ => ⟨rfl, Nat.le_of_ble_eq_true (by kernel_rfl)⟩) (fun h => by rw [h1] at h; cases h)
  exact base
theorem tOf11F  (base : World) (s : ByteArray) (h1 : strEq s ⟨#[]⟩ = false) : Tot base 46 [datC 11 s] (.tuple #[nullV, .bool false]) := tot_lit (rules4_ok base) (tOf11F_hk base s h1) (by kernel_rfl) (by repeat' (first | refine List.forall_mem_cons.2 ⟨?_, ?_⟩ | exact (fun _ h => nomatch h) | assumption | kernel_rfl))
theorem tPl11_tree (K : Value → Nat → Prop) (base : World) :
 funcK (env (rules4)) 30 55 [contextV0] tabs Tryz.prog.globals.size (fun u _ _ mw => K u mw) =
 (K (Value.tuple (Array.mk [Value.agg (Array.mk [Value.int .i64 (Int.ofNat 11), Value.string (ByteArray.mk #[]), Value.slice none 0 0, Value.slice none 0 0, Value.bool false, Value.bool false]), Value.bool true])) 11) := by kernel_rfl
theorem tPl11_hk (base : World)  : ReckE (env (rules4)) 30 55 [contextV0] ((· = .tuple #[datC 11 ⟨#[]⟩, .bool true])) := by
  constructor
  rw [tPl11_tree fun u mw => u = .tuple #[datC 11 ⟨#[]⟩, .bool true] ∧ Tryz.prog.globals.size ≤ mw]
  exact ⟨rfl, Nat.le_of_ble_eq_true (by kernel_rfl)⟩
  exact base
theorem tPl11  (base : World)  : Tot base 55 [contextV0] (.tuple #[datC 11 ⟨#[]⟩, .bool true]) := tot_lit (rules4_ok base) (tPl11_hk base) (by kernel_rfl) (by repeat' (first | refine List.forall_mem_cons.2 ⟨?_, ?_⟩ | exact (fun _ h => nomatch h) | assumption | kernel_rfl))
theorem tOf12_tree (K : Value → Nat → Prop) (base : World) (s : ByteArray) :
 funcK (env (rules4)) 30 46 [datC 12 s] tabs Tryz.prog.globals.size (fun u _ _ mw => K u mw) =
 (bsel (!strEq s (ByteArray.mk #[])) (K (Value.tuple (Array.mk [Value.agg (Array.mk [Value.nilIface]), Value.bool false])) 11) (K (Value.tuple (Array.mk [Value.agg (Array.mk [Value.nilIface]), Value.bool false])) 11)) := by kernel_rfl
theorem tOf12_hk (base : World) (s : ByteArray)  : ReckE (env (rules4)) 30 46 [datC 12 s] ((· = .tuple #[nullV, .bool false])) := by
  constructor
  rw [tOf12_tree fun u mw => u = .tuple #[nullV, .bool false] ∧ Tryz.prog.globals.size ≤ mw]
  exact bsel_of (fun _ => ⟨rfl, Nat.le_of_ble_eq_true (by kernel_rfl)⟩) (fun _ => ⟨rfl, Nat.le_of_ble_eq_true (by kernel_rfl)⟩)
  exact base
theorem tOf12  (base : World) (s : ByteArray)  : Tot base 46 [datC 12 s] (.tuple #[nullV, .bool false]) := tot_lit (rules4_ok base) (tOf12_hk base s) (by kernel_rfl) (by repeat' (first | refine List.forall_mem_cons.2 ⟨?_, ?_⟩ | exact (fun _ h => nomatch h) | assumption | kernel_rfl))
theorem tOf13_tree (K : Value → Nat → Prop) (base : World) (s : ByteArray) :
 funcK (env (rules4)) 30 46 [datC 13 s] tabs Tryz.prog.globals.size (fun u _ _ mw => K u mw) =
 (K (Value.tuple (Array.mk [Value.agg (Array.mk [Value.nilIface]), Value.bool false])) 11) := by kernel_rfl
theorem tOf13_hk (base : World) (s : ByteArray)  : ReckE (env (rules4)) 30 46 [datC 13 s] ((· = .tuple #[nullV, .bool false])) := by
  constructor
  rw [tOf13_tree fun u mw => u = .tuple #[nullV, .bool false] ∧ Tryz.prog.globals.size ≤ mw]
  exact ⟨rfl, Nat.le_of_ble_eq_true (by kernel_rfl)⟩
  exact base
theorem tOf13  (base : World) (s : ByteArray)  : Tot base 46 [datC 13 s] (.tuple #[nullV, .bool false]) := tot_lit (rules4_ok base) (tOf13_hk base s) (by kernel_rfl) (by repeat' (first | refine List.forall_mem_cons.2 ⟨?_, ?_⟩ | exact (fun _ h => nomatch h) | assumption | kernel_rfl))
theorem tOf14_tree (K : Value → Nat → Prop) (base : World) (s : ByteArray) :
 funcK (env (rules4)) 30 46 [datC 14 s] tabs Tryz.prog.globals.size (fun u _ _ mw => K u mw) =
 (K (Value.tuple (Array.mk [Value.agg (Array.mk [Value.nilIface]), Value.bool false])) 11) := by kernel_rfl
theorem tOf14_hk (base : World) (s : ByteArray)  : ReckE (env (rules4)) 30 46 [datC 14 s] ((· = .tuple #[nullV, .bool false])) := by
  constructor
  rw [tOf14_tree fun u mw => u = .tuple #[nullV, .bool false] ∧ Tryz.prog.globals.size ≤ mw]
  exact ⟨rfl, Nat.le_of_ble_eq_true (by kernel_rfl)⟩
  exact base
theorem tOf14  (base : World) (s : ByteArray)  : Tot base 46 [datC 14 s] (.tuple #[nullV, .bool false]) := tot_lit (rules4_ok base) (tOf14_hk base s) (by kernel_rfl) (by repeat' (first | refine List.forall_mem_cons.2 ⟨?_, ?_⟩ | exact (fun _ h => nomatch h) | assumption | kernel_rfl))
theorem tOf15_tree (K : Value → Nat → Prop) (base : World) (s : ByteArray) :
 funcK (env (rules4)) 30 46 [datC 15 s] tabs Tryz.prog.globals.size (fun u _ _ mw => K u mw) =
 (K (Value.tuple (Array.mk [Value.agg (Array.mk [Value.nilIface]), Value.bool false])) 11) := by kernel_rfl
theorem tOf15_hk (base : World) (s : ByteArray)  : ReckE (env (rules4)) 30 46 [datC 15 s] ((· = .tuple #[nullV, .bool false])) := by
  constructor
  rw [tOf15_tree fun u mw => u = .tuple #[nullV, .bool false] ∧ Tryz.prog.globals.size ≤ mw]
  exact ⟨rfl, Nat.le_of_ble_eq_true (by kernel_rfl)⟩
  exact base
theorem tOf15  (base : World) (s : ByteArray)  : Tot base 46 [datC 15 s] (.tuple #[nullV, .bool false]) := tot_lit (rules4_ok base) (tOf15_hk base s) (by kernel_rfl) (by repeat' (first | refine List.forall_mem_cons.2 ⟨?_, ?_⟩ | exact (fun _ h => nomatch h) | assumption | kernel_rfl))
theorem tOf16_tree (K : Value → Nat → Prop) (base : World) (s : ByteArray) :
 funcK (env (rules4)) 30 46 [datC 16 s] tabs Tryz.prog.globals.size (fun u _ _ mw => K u mw) =
 (K (Value.tuple (Array.mk [Value.agg (Array.mk [Value.nilIface]), Value.bool false])) 11) := by kernel_rfl
theorem tOf16_hk (base : World) (s : ByteArray)  : ReckE (env (rules4)) 30 46 [datC 16 s] ((· = .tuple #[nullV, .bool false])) := by
  constructor
  rw [tOf16_tree fun u mw => u = .tuple #[nullV, .bool false] ∧ Tryz.prog.globals.size ≤ mw]
  exact ⟨rfl, Nat.le_of_ble_eq_true (by kernel_rfl)⟩
  exact base
theorem tOf16  (base : World) (s : ByteArray)  : Tot base 46 [datC 16 s] (.tuple #[nullV, .bool false]) := tot_lit (rules4_ok base) (tOf16_hk base s) (by kernel_rfl) (by repeat' (first | refine List.forall_mem_cons.2 ⟨?_, ?_⟩ | exact (fun _ h => nomatch h) | assumption | kernel_rfl))
end Go.Proofs.YtdbjbmdaekgbhaaGreatDoor
