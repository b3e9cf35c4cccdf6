/-
  Values and what they tell: of a number, a day, a time, a moment, a text, lengths of time.
-/
import Derived.Test.YtdbjbmdaekgbhaaGreatDoorVa
namespace Go.Proofs.YtdbjbmdaekgbhaaGreatDoor
open Go Go.Pe Go.RowKit

/-! Words that hand on what is come to. -/
def ruleXDec (base : World) (f : FuncId) : Rule := rule1 fun args => some fun K => ∃ b h l e k, Tot base f args (.tuple #[decC b h l e, .bool k]) ∧ K (.tuple #[decC b h l e, .bool k])
def ruleXDate (base : World) (f : FuncId) : Rule := rule1 fun args => some fun K => ∃ y m d k, Tot base f args (.tuple #[dateC y m d, .bool k]) ∧ K (.tuple #[dateC y m d, .bool k])
def ruleXTime (base : World) (f : FuncId) : Rule := rule1 fun args => some fun K => ∃ s z o k, Tot base f args (.tuple #[timeC s z o, .bool k]) ∧ K (.tuple #[timeC s z o, .bool k])
def ruleXMom (base : World) (f : FuncId) : Rule := rule1 fun args => some fun K => ∃ y m d s z o k, Tot base f args (.tuple #[momentC y m d s z o, .bool k]) ∧ K (.tuple #[momentC y m d s z o, .bool k])
def ruleXStr (base : World) (f : FuncId) : Rule := rule1 fun args => some fun K => ∃ s k, Tot base f args (.tuple #[.string s, .bool k]) ∧ K (.tuple #[.string s, .bool k])
def ruleXInt (base : World) (f : FuncId) : Rule := rule1 fun args => some fun K => ∃ n k, Tot base f args (.tuple #[.int .i64 n, .bool k]) ∧ K (.tuple #[.int .i64 n, .bool k])
def ruleXBB (base : World) (f : FuncId) : Rule := rule1 fun args => some fun K => ∃ b k, Tot base f args (.tuple #[.bool b, .bool k]) ∧ K (.tuple #[.bool b, .bool k])
def ruleXB (base : World) (f : FuncId) : Rule := rule1 fun args => some fun K => ∃ b, Tot base f args (.bool b) ∧ K (.bool b)
section
variable {base : World} {f : FuncId}
theorem xDec_ok : RuleOk Tryz.prog base f (ruleXDec base f) := ruleOk_of fun args T K hT hK => by
  cases hT
  obtain ⟨b, h, l, e, k, ht, hK⟩ := hK
  exact ⟨_, hK, ht⟩
theorem xDate_ok : RuleOk Tryz.prog base f (ruleXDate base f) := ruleOk_of fun args T K hT hK => by
  cases hT
  obtain ⟨y, m, d, k, ht, hK⟩ := hK
  exact ⟨_, hK, ht⟩
theorem xTime_ok : RuleOk Tryz.prog base f (ruleXTime base f) := ruleOk_of fun args T K hT hK => by
  cases hT
  obtain ⟨s, z, o, k, ht, hK⟩ := hK
  exact ⟨_, hK, ht⟩
theorem xMom_ok : RuleOk Tryz.prog base f (ruleXMom base f) := ruleOk_of fun args T K hT hK => by
  cases hT
  obtain ⟨y, m, d, s, z, o, k, ht, hK⟩ := hK
  exact ⟨_, hK, ht⟩
theorem xStr_ok : RuleOk Tryz.prog base f (ruleXStr base f) := ruleOk_of fun args T K hT hK => by
  cases hT
  obtain ⟨s, k, ht, hK⟩ := hK
  exact ⟨_, hK, ht⟩
theorem xInt_ok : RuleOk Tryz.prog base f (ruleXInt base f) := ruleOk_of fun args T K hT hK => by
  cases hT
  obtain ⟨s, k, ht, hK⟩ := hK
  exact ⟨_, hK, ht⟩
theorem xBB_ok : RuleOk Tryz.prog base f (ruleXBB base f) := ruleOk_of fun args T K hT hK => by
  cases hT
  obtain ⟨s, k, ht, hK⟩ := hK
  exact ⟨_, hK, ht⟩
theorem xB_ok : RuleOk Tryz.prog base f (ruleXB base f) := ruleOk_of fun args T K hT hK => by
  cases hT
  obtain ⟨k, ht, hK⟩ := hK
  exact ⟨_, hK, ht⟩
end

def isBoo (u : Value) : Prop := ∃ b, u = .bool b
theorem isBoo_pure : ∀ v, isBoo v → pureV 6 v = true := by
  rintro v ⟨_, rfl⟩; kernel_rfl
theorem decMay_hk_tree (K : Value → Nat → Prop) (b : Bool) (h l e : Int) :
    funcK (envC rules1) 30 89 [decC b h l e] tabs Tryz.prog.globals.size (fun u _ _ mw => K u mw) =
  (bsel (decide (h < (542101086242752 : Int)))
 (bsel (decide (e ≥ (-6176 : Int)))
 (bsel (decide (e ≤ (6111 : Int)))
 (bsel b
 (bsel (h == (0 : Int)) (bsel (l == (0 : Int)) (K (Value.bool Bool.false) (18446744073709551616 : Nat)) (K (Value.bool Bool.true) (18446744073709551616 : Nat)))
 (K (Value.bool Bool.true) (18446744073709551616 : Nat)))
 (K (Value.bool Bool.true) (18446744073709551616 : Nat)))
 (K (Value.bool Bool.false) (18446744073709551616 : Nat)))
 (K (Value.bool Bool.false) (18446744073709551616 : Nat)))
 (bsel (h == (542101086242752 : Int))
 (bsel (decide (l < (4003012203950112768 : Int)))
 (bsel (decide (e ≥ (-6176 : Int)))
 (bsel (decide (e ≤ (6111 : Int)))
 (bsel b
 (bsel (h == (0 : Int)) (bsel (l == (0 : Int)) (K (Value.bool Bool.false) (18446744073709551616 : Nat)) (K (Value.bool Bool.true) (18446744073709551616 : Nat)))
 (K (Value.bool Bool.true) (18446744073709551616 : Nat)))
 (K (Value.bool Bool.true) (18446744073709551616 : Nat)))
 (K (Value.bool Bool.false) (18446744073709551616 : Nat)))
 (K (Value.bool Bool.false) (18446744073709551616 : Nat)))
 (bsel (h == (542101086242752 : Int) && (l == (4003012203950112768 : Int) && Bool.true)) (K (Value.bool Bool.false) (18446744073709551616 : Nat))
 (K (Value.bool Bool.false) (18446744073709551616 : Nat))))
 (bsel (h == (542101086242752 : Int) && (l == (4003012203950112768 : Int) && Bool.true)) (K (Value.bool Bool.false) (18446744073709551616 : Nat))
 (K (Value.bool Bool.false) (18446744073709551616 : Nat))))) := by kernel_rfl
theorem decMay_hk (b : Bool) (h l e : Int)  : ReckE (envC rules1) 30 89 [decC b h l e] (isBoo) := by
  constructor
  rw [decMay_hk_tree fun u mw => (isBoo) u ∧ Tryz.prog.globals.size ≤ mw]
  repeat' (refine bsel_of (fun _ => ?_) (fun _ => ?_))
  all_goals exact ⟨⟨_, rfl⟩, Nat.le_of_ble_eq_true (by kernel_rfl)⟩
theorem decMay_ex (base : World) (b : Bool) (h l e : Int) : ∃ k, Tot base 89 [decC b h l e] (.bool k) := by
  obtain ⟨_, ⟨k, rfl⟩, ht⟩ := tot_ofE (base := base) (envC_ok (rules1_ok base)) envC_loops rfl (decMay_hk b h l e) isBoo_pure (pure1 (by kernel_rfl))
  exact ⟨k, ht⟩

def boolV (b : Bool) : Value := .agg ⟨[.iface 229 (.bool b)]⟩
def rulesY (f : Nat) (xs : List Value) (v : Value) : List (Nat × Rule) := (f, ruleAt xs v) :: rules1
theorem rulesY_ok {base : World} {f : Nat} {xs : List Value} {v : Value} (h : Tot base f xs v) : ∀ x ∈ rulesY f xs v, RuleOk Tryz.prog base x.1 x.2 := List.forall_mem_cons.2 ⟨ruleOk_at h, rules1_ok base⟩

theorem numT_tree (K : Value → Nat → Prop) (base : World) (b : Bool) (h l e : Int) :
    funcK (env (rulesY 89 [decC b h l e] (.bool true))) 30 12 [decC b h l e] tabs Tryz.prog.globals.size (fun u _ _ mw => K u mw) =
  (Same [Value.agg (Array.mk [Value.bool b, Value.int IntKind.u64 h, Value.int IntKind.u64 l, Value.int IntKind.i64 e])]
 [Value.agg (Array.mk [Value.bool b, Value.int IntKind.u64 h, Value.int IntKind.u64 l, Value.int IntKind.i64 e])] ∧
 K (Value.agg (Array.mk [Value.iface (123 : Nat) (Value.agg (Array.mk [Value.bool b, Value.int IntKind.u64 h, Value.int IntKind.u64 l, Value.int IntKind.i64 e]))]))
 (11 : Nat)) := by kernel_rfl
theorem numT_hk (base : World) (b : Bool) (h l e : Int) (hm : Tot base 89 [decC b h l e] (.bool true)) : ReckE (env (rulesY 89 [decC b h l e] (.bool true))) 30 12 [decC b h l e] ((· = numV b h l e)) := by
  constructor
  rw [numT_tree fun u mw => u = numV b h l e ∧ Tryz.prog.globals.size ≤ mw]
  repeat' (first
    | exact ⟨rfl, Nat.le_of_ble_eq_true (by kernel_rfl)⟩
    | exact rfl
    | assumption
    | refine And.intro ?_ ?_
    | refine bsel_of (fun _ => ?_) (fun _ => ?_)
    | intro _)
  all_goals (exfalso; first | contradiction | (simp_all; done) | (simp_all; omega))
theorem numT  (base : World) (b : Bool) (h l e : Int) (hm : Tot base 89 [decC b h l e] (.bool true)) : Tot base 12 [decC b h l e] (numV b h l e) := tot_lit (rulesY_ok hm) (numT_hk base b h l e hm) (by kernel_rfl) (by repeat' (first | refine List.forall_mem_cons.2 ⟨?_, ?_⟩ | exact (fun _ h => nomatch h) | assumption | kernel_rfl))
theorem numF_tree (K : Value → Nat → Prop) (base : World) (b : Bool) (h l e : Int) :
    funcK (env (rulesY 89 [decC b h l e] (.bool false))) 30 12 [decC b h l e] tabs Tryz.prog.globals.size (fun u _ _ mw => K u mw) =
  (Same [Value.agg (Array.mk [Value.bool b, Value.int IntKind.u64 h, Value.int IntKind.u64 l, Value.int IntKind.i64 e])]
 [Value.agg (Array.mk [Value.bool b, Value.int IntKind.u64 h, Value.int IntKind.u64 l, Value.int IntKind.i64 e])] ∧
 K (Value.agg (Array.mk [Value.nilIface])) (11 : Nat)) := by kernel_rfl
theorem numF_hk (base : World) (b : Bool) (h l e : Int) (hm : Tot base 89 [decC b h l e] (.bool false)) : ReckE (env (rulesY 89 [decC b h l e] (.bool false))) 30 12 [decC b h l e] ((· = nullV)) := by
  constructor
  rw [numF_tree fun u mw => u = nullV ∧ Tryz.prog.globals.size ≤ mw]
  repeat' (first
    | exact ⟨rfl, Nat.le_of_ble_eq_true (by kernel_rfl)⟩
    | exact rfl
    | assumption
    | refine And.intro ?_ ?_
    | refine bsel_of (fun _ => ?_) (fun _ => ?_)
    | intro _)
  all_goals (exfalso; first | contradiction | (simp_all; done) | (simp_all; omega))
theorem numF  (base : World) (b : Bool) (h l e : Int) (hm : Tot base 89 [decC b h l e] (.bool false)) : Tot base 12 [decC b h l e] (nullV) := tot_lit (rulesY_ok hm) (numF_hk base b h l e hm) (by kernel_rfl) (by repeat' (first | refine List.forall_mem_cons.2 ⟨?_, ?_⟩ | exact (fun _ h => nomatch h) | assumption | kernel_rfl))
theorem asNumT_tree (K : Value → Nat → Prop) (b : Bool) (h l e : Int) :
    funcK (env (rules1)) 30 104 [numV b h l e] tabs Tryz.prog.globals.size (fun u _ _ mw => K u mw) =
  (K (Value.tuple (Array.mk [Value.agg (Array.mk [Value.bool b, Value.int IntKind.u64 h, Value.int IntKind.u64 l, Value.int IntKind.i64 e]), Value.bool Bool.true]))
 (11 : Nat)) := by kernel_rfl
theorem asNumT_hk (b : Bool) (h l e : Int)  : ReckE (env (rules1)) 30 104 [numV b h l e] ((· = .tuple #[decC b h l e, .bool true])) := by
  constructor
  rw [asNumT_tree fun u mw => u = .tuple #[decC b h l e, .bool true] ∧ Tryz.prog.globals.size ≤ mw]
  repeat' (first
    | exact ⟨rfl, Nat.le_of_ble_eq_true (by kernel_rfl)⟩
    | exact rfl
    | assumption
    | refine And.intro ?_ ?_
    | refine bsel_of (fun _ => ?_) (fun _ => ?_)
    | intro _)
  all_goals (exfalso; first | contradiction | (simp_all; done) | (simp_all; omega))
theorem asNumT {base : World} (b : Bool) (h l e : Int)  : Tot base 104 [numV b h l e] (.tuple #[decC b h l e, .bool true]) := tot_lit (rules1_ok base) (asNumT_hk b h l e) (by kernel_rfl) (by repeat' (first | refine List.forall_mem_cons.2 ⟨?_, ?_⟩ | exact (fun _ h => nomatch h) | assumption | kernel_rfl))
theorem asNumF_tree (K : Value → Nat → Prop) :
    funcK (env (rules1)) 30 104 [nullV] tabs Tryz.prog.globals.size (fun u _ _ mw => K u mw) =
  (K
 (Value.tuple
 (Array.mk
 [Value.agg
 (Array.mk
 [Value.bool Bool.false, Value.int IntKind.u64 (Int.ofNat (0 : Nat)), Value.int IntKind.u64 (Int.ofNat (0 : Nat)), Value.int IntKind.i64 (Int.ofNat (0 : Nat))]),
 Value.bool Bool.false]))
 (11 : Nat)) := by kernel_rfl
theorem asNumF_hk   : ReckE (env (rules1)) 30 104 [nullV] ((· = .tuple #[decC false 0 0 0, .bool false])) := by
  constructor
  rw [asNumF_tree fun u mw => u = .tuple #[decC false 0 0 0, .bool false] ∧ Tryz.prog.globals.size ≤ mw]
  repeat' (first
    | exact ⟨rfl, Nat.le_of_ble_eq_true (by kernel_rfl)⟩
    | exact rfl
    | assumption
    | refine And.intro ?_ ?_
    | refine bsel_of (fun _ => ?_) (fun _ => ?_)
    | intro _)
  all_goals (exfalso; first | contradiction | (simp_all; done) | (simp_all; omega))
theorem asNumF {base : World}   : Tot base 104 [nullV] (.tuple #[decC false 0 0 0, .bool false]) := tot_lit (rules1_ok base) (asNumF_hk ) (by kernel_rfl) (by repeat' (first | refine List.forall_mem_cons.2 ⟨?_, ?_⟩ | exact (fun _ h => nomatch h) | assumption | kernel_rfl))
theorem asDateT_tree (K : Value → Nat → Prop) (y m d : Int) :
    funcK (env (rules1)) 30 174 [dateV y m d] tabs Tryz.prog.globals.size (fun u _ _ mw => K u mw) =
  (K (Value.tuple (Array.mk [Value.agg (Array.mk [Value.int IntKind.i64 y, Value.int IntKind.i64 m, Value.int IntKind.i64 d]), Value.bool Bool.true])) (11 : Nat)) := by kernel_rfl
theorem asDateT_hk (y m d : Int)  : ReckE (env (rules1)) 30 174 [dateV y m d] ((· = .tuple #[dateC y m d, .bool true])) := by
  constructor
  rw [asDateT_tree fun u mw => u = .tuple #[dateC y m d, .bool true] ∧ Tryz.prog.globals.size ≤ mw]
  repeat' (first
    | exact ⟨rfl, Nat.le_of_ble_eq_true (by kernel_rfl)⟩
    | exact rfl
    | assumption
    | refine And.intro ?_ ?_
    | refine bsel_of (fun _ => ?_) (fun _ => ?_)
    | intro _)
  all_goals (exfalso; first | contradiction | (simp_all; done) | (simp_all; omega))
theorem asDateT {base : World} (y m d : Int)  : Tot base 174 [dateV y m d] (.tuple #[dateC y m d, .bool true]) := tot_lit (rules1_ok base) (asDateT_hk y m d) (by kernel_rfl) (by repeat' (first | refine List.forall_mem_cons.2 ⟨?_, ?_⟩ | exact (fun _ h => nomatch h) | assumption | kernel_rfl))
theorem asDateF_tree (K : Value → Nat → Prop) :
    funcK (env (rules1)) 30 174 [nullV] tabs Tryz.prog.globals.size (fun u _ _ mw => K u mw) =
  (K
 (Value.tuple
 (Array.mk
 [Value.agg (Array.mk [Value.int IntKind.i64 (Int.ofNat (0 : Nat)), Value.int IntKind.i64 (Int.ofNat (0 : Nat)), Value.int IntKind.i64 (Int.ofNat (0 : Nat))]),
 Value.bool Bool.false]))
 (11 : Nat)) := by kernel_rfl
theorem asDateF_hk   : ReckE (env (rules1)) 30 174 [nullV] ((· = .tuple #[dateC 0 0 0, .bool false])) := by
  constructor
  rw [asDateF_tree fun u mw => u = .tuple #[dateC 0 0 0, .bool false] ∧ Tryz.prog.globals.size ≤ mw]
  repeat' (first
    | exact ⟨rfl, Nat.le_of_ble_eq_true (by kernel_rfl)⟩
    | exact rfl
    | assumption
    | refine And.intro ?_ ?_
    | refine bsel_of (fun _ => ?_) (fun _ => ?_)
    | intro _)
  all_goals (exfalso; first | contradiction | (simp_all; done) | (simp_all; omega))
theorem asDateF {base : World}   : Tot base 174 [nullV] (.tuple #[dateC 0 0 0, .bool false]) := tot_lit (rules1_ok base) (asDateF_hk ) (by kernel_rfl) (by repeat' (first | refine List.forall_mem_cons.2 ⟨?_, ?_⟩ | exact (fun _ h => nomatch h) | assumption | kernel_rfl))
theorem asTimeT_tree (K : Value → Nat → Prop) (s o : Int) (z : Bool) :
    funcK (env (rules1)) 30 124 [timeV s z o] tabs Tryz.prog.globals.size (fun u _ _ mw => K u mw) =
  (K (Value.tuple (Array.mk [Value.agg (Array.mk [Value.int IntKind.i64 s, Value.bool z, Value.int IntKind.i64 o]), Value.bool Bool.true])) (11 : Nat)) := by kernel_rfl
theorem asTimeT_hk (s o : Int) (z : Bool)  : ReckE (env (rules1)) 30 124 [timeV s z o] ((· = .tuple #[timeC s z o, .bool true])) := by
  constructor
  rw [asTimeT_tree fun u mw => u = .tuple #[timeC s z o, .bool true] ∧ Tryz.prog.globals.size ≤ mw]
  repeat' (first
    | exact ⟨rfl, Nat.le_of_ble_eq_true (by kernel_rfl)⟩
    | exact rfl
    | assumption
    | refine And.intro ?_ ?_
    | refine bsel_of (fun _ => ?_) (fun _ => ?_)
    | intro _)
  all_goals (exfalso; first | contradiction | (simp_all; done) | (simp_all; omega))
theorem asTimeT {base : World} (s o : Int) (z : Bool)  : Tot base 124 [timeV s z o] (.tuple #[timeC s z o, .bool true]) := tot_lit (rules1_ok base) (asTimeT_hk s o z) (by kernel_rfl) (by repeat' (first | refine List.forall_mem_cons.2 ⟨?_, ?_⟩ | exact (fun _ h => nomatch h) | assumption | kernel_rfl))
theorem asTimeF_tree (K : Value → Nat → Prop) :
    funcK (env (rules1)) 30 124 [nullV] tabs Tryz.prog.globals.size (fun u _ _ mw => K u mw) =
  (K
 (Value.tuple
 (Array.mk [Value.agg (Array.mk [Value.int IntKind.i64 (Int.ofNat (0 : Nat)), Value.bool Bool.false, Value.int IntKind.i64 (Int.ofNat (0 : Nat))]), Value.bool Bool.false]))
 (11 : Nat)) := by kernel_rfl
theorem asTimeF_hk   : ReckE (env (rules1)) 30 124 [nullV] ((· = .tuple #[timeC 0 false 0, .bool false])) := by
  constructor
  rw [asTimeF_tree fun u mw => u = .tuple #[timeC 0 false 0, .bool false] ∧ Tryz.prog.globals.size ≤ mw]
  repeat' (first
    | exact ⟨rfl, Nat.le_of_ble_eq_true (by kernel_rfl)⟩
    | exact rfl
    | assumption
    | refine And.intro ?_ ?_
    | refine bsel_of (fun _ => ?_) (fun _ => ?_)
    | intro _)
  all_goals (exfalso; first | contradiction | (simp_all; done) | (simp_all; omega))
theorem asTimeF {base : World}   : Tot base 124 [nullV] (.tuple #[timeC 0 false 0, .bool false]) := tot_lit (rules1_ok base) (asTimeF_hk ) (by kernel_rfl) (by repeat' (first | refine List.forall_mem_cons.2 ⟨?_, ?_⟩ | exact (fun _ h => nomatch h) | assumption | kernel_rfl))
theorem asMomT_tree (K : Value → Nat → Prop) (y m d s o : Int) (z : Bool) :
    funcK (env (rules1)) 30 173 [momentV y m d s z o] tabs Tryz.prog.globals.size (fun u _ _ mw => K u mw) =
  (K
 (Value.tuple
 (Array.mk
 [Value.agg
 (Array.mk [Value.int IntKind.i64 y, Value.int IntKind.i64 m, Value.int IntKind.i64 d, Value.int IntKind.i64 s, Value.bool z, Value.int IntKind.i64 o]),
 Value.bool Bool.true]))
 (11 : Nat)) := by kernel_rfl
theorem asMomT_hk (y m d s o : Int) (z : Bool)  : ReckE (env (rules1)) 30 173 [momentV y m d s z o] ((· = .tuple #[momentC y m d s z o, .bool true])) := by
  constructor
  rw [asMomT_tree fun u mw => u = .tuple #[momentC y m d s z o, .bool true] ∧ Tryz.prog.globals.size ≤ mw]
  repeat' (first
    | exact ⟨rfl, Nat.le_of_ble_eq_true (by kernel_rfl)⟩
    | exact rfl
    | assumption
    | refine And.intro ?_ ?_
    | refine bsel_of (fun _ => ?_) (fun _ => ?_)
    | intro _)
  all_goals (exfalso; first | contradiction | (simp_all; done) | (simp_all; omega))
theorem asMomT {base : World} (y m d s o : Int) (z : Bool)  : Tot base 173 [momentV y m d s z o] (.tuple #[momentC y m d s z o, .bool true]) := tot_lit (rules1_ok base) (asMomT_hk y m d s o z) (by kernel_rfl) (by repeat' (first | refine List.forall_mem_cons.2 ⟨?_, ?_⟩ | exact (fun _ h => nomatch h) | assumption | kernel_rfl))
theorem asMomF_tree (K : Value → Nat → Prop) :
    funcK (env (rules1)) 30 173 [nullV] tabs Tryz.prog.globals.size (fun u _ _ mw => K u mw) =
  (K
 (Value.tuple
 (Array.mk
 [Value.agg
 (Array.mk
 [Value.int IntKind.i64 (Int.ofNat (0 : Nat)), Value.int IntKind.i64 (Int.ofNat (0 : Nat)), Value.int IntKind.i64 (Int.ofNat (0 : Nat)),
 Value.int IntKind.i64 (Int.ofNat (0 : Nat)), Value.bool Bool.false, Value.int IntKind.i64 (Int.ofNat (0 : Nat))]),
 Value.bool Bool.false]))
 (11 : Nat)) := by kernel_rfl
theorem asMomF_hk   : ReckE (env (rules1)) 30 173 [nullV] ((· = .tuple #[momentC 0 0 0 0 false 0, .bool false])) := by
  constructor
  rw [asMomF_tree fun u mw => u = .tuple #[momentC 0 0 0 0 false 0, .bool false] ∧ Tryz.prog.globals.size ≤ mw]
  repeat' (first
    | exact ⟨rfl, Nat.le_of_ble_eq_true (by kernel_rfl)⟩
    | exact rfl
    | assumption
    | refine And.intro ?_ ?_
    | refine bsel_of (fun _ => ?_) (fun _ => ?_)
    | intro _)
  all_goals (exfalso; first | contradiction | (simp_all; done) | (simp_all; omega))
theorem asMomF {base : World}   : Tot base 173 [nullV] (.tuple #[momentC 0 0 0 0 false 0, .bool false]) := tot_lit (rules1_ok base) (asMomF_hk ) (by kernel_rfl) (by repeat' (first | refine List.forall_mem_cons.2 ⟨?_, ?_⟩ | exact (fun _ h => nomatch h) | assumption | kernel_rfl))
theorem asTextT_tree (K : Value → Nat → Prop) (s : ByteArray) :
    funcK (env (rules1)) 30 108 [textV s] tabs Tryz.prog.globals.size (fun u _ _ mw => K u mw) =
  (K (Value.tuple (Array.mk [Value.string s, Value.bool Bool.true])) (18446744073709551616 : Nat)) := by kernel_rfl
theorem asTextT_hk (s : ByteArray)  : ReckE (env (rules1)) 30 108 [textV s] ((· = .tuple #[.string s, .bool true])) := by
  constructor
  rw [asTextT_tree fun u mw => u = .tuple #[.string s, .bool true] ∧ Tryz.prog.globals.size ≤ mw]
  repeat' (first
    | exact ⟨rfl, Nat.le_of_ble_eq_true (by kernel_rfl)⟩
    | exact rfl
    | assumption
    | refine And.intro ?_ ?_
    | refine bsel_of (fun _ => ?_) (fun _ => ?_)
    | intro _)
  all_goals (exfalso; first | contradiction | (simp_all; done) | (simp_all; omega))
theorem asTextT {base : World} (s : ByteArray)  : Tot base 108 [textV s] (.tuple #[.string s, .bool true]) := tot_lit (rules1_ok base) (asTextT_hk s) (by kernel_rfl) (by repeat' (first | refine List.forall_mem_cons.2 ⟨?_, ?_⟩ | exact (fun _ h => nomatch h) | assumption | kernel_rfl))
theorem asTextF_tree (K : Value → Nat → Prop) :
    funcK (env (rules1)) 30 108 [nullV] tabs Tryz.prog.globals.size (fun u _ _ mw => K u mw) =
  (K (Value.tuple (Array.mk [Value.string (ByteArray.mk #[]), Value.bool Bool.false])) (18446744073709551616 : Nat)) := by kernel_rfl
theorem asTextF_hk   : ReckE (env (rules1)) 30 108 [nullV] ((· = .tuple #[.string ⟨#[]⟩, .bool false])) := by
  constructor
  rw [asTextF_tree fun u mw => u = .tuple #[.string ⟨#[]⟩, .bool false] ∧ Tryz.prog.globals.size ≤ mw]
  repeat' (first
    | exact ⟨rfl, Nat.le_of_ble_eq_true (by kernel_rfl)⟩
    | exact rfl
    | assumption
    | refine And.intro ?_ ?_
    | refine bsel_of (fun _ => ?_) (fun _ => ?_)
    | intro _)
  all_goals (exfalso; first | contradiction | (simp_all; done) | (simp_all; omega))
theorem asTextF {base : World}   : Tot base 108 [nullV] (.tuple #[.string ⟨#[]⟩, .bool false]) := tot_lit (rules1_ok base) (asTextF_hk ) (by kernel_rfl) (by repeat' (first | refine List.forall_mem_cons.2 ⟨?_, ?_⟩ | exact (fun _ h => nomatch h) | assumption | kernel_rfl))
theorem asDaysT_tree (K : Value → Nat → Prop) (n : Int) :
    funcK (env (rules1)) 30 94 [daysV n] tabs Tryz.prog.globals.size (fun u _ _ mw => K u mw) =
  (K (Value.tuple (Array.mk [Value.int IntKind.i64 n, Value.bool Bool.true])) (18446744073709551616 : Nat)) := by kernel_rfl
theorem asDaysT_hk (n : Int)  : ReckE (env (rules1)) 30 94 [daysV n] ((· = .tuple #[.int .i64 n, .bool true])) := by
  constructor
  rw [asDaysT_tree fun u mw => u = .tuple #[.int .i64 n, .bool true] ∧ Tryz.prog.globals.size ≤ mw]
  repeat' (first
    | exact ⟨rfl, Nat.le_of_ble_eq_true (by kernel_rfl)⟩
    | exact rfl
    | assumption
    | refine And.intro ?_ ?_
    | refine bsel_of (fun _ => ?_) (fun _ => ?_)
    | intro _)
  all_goals (exfalso; first | contradiction | (simp_all; done) | (simp_all; omega))
theorem asDaysT {base : World} (n : Int)  : Tot base 94 [daysV n] (.tuple #[.int .i64 n, .bool true]) := tot_lit (rules1_ok base) (asDaysT_hk n) (by kernel_rfl) (by repeat' (first | refine List.forall_mem_cons.2 ⟨?_, ?_⟩ | exact (fun _ h => nomatch h) | assumption | kernel_rfl))
theorem asDaysF_tree (K : Value → Nat → Prop) :
    funcK (env (rules1)) 30 94 [nullV] tabs Tryz.prog.globals.size (fun u _ _ mw => K u mw) =
  (K (Value.tuple (Array.mk [Value.int IntKind.i64 (Int.ofNat (0 : Nat)), Value.bool Bool.false])) (18446744073709551616 : Nat)) := by kernel_rfl
theorem asDaysF_hk   : ReckE (env (rules1)) 30 94 [nullV] ((· = .tuple #[.int .i64 0, .bool false])) := by
  constructor
  rw [asDaysF_tree fun u mw => u = .tuple #[.int .i64 0, .bool false] ∧ Tryz.prog.globals.size ≤ mw]
  repeat' (first
    | exact ⟨rfl, Nat.le_of_ble_eq_true (by kernel_rfl)⟩
    | exact rfl
    | assumption
    | refine And.intro ?_ ?_
    | refine bsel_of (fun _ => ?_) (fun _ => ?_)
    | intro _)
  all_goals (exfalso; first | contradiction | (simp_all; done) | (simp_all; omega))
theorem asDaysF {base : World}   : Tot base 94 [nullV] (.tuple #[.int .i64 0, .bool false]) := tot_lit (rules1_ok base) (asDaysF_hk ) (by kernel_rfl) (by repeat' (first | refine List.forall_mem_cons.2 ⟨?_, ?_⟩ | exact (fun _ h => nomatch h) | assumption | kernel_rfl))
theorem asMonthsT_tree (K : Value → Nat → Prop) (n : Int) :
    funcK (env (rules1)) 30 93 [monthsV n] tabs Tryz.prog.globals.size (fun u _ _ mw => K u mw) =
  (K (Value.tuple (Array.mk [Value.int IntKind.i64 n, Value.bool Bool.true])) (18446744073709551616 : Nat)) := by kernel_rfl
theorem asMonthsT_hk (n : Int)  : ReckE (env (rules1)) 30 93 [monthsV n] ((· = .tuple #[.int .i64 n, .bool true])) := by
  constructor
  rw [asMonthsT_tree fun u mw => u = .tuple #[.int .i64 n, .bool true] ∧ Tryz.prog.globals.size ≤ mw]
  repeat' (first
    | exact ⟨rfl, Nat.le_of_ble_eq_true (by kernel_rfl)⟩
    | exact rfl
    | assumption
    | refine And.intro ?_ ?_
    | refine bsel_of (fun _ => ?_) (fun _ => ?_)
    | intro _)
  all_goals (exfalso; first | contradiction | (simp_all; done) | (simp_all; omega))
theorem asMonthsT {base : World} (n : Int)  : Tot base 93 [monthsV n] (.tuple #[.int .i64 n, .bool true]) := tot_lit (rules1_ok base) (asMonthsT_hk n) (by kernel_rfl) (by repeat' (first | refine List.forall_mem_cons.2 ⟨?_, ?_⟩ | exact (fun _ h => nomatch h) | assumption | kernel_rfl))
theorem asMonthsF_tree (K : Value → Nat → Prop) :
    funcK (env (rules1)) 30 93 [nullV] tabs Tryz.prog.globals.size (fun u _ _ mw => K u mw) =
  (K (Value.tuple (Array.mk [Value.int IntKind.i64 (Int.ofNat (0 : Nat)), Value.bool Bool.false])) (18446744073709551616 : Nat)) := by kernel_rfl
theorem asMonthsF_hk   : ReckE (env (rules1)) 30 93 [nullV] ((· = .tuple #[.int .i64 0, .bool false])) := by
  constructor
  rw [asMonthsF_tree fun u mw => u = .tuple #[.int .i64 0, .bool false] ∧ Tryz.prog.globals.size ≤ mw]
  repeat' (first
    | exact ⟨rfl, Nat.le_of_ble_eq_true (by kernel_rfl)⟩
    | exact rfl
    | assumption
    | refine And.intro ?_ ?_
    | refine bsel_of (fun _ => ?_) (fun _ => ?_)
    | intro _)
  all_goals (exfalso; first | contradiction | (simp_all; done) | (simp_all; omega))
theorem asMonthsF {base : World}   : Tot base 93 [nullV] (.tuple #[.int .i64 0, .bool false]) := tot_lit (rules1_ok base) (asMonthsF_hk ) (by kernel_rfl) (by repeat' (first | refine List.forall_mem_cons.2 ⟨?_, ?_⟩ | exact (fun _ h => nomatch h) | assumption | kernel_rfl))
theorem boolT_tree (K : Value → Nat → Prop) (b : Bool) :
    funcK (env (rules1)) 30 153 [.bool b] tabs Tryz.prog.globals.size (fun u _ _ mw => K u mw) =
  (bsel b (K (Value.agg (Array.mk [Value.iface (229 : Nat) (Value.bool Bool.true)])) (10 : Nat))
 (K (Value.agg (Array.mk [Value.iface (229 : Nat) (Value.bool Bool.false)])) (10 : Nat))) := by kernel_rfl
theorem boolT_hk (b : Bool)  : ReckE (env (rules1)) 30 153 [.bool b] ((· = boolV b)) := by
  constructor
  rw [boolT_tree fun u mw => u = boolV b ∧ Tryz.prog.globals.size ≤ mw]
  cases b
  all_goals exact ⟨rfl, Nat.le_of_ble_eq_true (by kernel_rfl)⟩
theorem boolT {base : World} (b : Bool)  : Tot base 153 [.bool b] (boolV b) := tot_lit (rules1_ok base) (boolT_hk b) (by kernel_rfl) (by repeat' (first | refine List.forall_mem_cons.2 ⟨?_, ?_⟩ | exact (fun _ h => nomatch h) | assumption | kernel_rfl))
theorem asBoolT_tree (K : Value → Nat → Prop) (b : Bool) :
    funcK (env (rules1)) 30 105 [boolV b] tabs Tryz.prog.globals.size (fun u _ _ mw => K u mw) =
  (bsel b (K (Value.tuple (Array.mk [Value.bool Bool.true, Value.bool Bool.true])) (18446744073709551616 : Nat))
 (K (Value.tuple (Array.mk [Value.bool Bool.false, Value.bool Bool.true])) (18446744073709551616 : Nat))) := by kernel_rfl
theorem asBoolT_hk (b : Bool)  : ReckE (env (rules1)) 30 105 [boolV b] ((· = .tuple #[.bool b, .bool true])) := by
  constructor
  rw [asBoolT_tree fun u mw => u = .tuple #[.bool b, .bool true] ∧ Tryz.prog.globals.size ≤ mw]
  cases b
  all_goals exact ⟨rfl, Nat.le_of_ble_eq_true (by kernel_rfl)⟩
theorem asBoolT {base : World} (b : Bool)  : Tot base 105 [boolV b] (.tuple #[.bool b, .bool true]) := tot_lit (rules1_ok base) (asBoolT_hk b) (by kernel_rfl) (by repeat' (first | refine List.forall_mem_cons.2 ⟨?_, ?_⟩ | exact (fun _ h => nomatch h) | assumption | kernel_rfl))
theorem textT_tree (K : Value → Nat → Prop) (base : World) (s : ByteArray) :
    funcK (env (rulesY 49 [.string s] (.bool true))) 30 27 [.string s] tabs Tryz.prog.globals.size (fun u _ _ mw => K u mw) =
  (Same [Value.string s] [Value.string s] ∧
 bsel (decide (↑(strLen s) > (1048576 : Int))) (K (Value.agg (Array.mk [Value.nilIface])) (10 : Nat))
 (K (Value.agg (Array.mk [Value.iface (140 : Nat) (Value.string s)])) (10 : Nat))) := by kernel_rfl
theorem textT_hk (base : World) (s : ByteArray) (hm : Tot base 49 [.string s] (.bool true)) (hl : strLen s ≤ 1048576) : ReckE (env (rulesY 49 [.string s] (.bool true))) 30 27 [.string s] ((· = textV s)) := by
  constructor
  rw [textT_tree fun u mw => u = textV s ∧ Tryz.prog.globals.size ≤ mw]
  repeat' (first
    | exact ⟨rfl, Nat.le_of_ble_eq_true (by kernel_rfl)⟩
    | exact rfl
    | assumption
    | refine And.intro ?_ ?_
    | refine bsel_of (fun _ => ?_) (fun _ => ?_)
    | intro _)
  all_goals (exfalso; first | contradiction | (simp_all; done) | (simp_all; omega))
theorem textT  (base : World) (s : ByteArray) (hm : Tot base 49 [.string s] (.bool true)) (hl : strLen s ≤ 1048576) : Tot base 27 [.string s] (textV s) := tot_lit (rulesY_ok hm) (textT_hk base s hm hl) (by kernel_rfl) (by repeat' (first | refine List.forall_mem_cons.2 ⟨?_, ?_⟩ | exact (fun _ h => nomatch h) | assumption | kernel_rfl))
theorem textL_tree (K : Value → Nat → Prop) (base : World) (s : ByteArray) :
    funcK (env (rulesY 49 [.string s] (.bool true))) 30 27 [.string s] tabs Tryz.prog.globals.size (fun u _ _ mw => K u mw) =
  (Same [Value.string s] [Value.string s] ∧
 bsel (decide (↑(strLen s) > (1048576 : Int))) (K (Value.agg (Array.mk [Value.nilIface])) (10 : Nat))
 (K (Value.agg (Array.mk [Value.iface (140 : Nat) (Value.string s)])) (10 : Nat))) := by kernel_rfl
theorem textL_hk (base : World) (s : ByteArray) (hm : Tot base 49 [.string s] (.bool true)) (hl : ¬ strLen s ≤ 1048576) : ReckE (env (rulesY 49 [.string s] (.bool true))) 30 27 [.string s] ((· = nullV)) := by
  constructor
  rw [textL_tree fun u mw => u = nullV ∧ Tryz.prog.globals.size ≤ mw]
  repeat' (first
    | exact ⟨rfl, Nat.le_of_ble_eq_true (by kernel_rfl)⟩
    | exact rfl
    | assumption
    | refine And.intro ?_ ?_
    | refine bsel_of (fun _ => ?_) (fun _ => ?_)
    | intro _)
  all_goals (exfalso; first | contradiction | (simp_all; done) | (simp_all; omega))
theorem textL  (base : World) (s : ByteArray) (hm : Tot base 49 [.string s] (.bool true)) (hl : ¬ strLen s ≤ 1048576) : Tot base 27 [.string s] (nullV) := tot_lit (rulesY_ok hm) (textL_hk base s hm hl) (by kernel_rfl) (by repeat' (first | refine List.forall_mem_cons.2 ⟨?_, ?_⟩ | exact (fun _ h => nomatch h) | assumption | kernel_rfl))
theorem textF_tree (K : Value → Nat → Prop) (base : World) (s : ByteArray) :
    funcK (env (rulesY 49 [.string s] (.bool false))) 30 27 [.string s] tabs Tryz.prog.globals.size (fun u _ _ mw => K u mw) =
  (Same [Value.string s] [Value.string s] ∧ K (Value.agg (Array.mk [Value.nilIface])) (10 : Nat)) := by kernel_rfl
theorem textF_hk (base : World) (s : ByteArray) (hm : Tot base 49 [.string s] (.bool false)) : ReckE (env (rulesY 49 [.string s] (.bool false))) 30 27 [.string s] ((· = nullV)) := by
  constructor
  rw [textF_tree fun u mw => u = nullV ∧ Tryz.prog.globals.size ≤ mw]
  repeat' (first
    | exact ⟨rfl, Nat.le_of_ble_eq_true (by kernel_rfl)⟩
    | exact rfl
    | assumption
    | refine And.intro ?_ ?_
    | refine bsel_of (fun _ => ?_) (fun _ => ?_)
    | intro _)
  all_goals (exfalso; first | contradiction | (simp_all; done) | (simp_all; omega))
theorem textF  (base : World) (s : ByteArray) (hm : Tot base 49 [.string s] (.bool false)) : Tot base 27 [.string s] (nullV) := tot_lit (rulesY_ok hm) (textF_hk base s hm) (by kernel_rfl) (by repeat' (first | refine List.forall_mem_cons.2 ⟨?_, ?_⟩ | exact (fun _ h => nomatch h) | assumption | kernel_rfl))

end Go.Proofs.YtdbjbmdaekgbhaaGreatDoor
