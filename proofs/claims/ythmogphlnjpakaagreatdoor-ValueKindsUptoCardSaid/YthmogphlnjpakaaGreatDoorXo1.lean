/-
  clock.Of.
  Values that are made of days, times, lengths of time: of a kind, or null; what a law's 'arith' asks.
  clock.At.
-/
import Derived.Test.YthmogphlnjpakaaGreatDoorXk1
import Derived.Test.YthmogphlnjpakaaGreatDoorEf1

namespace Go.Proofs.YthmogphlnjpakaaGreatDoor
open Go Go.Pe Go.RowKit
theorem ckB {h m s : Int} (h1 : decide (h < 0) = false) (h2 : decide (h > 23) = false) (m1 : decide (m < 0) = false) (m2 : decide (m > 59) = false) (s1 : decide (s < 0) = false) (s2 : decide (s > 59) = false) :
    0 ≤ IntKind.wrap .i64 (IntKind.wrap .i64 (IntKind.wrap .i64 (3600 * h) + IntKind.wrap .i64 (60 * m)) + s) ∧ IntKind.wrap .i64 (IntKind.wrap .i64 (IntKind.wrap .i64 (3600 * h) + IntKind.wrap .i64 (60 * m)) + s) < 86400 := by
  have h1 := of_decide_eq_false h1
  have h2 := of_decide_eq_false h2
  have m1 := of_decide_eq_false m1
  have m2 := of_decide_eq_false m2
  have s1 := of_decide_eq_false s1
  have s2 := of_decide_eq_false s2
  rw [spW (x := 3600 * h) (by omega), spW (x := 60 * m) (by omega), spW (x := 3600 * h + 60 * m) (by omega), spW (by omega)]
  omega
attribute [local irreducible] Go.IntKind.wrap
def isCkof (a b c : Int) (u : Value) : Prop := ∃ (x : Int) (ok : Bool), u = .tuple #[timeC x false 0, .bool ok] ∧ (0 ≤ x ∧ x < 86400)
theorem ckof_hk_tree (K : Value → Nat → Prop) (a b c : Int) :
 funcK (envW rules0 []) 30 181 [.int .i64 a, .int .i64 b, .int .i64 c] [] Tryz.prog.globals.size (fun u _ _ mw => K u mw) =
 (bsel (decide (a < (0 : Int))) (K (.tuple (Array.mk [.agg (Array.mk [.int .i64 (Int.ofNat 0), .bool false, .int .i64 (Int.ofNat 0)]), .bool false])) 10) (bsel (decide (a > (23 : Int))) (K (.tuple (Array.mk [.agg (Array.mk [.int .i64 (Int.ofNat 0), .bool false, .int .i64 (Int.ofNat 0)]), .bool false])) 10) (bsel (decide (b < (0 : Int))) (K (.tuple (Array.mk [.agg (Array.mk [.int .i64 (Int.ofNat 0), .bool false, .int .i64 (Int.ofNat 0)]), .bool false])) 10) (bsel (decide (b > (59 : Int))) (K (.tuple (Array.mk [.agg (Array.mk [.int .i64 (Int.ofNat 0), .bool false, .int .i64 (Int.ofNat 0)]), .bool false])) 10) (bsel (decide (c < (0 : Int))) (K (.tuple (Array.mk [.agg (Array.mk [.int .i64 (Int.ofNat 0), .bool false, .int .i64 (Int.ofNat 0)]), .bool false])) 10) (bsel (decide (c > (59 : Int))) (K (.tuple (Array.mk [.agg (Array.mk [.int .i64 (Int.ofNat 0), .bool false, .int .i64 (Int.ofNat 0)]), .bool false])) 10) (K (.tuple (Array.mk [.agg (Array.mk [.int .i64 (IntKind.wrap .i64 (IntKind.wrap .i64 (IntKind.wrap .i64 ((3600 : Int) * a) + IntKind.wrap .i64 ((60 : Int) * b)) + c)), .bool false, .int .i64 (Int.ofNat 0)]), .bool true])) 10))))))) := by kernel_rfl
theorem ckof_hk (a b c : Int)  : ReckA (envW rules0 []) 30 181 [.int .i64 a, .int .i64 b, .int .i64 c] (isCkof a b c) := by
  constructor
  rw [ckof_hk_tree fun u mw => (isCkof a b c) u ∧ Tryz.prog.globals.size ≤ mw]
  repeat' (first | exact ⟨⟨_, _, rfl, Int.le_refl _, by decide⟩, Nat.le_of_ble_eq_true (by kernel_rfl)⟩ | exact ⟨⟨_, _, rfl, ckB (by assumption) (by assumption) (by assumption) (by assumption) (by assumption) (by assumption)⟩, Nat.le_of_ble_eq_true (by kernel_rfl)⟩ | refine bsel_of (fun _ => ?_) (fun _ => ?_))
def ruleCkof : Rule := ruleA fun args => match args with
  | [.int .i64 a, .int .i64 b, .int .i64 c] => some fun K => (True) ∧ ∀ (x : Int) (ok : Bool), 0 ≤ x → x < 86400 → K (.tuple #[timeC x false 0, .bool ok])
  | _ => none
theorem ckof_ok {base : World} : RuleOk Tryz.prog base 181 ruleCkof := ruleOkA fun args T K hT hK => by
  split at hT
  · cases hT
    obtain ⟨_, hK⟩ := hK
    obtain ⟨v, ⟨r0, r1, rfl, hf⟩, ht⟩ := totA_of (base := base) (envW_ok (rules0_ok base)) (findL_ok (l := []) rfl fun _ h => nomatch h) rfl (ckof_hk _ _ _) (fun v ⟨_, _, hv, _⟩ => by subst hv; kernel_rfl) (List.forall_mem_cons.2 ⟨by kernel_rfl, List.forall_mem_cons.2 ⟨by kernel_rfl, List.forall_mem_cons.2 ⟨by kernel_rfl, fun _ h => nomatch h⟩⟩⟩)
    exact ⟨_, hK r0 r1 hf.1 hf.2, ht⟩
  · cases hT
end Go.Proofs.YthmogphlnjpakaaGreatDoor

namespace Go.Proofs.YthmogphlnjpakaaGreatDoor
open Go Go.Pe Go.RowKit
theorem tot_lit {base : World} {rules : List (Nat × Rule)} (hr : ∀ x ∈ rules, RuleOk Tryz.prog base x.1 x.2) {d : Nat} {f : FuncId} {args : List Value} {v : Value} (hk : ReckE (env rules) d f args (· = v))
    (hp : pureV 6 v = true) (ha : ∀ x ∈ args, pureV 6 x = true) : Tot base f args v := by
  obtain ⟨_, rfl, ht⟩ := tot_ofE (env_ok hr) env_loops rfl hk (fun u hu => hu ▸ hp) ha
  exact ht
def ruleTMayD : Rule := rule1 fun args => match args with
  | [.agg ⟨[.int .i64 s, .bool z, .int .i64 o]⟩] => some fun K => (timeOk s z o → K (.bool true)) ∧ (¬ timeOk s z o → K (.bool false))
  | _ => none
def isTMayD (s : Int) (z : Bool) (o : Int) (u : Value) : Prop := (u = .bool true ∧ timeOk s z o) ∨ (u = .bool false ∧ ¬ timeOk s z o)
theorem isTMayD_pure {s : Int} {z : Bool} {o : Int} : ∀ v, isTMayD s z o v → pureV 6 v = true := by
  rintro v (⟨rfl, _⟩ | ⟨rfl, _⟩) <;> kernel_rfl
theorem tmayD_hk_tree (K : Value → Nat → Prop) (s o : Int) (z : Bool) :
 funcK (env rules1) 30 184 [timeC s z o] tabs Tryz.prog.globals.size (fun u _ _ mw => K u mw) =
 (bsel (decide (s ≥ (0 : Int)))
 (bsel (decide (s < (86400 : Int)))
 (bsel (decide (o ≥ (-64800 : Int)))
 (bsel (decide (o ≤ (64800 : Int)))
 (bsel z (K (.bool true) big)
 (bsel (o == (0 : Int)) (K (.bool true) big) (K (.bool false) big)))
 (K (.bool false) big))
 (K (.bool false) big))
 (K (.bool false) big))
 (K (.bool false) big)) := by kernel_rfl
theorem tmayD_hk (s o : Int) (z : Bool)  : ReckE (env rules1) 30 184 [timeC s z o] (isTMayD s z o) := by
  constructor
  rw [tmayD_hk_tree fun u mw => (isTMayD s z o) u ∧ Tryz.prog.globals.size ≤ mw]
  repeat' (refine bsel_of (fun _ => ?_) (fun _ => ?_))
  all_goals first
    | exact ⟨.inl ⟨rfl, by grind [timeOk]⟩, Nat.le_of_ble_eq_true (by kernel_rfl)⟩
    | exact ⟨.inr ⟨rfl, by grind [timeOk]⟩, Nat.le_of_ble_eq_true (by kernel_rfl)⟩
    | (exfalso; grind)
theorem tmayD_ok (base : World) : RuleOk Tryz.prog base 184 ruleTMayD := ruleOk_of fun args T K hT hK => by
  split at hT
  · cases hT
    rename_i s z o
    obtain ⟨v, hv, ht⟩ := tot_ofE (env_ok (rules1_ok base)) env_loops rfl (tmayD_hk s o z) isTMayD_pure (pure1 (by kernel_rfl))
    rcases hv with ⟨rfl, h⟩ | ⟨rfl, h⟩
    · exact ⟨_, hK.1 h, ht⟩
    · exact ⟨_, hK.2 h, ht⟩
  · cases hT
def rulesV1 : List (Nat × Rule) := (179, ruleMayD) :: (184, ruleTMayD) :: rules1
theorem rulesV1_ok (base : World) : ∀ x ∈ rulesV1, RuleOk Tryz.prog base x.1 x.2 := List.forall_mem_cons.2 ⟨mayD_ok base, List.forall_mem_cons.2 ⟨tmayD_ok base, rules1_ok base⟩⟩
end Go.Proofs.YthmogphlnjpakaaGreatDoor

namespace Go.Proofs.YthmogphlnjpakaaGreatDoor
open Go Go.Pe Go.RowKit
def isCkat (s o : Int) (u : Value) : Prop := (u = .tuple #[timeC s true o, .bool true] ∧ timeOk s true o) ∨ u = .tuple #[timeC 0 false 0, .bool false]
theorem isCkat_pure {s o : Int} : ∀ v, isCkat s o v → pureV 6 v = true := by
  rintro v (⟨rfl, _⟩ | rfl) <;> kernel_rfl
theorem ckat_hk_tree (K : Value → Nat → Prop) (s p o : Int) (z : Bool) :
 funcK (envW rulesV1 []) 30 182 [timeC s z p, .int .i64 o] tabs Tryz.prog.globals.size (fun u _ _ mw => K u mw) =
 ((timeOk s true o → K (.tuple (Array.mk [.agg (Array.mk [.int .i64 s, .bool true, .int .i64 o]), .bool true])) 10) ∧ (¬timeOk s true o → K (.tuple (Array.mk [.agg (Array.mk [.int .i64 (Int.ofNat 0), .bool false, .int .i64 (Int.ofNat 0)]), .bool false])) 10)) := by kernel_rfl
theorem ckat_hk (s p o : Int) (z : Bool)  : ReckE (envW rulesV1 []) 30 182 [timeC s z p, .int .i64 o] (isCkat s o) := by
  constructor
  rw [ckat_hk_tree fun u mw => (isCkat s o) u ∧ Tryz.prog.globals.size ≤ mw]
  exact ⟨fun h => ⟨.inl ⟨rfl, h⟩, Nat.le_of_ble_eq_true (by kernel_rfl)⟩, fun _ => ⟨.inr rfl, Nat.le_of_ble_eq_true (by kernel_rfl)⟩⟩
def ruleCkat : Rule := rule1 fun args => match args with
  | [.agg ⟨[.int .i64 s, .bool _, .int .i64 _]⟩, .int .i64 o] => some fun K => ∀ (e : Bool), (e = true → timeOk s true o) → bsel e (K (.tuple #[timeC s true o, .bool true])) (K (.tuple #[timeC 0 false 0, .bool false]))
  | _ => none
theorem ckat_ok {base : World} : RuleOk Tryz.prog base 182 ruleCkat := ruleOk_of fun args T K hT hK => by
  split at hT
  · cases hT
    rename_i s z p o
    obtain ⟨v, hv, ht⟩ := tot_ofE (base := base) (envW_ok (rulesV1_ok base)) (findL_ok (l := []) rfl fun _ h => nomatch h) rfl (ckat_hk s p o z) isCkat_pure (List.forall_mem_cons.2 ⟨by kernel_rfl, pure1 (by kernel_rfl)⟩)
    rcases hv with ⟨rfl, h⟩ | rfl
    · exact ⟨_, hK true (fun _ => h), ht⟩
    · exact ⟨_, hK false (fun (h : false = true) => nomatch h), ht⟩
  · cases hT
end Go.Proofs.YthmogphlnjpakaaGreatDoor
