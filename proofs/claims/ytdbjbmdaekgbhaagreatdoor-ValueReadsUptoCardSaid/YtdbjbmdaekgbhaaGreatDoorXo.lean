/-
  clock.Of.
-/
import Derived.Test.YtdbjbmdaekgbhaaGreatDoorXn
namespace Go.Proofs.YtdbjbmdaekgbhaaGreatDoor
open Go Go.Pe Go.RowKit

theorem ckB {h m s : Int} (h1 : decide (h < 0) = false) (h2 : decide (h > 23) = false) (m1 : decide (m < 0) = false) (m2 : decide (m > 59) = false) (s1 : decide (s < 0) = false) (s2 : decide (s > 59) = false) :
    0 ≤ IntKind.wrap .i64 (IntKind.wrap .i64 (IntKind.wrap .i64 (3600 * h) + IntKind.wrap .i64 (60 * m)) + s) ∧ IntKind.wrap .i64 (IntKind.wrap .i64 (IntKind.wrap .i64 (3600 * h) + IntKind.wrap .i64 (60 * m)) + s) < 86400 := by
  have h1 := of_decide_eq_false h1
  have h2 := of_decide_eq_false h2
  have m1 := of_decide_eq_false m1
  have m2 := of_decide_eq_false m2
  have s1 := of_decide_eq_false s1
  have s2 := of_decide_eq_false s2
  rw [spW (x := 3600 * h) (by omega), spW (x := 60 * m) (by omega), spW (x := 3600 * h + 60 * m) (by omega), spW (by omega)]
  omega
attribute [local irreducible] Go.IntKind.wrap
def isCkof (a b c : Int) (u : Value) : Prop := ∃ (x : Int) (ok : Bool), u = .tuple #[timeC x false 0, .bool ok] ∧ (0 ≤ x ∧ x < 86400)
theorem ckof_hk_tree (K : Value → Nat → Prop) (a b c : Int) :
 funcK (envW rules0 []) 30 115 [.int .i64 a, .int .i64 b, .int .i64 c] [] Tryz.prog.globals.size (fun u _ _ mw => K u mw) =
 (bsel (decide (a < (0 : Int))) (K (Value.tuple (Array.mk [Value.agg (Array.mk [Value.int .i64 (Int.ofNat 0), Value.bool false, Value.int .i64 (Int.ofNat 0)]), Value.bool false])) 10) (bsel (decide (a > (23 : Int))) (K (Value.tuple (Array.mk [Value.agg (Array.mk [Value.int .i64 (Int.ofNat 0), Value.bool false, Value.int .i64 (Int.ofNat 0)]), Value.bool false])) 10) (bsel (decide (b < (0 : Int))) (K (Value.tuple (Array.mk [Value.agg (Array.mk [Value.int .i64 (Int.ofNat 0), Value.bool false, Value.int .i64 (Int.ofNat 0)]), Value.bool false])) 10) (bsel (decide (b > (59 : Int))) (K (Value.tuple (Array.mk [Value.agg (Array.mk [Value.int .i64 (Int.ofNat 0), Value.bool false, Value.int .i64 (Int.ofNat 0)]), Value.bool false])) 10) (bsel (decide (c < (0 : Int))) (K (Value.tuple (Array.mk [Value.agg (Array.mk [Value.int .i64 (Int.ofNat 0), Value.bool false, Value.int .i64 (Int.ofNat 0)]), Value.bool false])) 10) (bsel (decide (c > (59 : Int))) (K (Value.tuple (Array.mk [Value.agg (Array.mk [Value.int .i64 (Int.ofNat 0), Value.bool false, Value.int .i64 (Int.ofNat 0)]), Value.bool false])) 10) (K (Value.tuple (Array.mk [Value.agg (Array.mk [Value.int .i64 (IntKind.wrap .i64 (IntKind.wrap .i64 (IntKind.wrap .i64 ((3600 : Int) * a) + IntKind.wrap .i64 ((60 : Int) * b)) + c)), Value.bool false, Value.int .i64 (Int.ofNat 0)]), Value.bool true])) 10))))))) := by kernel_rfl
theorem ckof_hk (a b c : Int)  : ReckA (envW rules0 []) 30 115 [.int .i64 a, .int .i64 b, .int .i64 c] (isCkof a b c) := by
  constructor
  rw [ckof_hk_tree fun u mw => (isCkof a b c) u ∧ Tryz.prog.globals.size ≤ mw]
  repeat' (first | exact ⟨⟨_, _, rfl, Int.le_refl _, by decide⟩, Nat.le_of_ble_eq_true (by kernel_rfl)⟩ | exact ⟨⟨_, _, rfl, ckB (by assumption) (by assumption) (by assumption) (by assumption) (by assumption) (by assumption)⟩, Nat.le_of_ble_eq_true (by kernel_rfl)⟩ | refine bsel_of (fun _ => ?_) (fun _ => ?_))
def ruleCkof : Rule := ruleA fun args => match args with
  | [.int .i64 a, .int .i64 b, .int .i64 c] => some fun K => (True) ∧ ∀ (x : Int) (ok : Bool), 0 ≤ x → x < 86400 → K (.tuple #[timeC x false 0, .bool ok])
  | _ => none
theorem ckof_ok {base : World} : RuleOk Tryz.prog base 115 ruleCkof := ruleOkA fun args T K hT hK => by
  split at hT
  · cases hT
    obtain ⟨_, hK⟩ := hK
    obtain ⟨v, ⟨r0, r1, rfl, hf⟩, ht⟩ := totA_of (base := base) (envW_ok (rules0_ok base)) (findL_ok (l := []) rfl fun _ h => nomatch h) rfl (ckof_hk _ _ _) (fun v ⟨_, _, hv, _⟩ => by subst hv; kernel_rfl) (List.forall_mem_cons.2 ⟨by kernel_rfl, List.forall_mem_cons.2 ⟨by kernel_rfl, List.forall_mem_cons.2 ⟨by kernel_rfl, fun _ h => nomatch h⟩⟩⟩)
    exact ⟨_, hK r0 r1 hf.1 hf.2, ht⟩
  · cases hT
end Go.Proofs.YtdbjbmdaekgbhaaGreatDoor
