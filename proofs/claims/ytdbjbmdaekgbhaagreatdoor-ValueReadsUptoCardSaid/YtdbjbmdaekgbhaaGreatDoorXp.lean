/-
  clock.At.
-/
import Derived.Test.YtdbjbmdaekgbhaaGreatDoorXo
import Derived.Test.YtdbjbmdaekgbhaaGreatDoorFa
namespace Go.Proofs.YtdbjbmdaekgbhaaGreatDoor
open Go Go.Pe Go.RowKit

def isCkat (s o : Int) (u : Value) : Prop := (u = .tuple #[timeC s true o, .bool true] ∧ timeOk s true o) ∨ u = .tuple #[timeC 0 false 0, .bool false]
theorem isCkat_pure {s o : Int} : ∀ v, isCkat s o v → pureV 6 v = true := by
  rintro v (⟨rfl, _⟩ | rfl) <;> kernel_rfl
theorem ckat_hk_tree (K : Value → Nat → Prop) (s p o : Int) (z : Bool) :
 funcK (envW rulesV1 []) 30 116 [timeC s z p, .int .i64 o] tabs Tryz.prog.globals.size (fun u _ _ mw => K u mw) =
 ((timeOk s true o → K (Value.tuple (Array.mk [Value.agg (Array.mk [Value.int .i64 s, Value.bool true, Value.int .i64 o]), Value.bool true])) 10) ∧ (¬timeOk s true o → K (Value.tuple (Array.mk [Value.agg (Array.mk [Value.int .i64 (Int.ofNat 0), Value.bool false, Value.int .i64 (Int.ofNat 0)]), Value.bool false])) 10)) := by kernel_rfl
theorem ckat_hk (s p o : Int) (z : Bool)  : ReckE (envW rulesV1 []) 30 116 [timeC s z p, .int .i64 o] (isCkat s o) := by
  constructor
  rw [ckat_hk_tree fun u mw => (isCkat s o) u ∧ Tryz.prog.globals.size ≤ mw]
  exact ⟨fun h => ⟨.inl ⟨rfl, h⟩, Nat.le_of_ble_eq_true (by kernel_rfl)⟩, fun _ => ⟨.inr rfl, Nat.le_of_ble_eq_true (by kernel_rfl)⟩⟩
def ruleCkat : Rule := rule1 fun args => match args with
  | [.agg ⟨[.int .i64 s, .bool _, .int .i64 _]⟩, .int .i64 o] => some fun K => ∀ (e : Bool), (e = true → timeOk s true o) → bsel e (K (.tuple #[timeC s true o, .bool true])) (K (.tuple #[timeC 0 false 0, .bool false]))
  | _ => none
theorem ckat_ok {base : World} : RuleOk Tryz.prog base 116 ruleCkat := ruleOk_of fun args T K hT hK => by
  split at hT
  · cases hT
    rename_i s z p o
    obtain ⟨v, hv, ht⟩ := tot_ofE (base := base) (envW_ok (rulesV1_ok base)) (findL_ok (l := []) rfl fun _ h => nomatch h) rfl (ckat_hk s p o z) isCkat_pure (List.forall_mem_cons.2 ⟨by kernel_rfl, pure1 (by kernel_rfl)⟩)
    rcases hv with ⟨rfl, h⟩ | rfl
    · exact ⟨_, hK true (fun _ => h), ht⟩
    · exact ⟨_, hK false (fun (h : false = true) => nomatch h), ht⟩
  · cases hT
end Go.Proofs.YtdbjbmdaekgbhaaGreatDoor
