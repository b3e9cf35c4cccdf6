/-
  Closed calls: 10 to the 34; the law's examples.
-/
import Derived.Test.YtdbjbmdaekgbhaaGreatDoorEa
namespace Go.Proofs.YtdbjbmdaekgbhaaGreatDoor
open Go Go.Pe Go.RowKit

theorem closed_sem {rules : List (Nat × Rule)} {base : World} (hr : ∀ x ∈ rules, RuleOk Tryz.prog base x.1 x.2) {d : Nat} {f : FuncId} {v : Value} {h0 : Heap} (hh0 : HWF (· < Tryz.prog.globals.size) h0)
    (hk : (funcK (env rules) d f [] h0 Tryz.prog.globals.size fun u _ _ mw => u = v ∧ Nat.ble Tryz.prog.globals.size mw = true) = (v = v ∧ true = true)) (hv : pureV 6 v = true) {h : Heap} (hs : Sub h0 h) (n : Nat) :
    FuncSem (env rules) base f [] h n v h n big := by
  have h1 := cast hk.symm ⟨rfl, rfl⟩
  have h2 : funcK (env rules) d f [] h0 Tryz.prog.globals.size (fun u _ _ mw => u = v ∧ Tryz.prog.globals.size ≤ mw) := by
    have : (fun (u : Value) (_ : Heap) (_ mw : Nat) => u = v ∧ Nat.ble Tryz.prog.globals.size mw = true) = fun u _ _ mw => u = v ∧ Tryz.prog.globals.size ≤ mw := by
      funext u _ _ mw
      exact propext ⟨fun ⟨a, b⟩ => ⟨a, Nat.le_of_ble_eq_true b⟩, fun ⟨a, b⟩ => ⟨a, Nat.ble_eq_true_of_le b⟩⟩
    rw [this] at h1
    exact h1
  exact sem_of_funcK (env_ok hr) env_loops h2 hv (fun _ h => by cases h) hh0 (Nat.le_refl _) hs n

/-- A closed call's word. -/
def ruleConst (v : Value) : Rule := fun args h n => match args with
  | [] => some fun K => Sub tabs h ∧ K v h n big
  | _ => none

theorem ruleOk_const {rules : List (Nat × Rule)} {base : World} {f : FuncId} {v : Value} (H : ∀ (h : Heap), Sub tabs h → ∀ n, FuncSem (env rules) base f [] h n v h n big) : RuleOk Tryz.prog base f (ruleConst v) := by
  intro E hE args h n T K hT hK
  unfold ruleConst at hT
  split at hT
  · cases hT
    exact ⟨_, _, _, _, hK.2, (H h hK.1 n).env hE⟩
  · cases hT

/-- A closed call's word, where no table is read. -/
def rulePlain (v : Value) : Rule := fun args h n => match args with
  | [] => some fun K => K v h n big
  | _ => none

theorem ruleOk_plain {rules : List (Nat × Rule)} {base : World} {f : FuncId} {v : Value} (H : ∀ (h : Heap) n, FuncSem (env rules) base f [] h n v h n big) : RuleOk Tryz.prog base f (rulePlain v) := by
  intro E hE args h n T K hT hK
  unfold rulePlain at hT
  split at hT
  · cases hT
    exact ⟨_, _, _, _, hK, (H h n).env hE⟩
  · cases hT

theorem hwf_empty (n : Nat) : HWF (· < n) [] := fun k b hb => by simp [getBlk] at hb

def mostV : Value := .agg #[.int .u64 542101086242752, .int .u64 4003012203950112768]

theorem most_ok (base : World) : RuleOk Tryz.prog base 172 (rulePlain mostV) :=
  ruleOk_plain fun h n => closed_sem (d := 30) (rules0_ok base) (hwf_empty _) (by kernel_rfl) (by kernel_rfl) (Sub.nil h) n

def rules1 : List (Nat × Rule) := (172, rulePlain mostV) :: rules0
theorem rules1_ok (base : World) : ∀ x ∈ rules1, RuleOk Tryz.prog base x.1 x.2 := List.forall_mem_cons.2 ⟨most_ok base, rules0_ok base⟩

theorem awake24_ok (base : World) : RuleOk Tryz.prog base 10 (ruleConst (.bool true)) := ruleOk_const fun h hs n => closed_sem (d := 80) (rules0_ok base) tabs_ok (by kernel_rfl) (by kernel_rfl) hs n

end Go.Proofs.YtdbjbmdaekgbhaaGreatDoor
