/-
  The environment of this seat's laws: tables, what is run in place.
  Closed calls: 10 to the 34; the law's examples.
-/
import Derived.Test.YthmogphlnjpakaaGreatDoorPeM1
import Derived.Test.YthmogphlnjpakaaGreatDoorRows

namespace Go.Proofs.YthmogphlnjpakaaGreatDoor
open Go Go.Pe Go.RowKit
def pow10s : List Int := [1, 10, 100, 1000, 10000, 100000, 1000000, 10000000, 100000000, 1000000000, 10000000000, 100000000000, 1000000000000, 10000000000000, 100000000000000, 1000000000000000, 10000000000000000, 100000000000000000, 1000000000000000000, 10000000000000000000]
def tabs : Heap := [(5, tabBlk .u64 pow10s)]
def bools (t : TypeId) : Bool := Nat.beq t 4
  || Nat.beq t 181
def rules0 : List (Nat × Rule) := [
  (153, ruleCount),
  (274, ruleIndexByte),
  (238, ruleSame),
  (260, ruleAdd), (300, ruleSub)]
theorem rules0_ok (base : World) : ∀ x ∈ rules0, RuleOk Tryz.prog base x.1 x.2 := by
  unfold rules0
  refine List.forall_mem_cons.2 ⟨ruleOk_count (inPlace Tryz.f153 Tryz.func153 (by kernel_rfl) (by kernel_rfl) (by kernel_rfl) (by kernel_rfl)), ?_⟩
  refine List.forall_mem_cons.2 ⟨ruleOk_indexByte (inPlace Tryz.f274 Tryz.func274 (by kernel_rfl) (by kernel_rfl) (by kernel_rfl) (by kernel_rfl)), ?_⟩
  refine List.forall_mem_cons.2 ⟨ruleOk_same (inPlace Tryz.f238 Tryz.func238 (by kernel_rfl) (by kernel_rfl) (by kernel_rfl) (by kernel_rfl)), ?_⟩
  refine List.forall_mem_cons.2 ⟨ruleOk_add (inPlace Tryz.f260 Tryz.func260 (by kernel_rfl) (by kernel_rfl) (by kernel_rfl) (by kernel_rfl)), ?_⟩
  refine List.forall_mem_cons.2 ⟨ruleOk_sub (inPlace Tryz.f300 Tryz.func300 (by kernel_rfl) (by kernel_rfl) (by kernel_rfl) (by kernel_rfl)), ?_⟩
  exact fun _ h => by cases h
theorem plain_ok : plainOk Tryz.prog = true := by kernel_rfl
theorem mixed_ok : Tryz.prog.follows .mixedOrders = true := by kernel_rfl
noncomputable def env (rules : List (Nat × Rule)) : Env :=
  { P := Tryz.prog, isBool := bools, oracle := findR rules, eqAgg := fun _ _ _ => none, loops := 100000, loopP := fun _ _ => none, guess := fun _ _ => none, strF := strAt }
theorem env_ok {rules : List (Nat × Rule)} {base : World} (hr : ∀ x ∈ rules, RuleOk Tryz.prog base x.1 x.2) : EnvOk (env rules) base :=
  envOk_of (E := env rules) rfl rfl mixed_ok plain_ok hr fun _ _ _ _ h => by cases h
theorem env_loops {rules : List (Nat × Rule)} {base : World} : LoopsOk (env rules) base := fun _ _ _ _ _ _ h => by cases h
theorem tabs_ok : HWF (· < Tryz.prog.globals.size) tabs := hwf_of (by kernel_rfl)
end Go.Proofs.YthmogphlnjpakaaGreatDoor

namespace Go.Proofs.YthmogphlnjpakaaGreatDoor
open Go Go.Pe Go.RowKit
theorem closed_sem {rules : List (Nat × Rule)} {base : World} (hr : ∀ x ∈ rules, RuleOk Tryz.prog base x.1 x.2) {d : Nat} {f : FuncId} {v : Value} {h0 : Heap} (hh0 : HWF (· < Tryz.prog.globals.size) h0)
    (hk : (funcK (env rules) d f [] h0 Tryz.prog.globals.size fun u _ _ mw => u = v ∧ Nat.ble Tryz.prog.globals.size mw = true) = (v = v ∧ true = true)) (hv : pureV 6 v = true) {h : Heap} (hs : Sub h0 h) (n : Nat) :
    FuncSem (env rules) base f [] h n v h n big := by
  have h1 := cast hk.symm ⟨rfl, rfl⟩
  have h2 : funcK (env rules) d f [] h0 Tryz.prog.globals.size (fun u _ _ mw => u = v ∧ Tryz.prog.globals.size ≤ mw) := by
    have : (fun (u : Value) (_ : Heap) (_ mw : Nat) => u = v ∧ Nat.ble Tryz.prog.globals.size mw = true) = fun u _ _ mw => u = v ∧ Tryz.prog.globals.size ≤ mw := by
      funext u _ _ mw
      exact propext ⟨fun ⟨a, b⟩ => ⟨a, Nat.le_of_ble_eq_true b⟩, fun ⟨a, b⟩ => ⟨a, Nat.ble_eq_true_of_le b⟩⟩
    rw [this] at h1
    exact h1
  exact sem_of_funcK (env_ok hr) env_loops h2 hv (fun _ h => by cases h) hh0 (Nat.le_refl _) hs n
def rulePlain (v : Value) : Rule := fun args h n => match args with
  | [] => some fun K => K v h n big
  | _ => none
theorem ruleOk_plain {rules : List (Nat × Rule)} {base : World} {f : FuncId} {v : Value} (H : ∀ (h : Heap) n, FuncSem (env rules) base f [] h n v h n big) : RuleOk Tryz.prog base f (rulePlain v) := by
  intro E hE args h n T K hT hK
  unfold rulePlain at hT
  split at hT
  · cases hT
    exact ⟨_, _, _, _, hK, (H h n).env hE⟩
  · cases hT
theorem hwf_empty (n : Nat) : HWF (· < n) [] := fun k b hb => by simp [getBlk] at hb
def mostV : Value := .agg #[.int .u64 542101086242752, .int .u64 4003012203950112768]
theorem most_ok (base : World) : RuleOk Tryz.prog base 219 (rulePlain mostV) :=
  ruleOk_plain fun h n => closed_sem (d := 30) (rules0_ok base) (hwf_empty _) (by kernel_rfl) (by kernel_rfl) (Sub.nil h) n
def rules1 : List (Nat × Rule) := (219, rulePlain mostV) :: rules0
theorem rules1_ok (base : World) : ∀ x ∈ rules1, RuleOk Tryz.prog base x.1 x.2 := List.forall_mem_cons.2 ⟨most_ok base, rules0_ok base⟩
end Go.Proofs.YthmogphlnjpakaaGreatDoor
