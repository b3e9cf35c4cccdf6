/-
  Words multiplied, added; a number of 256 bits by a word.
  How many digits a number of 256 bits has.
-/
import Derived.Test.YtdbjbmdaekgbhaaGreatDoorWd
import Derived.Test.YtdbjbmdaekgbhaaGreatDoorWc

namespace Go.Proofs.YtdbjbmdaekgbhaaGreatDoor
open Go Go.Pe Go.RowKit

def rulesWE : List (Nat × Rule) := (214, ruleMul64) :: (222, ruleDiv64) :: rules0
theorem rulesWE_ok (base : World) : ∀ x ∈ rulesWE, RuleOk Tryz.prog base x.1 x.2 := List.forall_mem_cons.2 ⟨mul64_ok, List.forall_mem_cons.2 ⟨div64_ok, rules0_ok base⟩⟩

/-- The environment of these numbers, with loops of so many rounds that are walked one by one. -/
noncomputable def envK (k : Nat) (rules : List (Nat × Rule)) (loops : List ((Nat × Nat) × LoopW)) : Env :=
  { P := Tryz.prog, isBool := bools, oracle := findR rules, eqAgg := eqA (env []) tEqs, loops := k, loopP := findL loops, guess := fun _ _ => none, strF := strAt, weak := true }
theorem envK_ok {k : Nat} {rules : List (Nat × Rule)} {loops : List ((Nat × Nat) × LoopW)} {base : World} (hr : ∀ x ∈ rules, RuleOk Tryz.prog base x.1 x.2) : EnvOk (envK k rules loops) base :=
  envOk_of (E := envK k rules loops) rfl rfl mixed_ok plain_ok hr fun t a b r h μ κ w => eqA_sound (E := env []) tEqs_ok t a b r h μ κ w

theorem u64_wrap (x : Int) : u64 (IntKind.wrap .u64 x) := by
  rw [wrap_u64']
  unfold u64
  omega
theorem u64_mod (x : Int) : u64 (x % 18446744073709551616) := by
  unfold u64
  omega
def wW (a b c d : Int) : Int := wV a b * 340282366920938463463374607431768211456 + wV c d
def isAdd (u : Value) : Prop := ∃ x y z, u = .tuple #[wU x y, w64 z] ∧ u64 x ∧ u64 y ∧ u64 z
def isMulWord (u : Value) : Prop := ∃ x y z, u = .tuple #[w64 x, wU y z] ∧ u64 x ∧ u64 y ∧ u64 z
def isMul (u : Value) : Prop := ∃ x y z w, u = .tuple #[wU x y, wU z w] ∧ u64 x ∧ u64 y ∧ u64 z ∧ u64 w
def isAdd2 (u : Value) : Prop := ∃ x y z w c, u = .tuple #[wU x y, wU z w, w64 c] ∧ u64 x ∧ u64 y ∧ u64 z ∧ u64 w ∧ u64 c
def isDW (a b c d x : Int) (u : Value) : Prop := ∃ e f g h r, u = .tuple #[wU e f, wU g h, w64 r, .bool true] ∧ u64 e ∧ u64 f ∧ u64 g ∧ u64 h ∧ u64 r ∧ r < x ∧ wW e f g h * x + r = wW a b c d

theorem dw_sum {q q1 q2 q3 r r1 r2 r3 a b c d x : Int} (e1 : q * x + r = a) (e2 : q1 * x + r1 = r * 18446744073709551616 + b) (e3 : q2 * x + r2 = r1 * 18446744073709551616 + c) (e4 : q3 * x + r3 = r2 * 18446744073709551616 + d) :
    wW q q1 q2 q3 * x + r3 = wW a b c d := by
  have h1 : q * 18446744073709551616 * x = q * x * 18446744073709551616 := Int.mul_right_comm _ _ _
  have h2 : q2 * 18446744073709551616 * x = q2 * x * 18446744073709551616 := Int.mul_right_comm _ _ _
  have h3 : (q * 18446744073709551616 + q1) * 340282366920938463463374607431768211456 * x = (q * 18446744073709551616 + q1) * x * 340282366920938463463374607431768211456 := Int.mul_right_comm _ _ _
  unfold wW wV
  rw [Int.add_mul, h3, Int.add_mul, Int.add_mul, Int.add_mul, h1, h2]
  omega

theorem add_hk_tree (K : Value → Nat → Prop) (a b c d : Int) :
 funcK (envK 6 rulesWE []) 30 221 [wU a b, wU c d] [] Tryz.prog.globals.size (fun u _ _ mw => K u mw) =
 (bsel (decide ((0 : Int) ≤ b) && decide ((0 : Int) ≤ d) && decide ((0 : Int) ≤ (0 : Int)) && decide ((0 : Int) ≤ (1 : Int))) (bsel (decide ((0 : Int) ≤ a) && decide ((0 : Int) ≤ c) && decide ((0 : Int) ≤ (b + d + (0 : Int)) / (18446744073709551616 : Int)) && decide ((b + d + (0 : Int)) / (18446744073709551616 : Int) ≤ (1 : Int))) (K (Value.tuple (Array.mk [Value.agg (Array.mk [Value.int .u64 ((a + c + (b + d + (0 : Int)) / (18446744073709551616 : Int)) % (18446744073709551616 : Int)), Value.int .u64 ((b + d + (0 : Int)) % (18446744073709551616 : Int))]), Value.int .u64 ((a + c + (b + d + (0 : Int)) / (18446744073709551616 : Int)) / (18446744073709551616 : Int))])) 12) False) False) := by kernel_rfl
theorem add_hk (a b c d : Int) (h1 : u64 a) (h2 : u64 b) (h3 : u64 c) (h4 : u64 d) : ReckA (envK 6 rulesWE []) 30 221 [wU a b, wU c d] (isAdd) := by
  constructor
  rw [add_hk_tree fun u mw => (isAdd) u ∧ Tryz.prog.globals.size ≤ mw]
  refine bsel_of (fun _ => bsel_of (fun _ => ⟨⟨_, _, _, rfl, u64_mod _, u64_mod _, by unfold u64 at *; omega⟩, Nat.le_of_ble_eq_true (by kernel_rfl)⟩) (fun hn => by simp only [Bool.and_eq_false_iff, decide_eq_false_iff_not, wrap_u64'] at hn; unfold u64 at *; omega)) (fun hn => by simp only [Bool.and_eq_false_iff, decide_eq_false_iff_not, wrap_u64'] at hn; unfold u64 at *; omega)
theorem mulw_hk_tree (K : Value → Nat → Prop) (a b x : Int) :
 funcK (envK 6 rulesWE []) 30 168 [wU a b, w64 x] [] Tryz.prog.globals.size (fun u _ _ mw => K u mw) =
 ((u64 b ∧ u64 x) ∧ ∀ (h l : Int), u64 h → u64 l → (u64 a ∧ u64 x) ∧ ∀ (h_1 l_1 : Int), u64 h_1 → u64 l_1 → bsel (decide ((0 : Int) ≤ l_1) && decide ((0 : Int) ≤ h) && decide ((0 : Int) ≤ (0 : Int)) && decide ((0 : Int) ≤ (1 : Int))) (K (Value.tuple (Array.mk [Value.int .u64 (IntKind.wrap .u64 (h_1 + (l_1 + h + (0 : Int)) / (18446744073709551616 : Int))), Value.agg (Array.mk [Value.int .u64 ((l_1 + h + (0 : Int)) % (18446744073709551616 : Int)), Value.int .u64 l])])) 11) False) := by kernel_rfl
theorem mulw_hk (a b x : Int) (h1 : u64 a) (h2 : u64 b) (h3 : u64 x) : ReckA (envK 6 rulesWE []) 30 168 [wU a b, w64 x] (isMulWord) := by
  constructor
  rw [mulw_hk_tree fun u mw => (isMulWord) u ∧ Tryz.prog.globals.size ≤ mw]
  refine ⟨⟨h2, h3⟩, fun h l hh hl => ⟨⟨h1, h3⟩, fun h' l' hh' hl' => bsel_of (fun _ => ⟨⟨_, _, _, rfl, u64_wrap _, u64_mod _, hl⟩, Nat.le_of_ble_eq_true (by kernel_rfl)⟩) (fun hn => by simp only [Bool.and_eq_false_iff, decide_eq_false_iff_not, wrap_u64'] at hn; unfold u64 at *; omega)⟩⟩
theorem mul_hk_tree (K : Value → Nat → Prop) (a b c d : Int) :
 funcK (envK 6 rulesWE []) 30 176 [wU a b, wU c d] [] Tryz.prog.globals.size (fun u _ _ mw => K u mw) =
 ((u64 b ∧ u64 d) ∧ ∀ (h l : Int), u64 h → u64 l → (u64 a ∧ u64 d) ∧ ∀ (h_1 l_1 : Int), u64 h_1 → u64 l_1 → bsel (decide ((0 : Int) ≤ l_1) && decide ((0 : Int) ≤ h) && decide ((0 : Int) ≤ (0 : Int)) && decide ((0 : Int) ≤ (1 : Int))) ((u64 b ∧ u64 c) ∧ ∀ (h_2 l_2 : Int), u64 h_2 → u64 l_2 → (u64 a ∧ u64 c) ∧ ∀ (h_3 l_3 : Int), u64 h_3 → u64 l_3 → bsel (decide ((0 : Int) ≤ l_3) && decide ((0 : Int) ≤ h_2) && decide ((0 : Int) ≤ (0 : Int)) && decide ((0 : Int) ≤ (1 : Int))) (bsel (decide ((0 : Int) ≤ (l_1 + h + (0 : Int)) % (18446744073709551616 : Int)) && decide ((0 : Int) ≤ l_2) && decide ((0 : Int) ≤ (0 : Int)) && decide ((0 : Int) ≤ (1 : Int))) (bsel (decide ((0 : Int) ≤ IntKind.wrap .u64 (h_1 + (l_1 + h + (0 : Int)) / (18446744073709551616 : Int))) && decide ((0 : Int) ≤ (l_3 + h_2 + (0 : Int)) % (18446744073709551616 : Int)) && decide ((0 : Int) ≤ ((l_1 + h + (0 : Int)) % (18446744073709551616 : Int) + l_2 + (0 : Int)) / (18446744073709551616 : Int)) && decide (((l_1 + h + (0 : Int)) % (18446744073709551616 : Int) + l_2 + (0 : Int)) / (18446744073709551616 : Int) ≤ (1 : Int))) (K (Value.tuple (Array.mk [Value.agg (Array.mk [Value.int .u64 (IntKind.wrap .u64 (IntKind.wrap .u64 (h_3 + (l_3 + h_2 + (0 : Int)) / (18446744073709551616 : Int)) + (IntKind.wrap .u64 (h_1 + (l_1 + h + (0 : Int)) / (18446744073709551616 : Int)) + (l_3 + h_2 + (0 : Int)) % (18446744073709551616 : Int) + ((l_1 + h + (0 : Int)) % (18446744073709551616 : Int) + l_2 + (0 : Int)) / (18446744073709551616 : Int)) / (18446744073709551616 : Int))), Value.int .u64 ((IntKind.wrap .u64 (h_1 + (l_1 + h + (0 : Int)) / (18446744073709551616 : Int)) + (l_3 + h_2 + (0 : Int)) % (18446744073709551616 : Int) + ((l_1 + h + (0 : Int)) % (18446744073709551616 : Int) + l_2 + (0 : Int)) / (18446744073709551616 : Int)) % (18446744073709551616 : Int))]), Value.agg (Array.mk [Value.int .u64 (((l_1 + h + (0 : Int)) % (18446744073709551616 : Int) + l_2 + (0 : Int)) % (18446744073709551616 : Int)), Value.int .u64 l])])) 12) False) False) False) False) := by kernel_rfl
theorem mul_hk (a b c d : Int) (h1 : u64 a) (h2 : u64 b) (h3 : u64 c) (h4 : u64 d) : ReckA (envK 6 rulesWE []) 30 176 [wU a b, wU c d] (isMul) := by
  constructor
  rw [mul_hk_tree fun u mw => (isMul) u ∧ Tryz.prog.globals.size ≤ mw]
  refine ⟨⟨h2, h4⟩, fun h l hh hl => ⟨⟨h1, h4⟩, fun h' l' hh' hl' => bsel_of (fun _ => ⟨⟨h2, h3⟩, fun h5 l5 hh5 hl5 => ⟨⟨h1, h3⟩, fun h6 l6 hh6 hl6 => bsel_of (fun _ => bsel_of (fun _ => bsel_of (fun _ => ⟨⟨_, _, _, _, rfl, u64_wrap _, u64_mod _, u64_mod _, hl⟩, Nat.le_of_ble_eq_true (by kernel_rfl)⟩) (fun hn => by simp only [Bool.and_eq_false_iff, decide_eq_false_iff_not, wrap_u64'] at hn; unfold u64 at *; omega)) (fun hn => by simp only [Bool.and_eq_false_iff, decide_eq_false_iff_not, wrap_u64'] at hn; unfold u64 at *; omega)) (fun hn => by simp only [Bool.and_eq_false_iff, decide_eq_false_iff_not, wrap_u64'] at hn; unfold u64 at *; omega)⟩⟩) (fun hn => by simp only [Bool.and_eq_false_iff, decide_eq_false_iff_not, wrap_u64'] at hn; unfold u64 at *; omega)⟩⟩
theorem add2_hk_tree (K : Value → Nat → Prop) (a b c d e f g h : Int) :
 funcK (envK 6 rulesWE []) 30 251 [wU a b, wU c d, wU e f, wU g h] [] Tryz.prog.globals.size (fun u _ _ mw => K u mw) =
 (bsel (decide ((0 : Int) ≤ d) && decide ((0 : Int) ≤ h) && decide ((0 : Int) ≤ (0 : Int)) && decide ((0 : Int) ≤ (1 : Int))) (bsel (decide ((0 : Int) ≤ c) && decide ((0 : Int) ≤ g) && decide ((0 : Int) ≤ (d + h + (0 : Int)) / (18446744073709551616 : Int)) && decide ((d + h + (0 : Int)) / (18446744073709551616 : Int) ≤ (1 : Int))) (bsel (decide ((0 : Int) ≤ b) && decide ((0 : Int) ≤ f) && decide ((0 : Int) ≤ (0 : Int)) && decide ((0 : Int) ≤ (1 : Int))) (bsel (decide ((0 : Int) ≤ a) && decide ((0 : Int) ≤ e) && decide ((0 : Int) ≤ (b + f + (0 : Int)) / (18446744073709551616 : Int)) && decide ((b + f + (0 : Int)) / (18446744073709551616 : Int) ≤ (1 : Int))) (bsel (decide ((0 : Int) ≤ (b + f + (0 : Int)) % (18446744073709551616 : Int)) && decide ((0 : Int) ≤ (c + g + (d + h + (0 : Int)) / (18446744073709551616 : Int)) / (18446744073709551616 : Int)) && decide ((0 : Int) ≤ (0 : Int)) && decide ((0 : Int) ≤ (1 : Int))) (bsel (decide ((0 : Int) ≤ (a + e + (b + f + (0 : Int)) / (18446744073709551616 : Int)) % (18446744073709551616 : Int)) && decide ((0 : Int) ≤ (0 : Int)) && decide ((0 : Int) ≤ ((b + f + (0 : Int)) % (18446744073709551616 : Int) + (c + g + (d + h + (0 : Int)) / (18446744073709551616 : Int)) / (18446744073709551616 : Int) + (0 : Int)) / (18446744073709551616 : Int)) && decide (((b + f + (0 : Int)) % (18446744073709551616 : Int) + (c + g + (d + h + (0 : Int)) / (18446744073709551616 : Int)) / (18446744073709551616 : Int) + (0 : Int)) / (18446744073709551616 : Int) ≤ (1 : Int))) (K (Value.tuple (Array.mk [Value.agg (Array.mk [Value.int .u64 (((a + e + (b + f + (0 : Int)) / (18446744073709551616 : Int)) % (18446744073709551616 : Int) + (0 : Int) + ((b + f + (0 : Int)) % (18446744073709551616 : Int) + (c + g + (d + h + (0 : Int)) / (18446744073709551616 : Int)) / (18446744073709551616 : Int) + (0 : Int)) / (18446744073709551616 : Int)) % (18446744073709551616 : Int)), Value.int .u64 (((b + f + (0 : Int)) % (18446744073709551616 : Int) + (c + g + (d + h + (0 : Int)) / (18446744073709551616 : Int)) / (18446744073709551616 : Int) + (0 : Int)) % (18446744073709551616 : Int))]), Value.agg (Array.mk [Value.int .u64 ((c + g + (d + h + (0 : Int)) / (18446744073709551616 : Int)) % (18446744073709551616 : Int)), Value.int .u64 ((d + h + (0 : Int)) % (18446744073709551616 : Int))]), Value.int .u64 (IntKind.wrap .u64 ((a + e + (b + f + (0 : Int)) / (18446744073709551616 : Int)) / (18446744073709551616 : Int) + ((a + e + (b + f + (0 : Int)) / (18446744073709551616 : Int)) % (18446744073709551616 : Int) + (0 : Int) + ((b + f + (0 : Int)) % (18446744073709551616 : Int) + (c + g + (d + h + (0 : Int)) / (18446744073709551616 : Int)) / (18446744073709551616 : Int) + (0 : Int)) / (18446744073709551616 : Int)) / (18446744073709551616 : Int)))])) 14) False) False) False) False) False) False) := by kernel_rfl
theorem add2_hk (a b c d e f g h : Int) (h1 : u64 a) (h2 : u64 b) (h3 : u64 c) (h4 : u64 d) (h5 : u64 e) (h6 : u64 f) (h7 : u64 g) (h8 : u64 h) : ReckA (envK 6 rulesWE []) 30 251 [wU a b, wU c d, wU e f, wU g h] (isAdd2) := by
  constructor
  rw [add2_hk_tree fun u mw => (isAdd2) u ∧ Tryz.prog.globals.size ≤ mw]
  refine bsel_of (fun _ => bsel_of (fun _ => bsel_of (fun _ => bsel_of (fun _ => bsel_of (fun _ => bsel_of (fun _ => ⟨⟨_, _, _, _, _, rfl, u64_mod _, u64_mod _, u64_mod _, u64_mod _, u64_wrap _⟩, Nat.le_of_ble_eq_true (by kernel_rfl)⟩) (fun hn => by simp only [Bool.and_eq_false_iff, decide_eq_false_iff_not, wrap_u64'] at hn; unfold u64 at *; omega)) (fun hn => by simp only [Bool.and_eq_false_iff, decide_eq_false_iff_not, wrap_u64'] at hn; unfold u64 at *; omega)) (fun hn => by simp only [Bool.and_eq_false_iff, decide_eq_false_iff_not, wrap_u64'] at hn; unfold u64 at *; omega)) (fun hn => by simp only [Bool.and_eq_false_iff, decide_eq_false_iff_not, wrap_u64'] at hn; unfold u64 at *; omega)) (fun hn => by simp only [Bool.and_eq_false_iff, decide_eq_false_iff_not, wrap_u64'] at hn; unfold u64 at *; omega)) (fun hn => by simp only [Bool.and_eq_false_iff, decide_eq_false_iff_not, wrap_u64'] at hn; unfold u64 at *; omega)
theorem dw_hk_tree (K : Value → Nat → Prop) (a b c d x : Int) :
 funcK (envK 6 rulesWE []) 30 182 [wU a b, wU c d, w64 x] [] Tryz.prog.globals.size (fun u _ _ mw => K u mw) =
 (bsel (x == (0 : Int)) (K (Value.tuple (Array.mk [Value.agg (Array.mk [Value.int .u64 (Int.ofNat 0), Value.int .u64 (Int.ofNat 0)]), Value.agg (Array.mk [Value.int .u64 (Int.ofNat 0), Value.int .u64 (Int.ofNat 0)]), Value.int .u64 (Int.ofNat 0), Value.bool false])) 12) ((u64 (Int.ofNat 0) ∧ u64 a ∧ u64 x ∧ Int.ofNat 0 < x) ∧ ∀ (q r : Int), u64 q → Int.ofNat 0 ≤ r → r < x → q * x + r = Int.ofNat 0 + a → (u64 r ∧ u64 b ∧ u64 x ∧ r < x) ∧ ∀ (q_1 r_1 : Int), u64 q_1 → Int.ofNat 0 ≤ r_1 → r_1 < x → q_1 * x + r_1 = r * Int.ofNat 18446744073709551616 + b → (u64 r_1 ∧ u64 c ∧ u64 x ∧ r_1 < x) ∧ ∀ (q_2 r : Int), u64 q_2 → Int.ofNat 0 ≤ r → r < x → q_2 * x + r = r_1 * Int.ofNat 18446744073709551616 + c → (u64 r ∧ u64 d ∧ u64 x ∧ r < x) ∧ ∀ (q_3 r_2 : Int), u64 q_3 → Int.ofNat 0 ≤ r_2 → r_2 < x → q_3 * x + r_2 = r * Int.ofNat 18446744073709551616 + d → K (Value.tuple (Array.mk [Value.agg (Array.mk [Value.int .u64 q, Value.int .u64 q_1]), Value.agg (Array.mk [Value.int .u64 q_2, Value.int .u64 q_3]), Value.int .u64 r_2, Value.bool true])) 12)) := by kernel_rfl
theorem dw_hk (a b c d x : Int) (h1 : u64 a) (h2 : u64 b) (h3 : u64 c) (h4 : u64 d) (h5 : u64 x) (h0 : 0 < x) : ReckA (envK 6 rulesWE []) 30 182 [wU a b, wU c d, w64 x] (isDW a b c d x) := by
  constructor
  rw [dw_hk_tree fun u mw => (isDW a b c d x) u ∧ Tryz.prog.globals.size ≤ mw]
  have ur : ∀ r : Int, 0 ≤ r → r < x → u64 r := fun r k0 k1 => by unfold u64 at *; omega
  refine bsel_of (fun hx => absurd (eq_of_beq hx) (by omega)) (fun _ => ⟨⟨by unfold u64; decide, h1, h5, h0⟩, fun q r k1 k2 k3 e1 => ⟨⟨ur r k2 k3, h2, h5, k3⟩, fun q' r' k1' k2' k3' e2 => ⟨⟨ur r' k2' k3', h3, h5, k3'⟩, fun p s k4 k5 k6 e3 => ⟨⟨ur s k5 k6, h4, h5, k6⟩, fun p' s' k4' k5' k6' e4 => ?_⟩⟩⟩⟩)
  exact ⟨⟨_, _, _, _, _, rfl, k1, k1', k4, k4', ur s' k5' k6', k6', dw_sum (e1.trans (Int.zero_add _)) e2 e3 e4⟩, Nat.le_of_ble_eq_true (by kernel_rfl)⟩

def isZero (a b : Int) (u : Value) : Prop := u = .bool (a == 0 && b == 0)
theorem zero_hk_tree (K : Value → Nat → Prop) (a b : Int) :
 funcK (envK 6 rulesWE []) 30 88 [wU a b] [] Tryz.prog.globals.size (fun u _ _ mw => K u mw) =
 (bsel (a == (0 : Int)) (bsel (b == (0 : Int)) (K (Value.bool true) 18446744073709551616) (K (Value.bool false) 18446744073709551616)) (K (Value.bool false) 18446744073709551616)) := by kernel_rfl
theorem zero_hk (a b : Int) (h1 : u64 a) (h2 : u64 b) : ReckA (envK 6 rulesWE []) 30 88 [wU a b] (isZero a b) := by
  constructor
  rw [zero_hk_tree fun u mw => (isZero a b) u ∧ Tryz.prog.globals.size ≤ mw]
  refine bsel_of (fun h => bsel_of (fun h' => ⟨by unfold isZero; rw [h, h']; rfl, Nat.le_of_ble_eq_true (by kernel_rfl)⟩) (fun h' => ⟨by unfold isZero; rw [h, h']; rfl, Nat.le_of_ble_eq_true (by kernel_rfl)⟩)) (fun h => ⟨by unfold isZero; rw [h]; rfl, Nat.le_of_ble_eq_true (by kernel_rfl)⟩)

theorem wide_tot {base : World} {f : FuncId} {args : List Value} {S : Value → Prop} (hk : ReckA (envK 6 rulesWE []) 30 f args S) (hp : ∀ v, S v → pureV 6 v = true) (ha : ∀ x ∈ args, pureV 6 x = true) : ∃ v, S v ∧ TotA base f args v :=
  totA_of (envK_ok (rulesWE_ok base)) (findL_ok (l := []) rfl fun _ h => nomatch h) rfl hk hp ha

def ruleAdd : Rule := ruleA fun args => match args with
  | [.agg ⟨[.int .u64 a, .int .u64 b]⟩, .agg ⟨[.int .u64 c, .int .u64 d]⟩] => some fun K => (u64 a ∧ u64 b ∧ u64 c ∧ u64 d) ∧ ∀ x y z, u64 x → u64 y → u64 z → K (.tuple #[wU x y, w64 z])
  | _ => none
theorem add_ok {base : World} : RuleOk Tryz.prog base 221 ruleAdd := ruleOkA fun args T K hT hK => by
  split at hT
  · cases hT
    obtain ⟨⟨h1, h2, h3, h4⟩, hK⟩ := hK
    obtain ⟨v, ⟨x, y, z, rfl, k1, k2, k3⟩, ht⟩ := wide_tot (base := base) (add_hk _ _ _ _ h1 h2 h3 h4) (fun v ⟨_, _, _, hv, _⟩ => by subst hv; kernel_rfl) (List.forall_mem_cons.2 ⟨by kernel_rfl, List.forall_mem_cons.2 ⟨by kernel_rfl, fun _ h => nomatch h⟩⟩)
    exact ⟨_, hK x y z k1 k2 k3, ht⟩
  · cases hT

def ruleMulW : Rule := ruleA fun args => match args with
  | [.agg ⟨[.int .u64 a, .int .u64 b]⟩, .int .u64 x] => some fun K => (u64 a ∧ u64 b ∧ u64 x) ∧ ∀ x y z, u64 x → u64 y → u64 z → K (.tuple #[w64 x, wU y z])
  | _ => none
theorem mulw_ok {base : World} : RuleOk Tryz.prog base 168 ruleMulW := ruleOkA fun args T K hT hK => by
  split at hT
  · cases hT
    obtain ⟨⟨h1, h2, h3⟩, hK⟩ := hK
    obtain ⟨v, ⟨x, y, z, rfl, k1, k2, k3⟩, ht⟩ := wide_tot (base := base) (mulw_hk _ _ _ h1 h2 h3) (fun v ⟨_, _, _, hv, _⟩ => by subst hv; kernel_rfl) (List.forall_mem_cons.2 ⟨by kernel_rfl, List.forall_mem_cons.2 ⟨by kernel_rfl, fun _ h => nomatch h⟩⟩)
    exact ⟨_, hK x y z k1 k2 k3, ht⟩
  · cases hT

def ruleMul : Rule := ruleA fun args => match args with
  | [.agg ⟨[.int .u64 a, .int .u64 b]⟩, .agg ⟨[.int .u64 c, .int .u64 d]⟩] => some fun K => (u64 a ∧ u64 b ∧ u64 c ∧ u64 d) ∧ ∀ x y z w, u64 x → u64 y → u64 z → u64 w → K (.tuple #[wU x y, wU z w])
  | _ => none
theorem mul_ok {base : World} : RuleOk Tryz.prog base 176 ruleMul := ruleOkA fun args T K hT hK => by
  split at hT
  · cases hT
    obtain ⟨⟨h1, h2, h3, h4⟩, hK⟩ := hK
    obtain ⟨v, ⟨x, y, z, w, rfl, k1, k2, k3, k4⟩, ht⟩ := wide_tot (base := base) (mul_hk _ _ _ _ h1 h2 h3 h4) (fun v ⟨_, _, _, _, hv, _⟩ => by subst hv; kernel_rfl) (List.forall_mem_cons.2 ⟨by kernel_rfl, List.forall_mem_cons.2 ⟨by kernel_rfl, fun _ h => nomatch h⟩⟩)
    exact ⟨_, hK x y z w k1 k2 k3 k4, ht⟩
  · cases hT

def ruleAdd2 : Rule := ruleA fun args => match args with
  | [.agg ⟨[.int .u64 a, .int .u64 b]⟩, .agg ⟨[.int .u64 c, .int .u64 d]⟩, .agg ⟨[.int .u64 e, .int .u64 f]⟩, .agg ⟨[.int .u64 g, .int .u64 h]⟩] => some fun K => (u64 a ∧ u64 b ∧ u64 c ∧ u64 d ∧ u64 e ∧ u64 f ∧ u64 g ∧ u64 h) ∧ ∀ x y z w o, u64 x → u64 y → u64 z → u64 w → u64 o → K (.tuple #[wU x y, wU z w, w64 o])
  | _ => none
theorem add2_ok {base : World} : RuleOk Tryz.prog base 251 ruleAdd2 := ruleOkA fun args T K hT hK => by
  split at hT
  · cases hT
    obtain ⟨⟨h1, h2, h3, h4, h5, h6, h7, h8⟩, hK⟩ := hK
    obtain ⟨v, ⟨x, y, z, w, o, rfl, k1, k2, k3, k4, k5⟩, ht⟩ := wide_tot (base := base) (add2_hk _ _ _ _ _ _ _ _ h1 h2 h3 h4 h5 h6 h7 h8) (fun v ⟨_, _, _, _, _, hv, _⟩ => by subst hv; kernel_rfl) (List.forall_mem_cons.2 ⟨by kernel_rfl, List.forall_mem_cons.2 ⟨by kernel_rfl, List.forall_mem_cons.2 ⟨by kernel_rfl, List.forall_mem_cons.2 ⟨by kernel_rfl, fun _ h => nomatch h⟩⟩⟩⟩)
    exact ⟨_, hK x y z w o k1 k2 k3 k4 k5, ht⟩
  · cases hT

def ruleDW : Rule := ruleA fun args => match args with
  | [.agg ⟨[.int .u64 a, .int .u64 b]⟩, .agg ⟨[.int .u64 c, .int .u64 d]⟩, .int .u64 x] => some fun K => (u64 a ∧ u64 b ∧ u64 c ∧ u64 d ∧ u64 x ∧ 0 < x) ∧ ∀ e f g h r, u64 e → u64 f → u64 g → u64 h → u64 r → wW e f g h * x + r = wW a b c d → K (.tuple #[wU e f, wU g h, w64 r, .bool true])
  | _ => none
theorem dw_ok {base : World} : RuleOk Tryz.prog base 182 ruleDW := ruleOkA fun args T K hT hK => by
  split at hT
  · cases hT
    obtain ⟨⟨h1, h2, h3, h4, h5, h6⟩, hK⟩ := hK
    obtain ⟨v, ⟨e, f, g, h, r, rfl, k1, k2, k3, k4, k5, _, k7⟩, ht⟩ := wide_tot (base := base) (dw_hk _ _ _ _ _ h1 h2 h3 h4 h5 h6) (fun v ⟨_, _, _, _, _, hv, _⟩ => by subst hv; kernel_rfl) (List.forall_mem_cons.2 ⟨by kernel_rfl, List.forall_mem_cons.2 ⟨by kernel_rfl, List.forall_mem_cons.2 ⟨by kernel_rfl, fun _ h => nomatch h⟩⟩⟩)
    exact ⟨_, hK e f g h r k1 k2 k3 k4 k5 k7, ht⟩
  · cases hT

def ruleZero : Rule := ruleA fun args => match args with
  | [.agg ⟨[.int .u64 a, .int .u64 b]⟩] => some fun K => (u64 a ∧ u64 b) ∧ K (.bool (a == 0 && b == 0))
  | _ => none
theorem zero_ok {base : World} : RuleOk Tryz.prog base 88 ruleZero := ruleOkA fun args T K hT hK => by
  split at hT
  · cases hT
    obtain ⟨⟨h1, h2⟩, hK⟩ := hK
    obtain ⟨v, rfl, ht⟩ := wide_tot (base := base) (zero_hk _ _ h1 h2) (fun v hv => by rw [show v = _ from hv]; kernel_rfl) (List.forall_mem_cons.2 ⟨by kernel_rfl, fun _ h => nomatch h⟩)
    exact ⟨_, hK, ht⟩
  · cases hT

/-- The rules of wide numbers. -/
def rulesWF : List (Nat × Rule) := (88, ruleZero) :: (169, ruleCmp) :: (221, ruleAdd) :: (168, ruleMulW) :: (176, ruleMul) :: (251, ruleAdd2) :: (182, ruleDW) :: (87, ruleDiv) :: (172, rulePlain mostV) :: rules0
theorem rulesWF_ok (base : World) : ∀ x ∈ rulesWF, RuleOk Tryz.prog base x.1 x.2 := List.forall_mem_cons.2 ⟨zero_ok, List.forall_mem_cons.2 ⟨cmp_ok, List.forall_mem_cons.2 ⟨add_ok, List.forall_mem_cons.2 ⟨mulw_ok, List.forall_mem_cons.2 ⟨mul_ok, List.forall_mem_cons.2 ⟨add2_ok, List.forall_mem_cons.2 ⟨dw_ok, List.forall_mem_cons.2 ⟨div_ok, List.forall_mem_cons.2 ⟨most_okA, rules0_ok base⟩⟩⟩⟩⟩⟩⟩⟩⟩

end Go.Proofs.YtdbjbmdaekgbhaaGreatDoor

namespace Go.Proofs.YtdbjbmdaekgbhaaGreatDoor
open Go Go.Pe Go.RowKit

def i64 (x : Int) : Prop := -9223372036854775808 ≤ x ∧ x < 9223372036854775808
theorem i64_zero : i64 0 := ⟨by decide, by decide⟩
theorem i64_wrap (x : Int) : i64 (IntKind.wrap .i64 x) := by
  have h : IntKind.wrap .i64 x = if x % 18446744073709551616 ≥ 9223372036854775808 then x % 18446744073709551616 - 18446744073709551616 else x % 18446744073709551616 := by
    simp [IntKind.wrap, IntKind.bits, IntKind.signed]
  rw [h]
  unfold i64
  split <;> omega

structure DgS where
  (a b c d n : Int)
def dgL1 : LoopS DgS where
  fn := 218
  keys := [2, 3, 5]
  kv x := [ptr 10, ptr 11, .int .i64 x.n]
  hp x := [(11, blkU x.c x.d), (10, blkU x.a x.b)]
  lo := 12
  nx := 12
  mw := 10
  size := 33
def dgI (n : Nat) (x : DgS) : Prop := (u64 x.a ∧ u64 x.b ∧ u64 x.c ∧ u64 x.d) ∧ i64 x.n ∧ n = (wW x.a x.b x.c x.d).toNat
def dgI2 (n : Nat) (x : DgS) : Prop := (u64 x.a ∧ u64 x.b ∧ u64 x.c ∧ u64 x.d) ∧ i64 x.n ∧ n = (wV x.c x.d).toNat
def dgO (x : DgS) : Prop := (u64 x.a ∧ u64 x.b ∧ u64 x.c ∧ u64 x.d) ∧ i64 x.n

theorem dg1_tree (P : Exit → Bool → List Value → Heap → Nat → Nat → Nat → FuncId → List (FuncId × List Value) → Prop) (a b c d n : Int) :
 codeK (envW rulesWF []) (funcK (envW rulesWF []) 30) (loopOf Tryz.prog 218 2) (dgL1.st ⟨a, b, c, d, n⟩) (dgL1.look P) =
 ((u64 a ∧ u64 b) ∧ bsel (DgS.a (DgS.mk a b c d n) == (0 : Int) && DgS.b (DgS.mk a b c d n) == (0 : Int)) (P (Go.Exit.exit 0) true [Value.pointer (some (Addr.mk 10 0 none)), Value.pointer (some (Addr.mk 11 0 none)), Value.int .i64 n] [(11, Blk.mk [some (Value.int .u64 c), some (Value.int .u64 d)] 24 true 0 none false), (10, Blk.mk [some (Value.int .u64 a), some (Value.int .u64 b)] 24 true 0 none false)] 12 10 33 218 []) ((u64 a ∧ u64 b ∧ u64 c ∧ u64 d ∧ u64 (Int.ofNat 10000000000000000000) ∧ Int.ofNat 0 < Int.ofNat 10000000000000000000) ∧ ∀ (e f g h r : Int), u64 e → u64 f → u64 g → u64 h → u64 r → wW e f g h * Int.ofNat 10000000000000000000 + r = wW (DgS.a (DgS.mk a b c d n)) (DgS.b (DgS.mk a b c d n)) (DgS.c (DgS.mk a b c d n)) (DgS.d (DgS.mk a b c d n)) → P Go.Exit.normal true [Value.pointer (some (Addr.mk 10 0 none)), Value.pointer (some (Addr.mk 11 0 none)), Value.int .i64 (IntKind.wrap .i64 (DgS.n (DgS.mk a b c d n) + (19 : Int)))] [(11, Blk.mk [some (Value.int .u64 g), some (Value.int .u64 h)] 24 true 0 none false), (10, Blk.mk [some (Value.int .u64 e), some (Value.int .u64 f)] 24 true 0 none false)] 12 10 33 218 [])) := by kernel_rfl
theorem dg2_tree (P : Exit → Bool → List Value → Heap → Nat → Nat → Nat → FuncId → List (FuncId × List Value) → Prop) (a b c d n : Int) :
 codeK (envW rulesWF []) (funcK (envW rulesWF []) 30) (loopOf Tryz.prog 218 5) (dgL1.st ⟨a, b, c, d, n⟩) (dgL1.look P) =
 ((u64 c ∧ u64 d) ∧ bsel (DgS.c (DgS.mk a b c d n) == (0 : Int) && DgS.d (DgS.mk a b c d n) == (0 : Int)) (P (Go.Exit.exit 2) true [Value.pointer (some (Addr.mk 10 0 none)), Value.pointer (some (Addr.mk 11 0 none)), Value.int .i64 n] [(11, Blk.mk [some (Value.int .u64 c), some (Value.int .u64 d)] 24 true 0 none false), (10, Blk.mk [some (Value.int .u64 a), some (Value.int .u64 b)] 24 true 0 none false)] 12 10 33 218 []) ((u64 (Int.ofNat 0) ∧ u64 (Int.ofNat 0) ∧ u64 c ∧ u64 d ∧ u64 (Int.ofNat 10) ∧ Int.ofNat 0 < Int.ofNat 10) ∧ ∀ (e f g h r : Int), u64 e → u64 f → u64 g → u64 h → u64 r → wW e f g h * Int.ofNat 10 + r = wW (0 : Int) (0 : Int) (DgS.c (DgS.mk a b c d n)) (DgS.d (DgS.mk a b c d n)) → P Go.Exit.normal true [Value.pointer (some (Addr.mk 10 0 none)), Value.pointer (some (Addr.mk 11 0 none)), Value.int .i64 (IntKind.wrap .i64 (DgS.n (DgS.mk a b c d n) + (1 : Int)))] [(11, Blk.mk [some (Value.int .u64 g), some (Value.int .u64 h)] 24 true 0 none false), (10, Blk.mk [some (Value.int .u64 a), some (Value.int .u64 b)] 24 true 0 none false)] 12 10 33 218 [])) := by kernel_rfl

theorem dg1_round (n : Nat) (a b c d m : Int) (hI : dgI n ⟨a, b, c, d, m⟩) :
    Hush (codeK (envW rulesWF []) (funcK (envW rulesWF []) 30) (loopOf Tryz.prog 218 2) (dgL1.st ⟨a, b, c, d, m⟩) (dgL1.look (dgL1.To dgI dgO (fun _ => False) 0 n))) := by
  constructor
  rw [dg1_tree]
  obtain ⟨⟨h1, h2, h3, h4⟩, h5, hn⟩ := hI
  simp only at h1 h2 h3 h4 h5 hn
  refine ⟨⟨h1, h2⟩, bsel_of (fun hz => ?_) (fun hz => ?_)⟩
  · exact ⟨rfl, ⟨a, b, c, d, m⟩, ⟨⟨h1, h2, h3, h4⟩, h5⟩, LoopS.At.quick [] rfl rfl (by kernel_rfl) rfl (by kernel_rfl) rfl rfl rfl⟩
  · refine ⟨⟨h1, h2, h3, h4, u64_lit rfl, by decide⟩, fun e f g h r k1 k2 k3 k4 k5 k6 => ?_⟩
    have k6 : wW e f g h * 10000000000000000000 + r = wW a b c d := k6
    refine ⟨(wW e f g h).toNat, ⟨e, f, g, h, _⟩, ?_, ⟨⟨k1, k2, k3, k4⟩, i64_wrap _, rfl⟩, LoopS.At.quick [] rfl rfl (by kernel_rfl) rfl (by kernel_rfl) rfl rfl rfl⟩
    have hab : ¬ (a = 0 ∧ b = 0) := fun ⟨ha, hb⟩ => by simp [ha, hb] at hz
    unfold u64 at *
    unfold wW wV at *
    omega

theorem dg2_round (n : Nat) (a b c d m : Int) (hI : dgI2 n ⟨a, b, c, d, m⟩) :
    Hush (codeK (envW rulesWF []) (funcK (envW rulesWF []) 30) (loopOf Tryz.prog 218 5) (dgL1.st ⟨a, b, c, d, m⟩) (dgL1.look (dgL1.To dgI2 dgO (fun _ => False) 2 n))) := by
  constructor
  rw [dg2_tree]
  obtain ⟨⟨h1, h2, h3, h4⟩, h5, hn⟩ := hI
  simp only at h1 h2 h3 h4 h5 hn
  refine ⟨⟨h3, h4⟩, bsel_of (fun hz => ?_) (fun hz => ?_)⟩
  · exact ⟨rfl, ⟨a, b, c, d, m⟩, ⟨⟨h1, h2, h3, h4⟩, h5⟩, LoopS.At.quick [] rfl rfl (by kernel_rfl) rfl (by kernel_rfl) rfl rfl rfl⟩
  · refine ⟨⟨u64_lit rfl, u64_lit rfl, h3, h4, u64_lit rfl, by decide⟩, fun e f g h r k1 k2 k3 k4 k5 k6 => ?_⟩
    have k6 : wW e f g h * 10 + r = wW 0 0 c d := k6
    refine ⟨(wV g h).toNat, ⟨a, b, g, h, _⟩, ?_, ⟨⟨h1, h2, k3, k4⟩, i64_wrap _, rfl⟩, LoopS.At.quick [] rfl rfl (by kernel_rfl) rfl (by kernel_rfl) rfl rfl rfl⟩
    have hab : ¬ (c = 0 ∧ d = 0) := fun ⟨ha, hb⟩ => by simp [ha, hb] at hz
    unfold u64 at *
    unfold wW wV at *
    omega

theorem dg1_rounds : Rounds (envW rulesWF []) 30 (loopOf Tryz.prog 218 2) dgL1 dgI dgO (fun _ => False) 0 := ⟨fun n x hI => dg1_round n x.a x.b x.c x.d x.n hI⟩
theorem dg2_rounds : Rounds (envW rulesWF []) 30 (loopOf Tryz.prog 218 5) dgL1 dgI2 dgO (fun _ => False) 2 := ⟨fun n x hI => dg2_round n x.a x.b x.c x.d x.n hI⟩
def dgT1 : LoopW := fun c s K => loopT (loopOf Tryz.prog 218 2) dgL1 dgI dgO 0 c s K
def dgT2 : LoopW := fun c s K => loopT (loopOf Tryz.prog 218 5) dgL1 dgI2 dgO 2 c s K
def loopsF : List ((Nat × Nat) × LoopW) := [((218, 2), dgT1), ((218, 5), dgT2)]
theorem dgT1_ok {E : Env} (hP : E.P = Tryz.prog) (hW : E.weak = true) {base : World} : LoopOk E base dgT1 := fun c s K h =>
  loopT_ok (E := envW rulesWF []) hP hW (envW_ok (rulesWF_ok base)) (findL_ok (l := []) rfl fun _ h => nomatch h) (by kernel_rfl) (by kernel_rfl) dg1_rounds h
theorem dgT2_ok {E : Env} (hP : E.P = Tryz.prog) (hW : E.weak = true) {base : World} : LoopOk E base dgT2 := fun c s K h =>
  loopT_ok (E := envW rulesWF []) hP hW (envW_ok (rulesWF_ok base)) (findL_ok (l := []) rfl fun _ h => nomatch h) (by kernel_rfl) (by kernel_rfl) dg2_rounds h
theorem loopsF_ok {E : Env} (hP : E.P = Tryz.prog) (hW : E.weak = true) (base : World) : ∀ x ∈ loopsF, LoopOk E base x.2 := List.forall_mem_cons.2 ⟨dgT1_ok hP hW, List.forall_mem_cons.2 ⟨dgT2_ok hP hW, fun _ h => nomatch h⟩⟩
def isI64 (u : Value) : Prop := ∃ n, u = .int .i64 n ∧ i64 n
theorem digits_hk_tree (K : Value → Nat → Prop) (a b c d : Int) :
 funcK (envW rulesWF loopsF) 30 218 [wU a b, wU c d] [] Tryz.prog.globals.size (fun u _ _ mw => K u mw) =
 (Is (loopOf Go.Proofs.Tryz.prog 218 2) (loopOf Go.Proofs.Tryz.prog 218 2) ∧ ∃ (x : Nat), ∃ (x_1 : DgS), (dgI x x_1 ∧ true = true ∧ LoopS.At dgL1 x_1 true [Value.pointer (some (Addr.mk 10 0 none)), Value.pointer (some (Addr.mk 11 0 none)), Value.int .i64 (Int.ofNat 0)] [(11, Blk.mk [some (Value.int .u64 c), some (Value.int .u64 d)] 24 true 0 none false), (10, Blk.mk [some (Value.int .u64 a), some (Value.int .u64 b)] 24 true 0 none false)] 12 18446744073709551616 33 218 []) ∧ ∀ (a' : DgS), dgO a' → Is (loopOf Go.Proofs.Tryz.prog 218 5) (loopOf Go.Proofs.Tryz.prog 218 5) ∧ ∃ (x : Nat), ∃ (x_2 : DgS), (dgI2 x x_2 ∧ true = true ∧ LoopS.At dgL1 x_2 true [Value.pointer (some (Addr.mk 10 0 none)), Value.pointer (some (Addr.mk 11 0 none)), Value.int .i64 (DgS.n a')] [(11, Blk.mk [some (Value.int .u64 (DgS.c a')), some (Value.int .u64 (DgS.d a'))] 24 true 0 none false), (10, Blk.mk [some (Value.int .u64 (DgS.a a')), some (Value.int .u64 (DgS.b a'))] 24 true 0 none false)] 12 10 33 218 []) ∧ ∀ (a' : DgS), dgO a' → K (Value.int .i64 (DgS.n a')) 10) := by kernel_rfl
theorem digits_hk (a b c d : Int) (h1 : u64 a) (h2 : u64 b) (h3 : u64 c) (h4 : u64 d) : ReckA (envW rulesWF loopsF) 30 218 [wU a b, wU c d] (isI64) := by
  constructor
  rw [digits_hk_tree fun u mw => (isI64) u ∧ Tryz.prog.globals.size ≤ mw]
  refine ⟨⟨rfl⟩, _, ⟨a, b, c, d, 0⟩, ⟨⟨⟨h1, h2, h3, h4⟩, i64_zero, rfl⟩, by kernel_rfl, LoopS.At.quick [] rfl rfl (by kernel_rfl) rfl (by kernel_rfl) rfl rfl rfl⟩, fun ⟨a', b', c', d', n'⟩ ⟨⟨q1, q2, q3, q4⟩, q5⟩ => ⟨⟨rfl⟩, _, ⟨a', b', c', d', n'⟩, ⟨⟨⟨q1, q2, q3, q4⟩, q5, rfl⟩, by kernel_rfl, LoopS.At.quick [] rfl rfl (by kernel_rfl) rfl (by kernel_rfl) rfl rfl rfl⟩, fun ⟨_, _, _, _, n''⟩ ⟨_, q6⟩ => ⟨⟨_, rfl, q6⟩, Nat.le_refl _⟩⟩⟩

def ruleDigits : Rule := ruleA fun args => match args with
  | [.agg ⟨[.int .u64 a, .int .u64 b]⟩, .agg ⟨[.int .u64 c, .int .u64 d]⟩] => some fun K => (u64 a ∧ u64 b ∧ u64 c ∧ u64 d) ∧ ∀ n, i64 n → K (.int .i64 n)
  | _ => none
theorem digits_ok {base : World} : RuleOk Tryz.prog base 218 ruleDigits := ruleOkA fun args T K hT hK => by
  split at hT
  · cases hT
    obtain ⟨⟨h1, h2, h3, h4⟩, hK⟩ := hK
    obtain ⟨v, ⟨n, rfl, k1⟩, ht⟩ := totA_of (envW_ok (rulesWF_ok base)) (findL_ok rfl (loopsF_ok rfl rfl base)) rfl (digits_hk _ _ _ _ h1 h2 h3 h4) (fun v ⟨_, hv, _⟩ => by subst hv; kernel_rfl) (List.forall_mem_cons.2 ⟨by kernel_rfl, List.forall_mem_cons.2 ⟨by kernel_rfl, fun _ h => nomatch h⟩⟩)
    exact ⟨_, hK n k1, ht⟩
  · cases hT

end Go.Proofs.YtdbjbmdaekgbhaaGreatDoor
