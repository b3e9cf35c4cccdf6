/-
  Numbers of 128 and 256 bits, exactly: sums, products by a word, a quotient by a word, the count of digits.
  Numbers of 34 digits: what is fitted may be.
-/
import Derived.Test.YthmogphlnjpakaaGreatDoorWc1

namespace Go.Proofs.YthmogphlnjpakaaGreatDoor
open Go Go.Pe Go.RowKit
theorem step_lo {c q r m V P : Int} (hP : 0 ≤ P) (hq : q * m + r = c) (hr : 0 ≤ r) (h : c * P ≤ V) : q * (P * m) ≤ V := by
  have e : q * (P * m) = q * m * P := by rw [Int.mul_comm P m, ← Int.mul_assoc]
  rw [e]
  exact Int.le_trans (Int.mul_le_mul_of_nonneg_right (by omega) hP) h
theorem step_hi {c q r m V P : Int} (hP : 0 ≤ P) (hq : q * m + r = c) (hr : r < m) (h : V < (c + 1) * P) : V < (q + 1) * (P * m) := by
  have e : (q + 1) * (P * m) = (q * m + m) * P := by rw [Int.mul_comm P m, ← Int.mul_assoc, Int.add_mul, Int.one_mul]
  rw [e]
  exact Int.lt_of_lt_of_le h (Int.mul_le_mul_of_nonneg_right (by omega) hP)
theorem pow_pos10 (j : Nat) : (0 : Int) < 10 ^ j := Int.pow_pos (by decide)
theorem digits_few {c V : Int} {j : Nat} (hc : 0 < c) (h : c * 10 ^ j ≤ V) (hV : V < 10 ^ 78) : j < 78 := by
  have h1 : (10 : Int) ^ j ≤ c * 10 ^ j := by
    have := Int.mul_le_mul_of_nonneg_right (show (1 : Int) ≤ c by omega) (Int.le_of_lt (pow_pos10 j))
    rwa [Int.one_mul] at this
  have h2 : (10 : Int) ^ j < 10 ^ 78 := Int.lt_of_le_of_lt (Int.le_trans h1 h) hV
  have h3 : 10 ^ j < 10 ^ 78 := by exact_mod_cast h2
  exact (Nat.pow_lt_pow_iff_right (a := 10) (by decide)).1 h3
theorem cut_top {v V P T : Int} (hP : 0 < P) (h : v * P ≤ V + P) (hV : V < T * P) : v ≤ T := by
  have h1 : v * P < (T + 1) * P := by
    rw [Int.add_mul, Int.one_mul]
    omega
  have := Int.lt_of_mul_lt_mul_right h1 (Int.le_of_lt hP)
  omega
theorem pow_le10 {j k : Nat} (h : j ≤ k) : (10 : Int) ^ j ≤ 10 ^ k := by
  have : 10 ^ j ≤ 10 ^ k := Nat.pow_le_pow_right (by decide) h
  exact_mod_cast this
theorem pow_add10 (j k : Nat) : (10 : Int) ^ (j + k) = 10 ^ j * 10 ^ k := Int.pow_add ..
def ruleMul64X : Rule := ruleA fun args => match args with
  | [.int .u64 x, .int .u64 y] => some fun K => (u64 x ∧ u64 y) ∧ ∀ h l : Int, u64 h → u64 l → h * 18446744073709551616 + l = x * y → K (.tuple #[w64 h, w64 l])
  | _ => none
theorem mul64X_ok {base : World} : RuleOk Tryz.prog base 259 ruleMul64X := ruleOkA fun args T K hT hK => by
  split at hT
  · cases hT
    obtain ⟨⟨⟨a0, a1⟩, ⟨b0, b1⟩⟩, hK⟩ := hK
    obtain ⟨A, rfl⟩ := Int.eq_ofNat_of_zero_le a0
    obtain ⟨B, rfl⟩ := Int.eq_ofNat_of_zero_le b0
    have hA : A < 18446744073709551616 := by omega
    have hB : B < 18446744073709551616 := by omega
    have hm : A * B < 18446744073709551616 * 18446744073709551616 := Nat.mul_lt_mul'' hA hB
    have hd : A * B / 18446744073709551616 < 18446744073709551616 := Nat.div_lt_of_lt_mul hm
    refine ⟨_, hK ((A * B / 18446744073709551616 : Nat) : Int) ((A * B % 18446744073709551616 : Nat) : Int) ⟨by omega, by omega⟩ ⟨by omega, by omega⟩ ?_, totA_contract (args := [.int .u64 (A : Int), .int .u64 (B : Int)]) (fn := Tryz.f259) Tryz.func259 (by kernel_rfl) (List.forall_mem_cons.2 ⟨by kernel_rfl, List.forall_mem_cons.2 ⟨by kernel_rfl, fun _ h => nomatch h⟩⟩) (by kernel_rfl) fun w => Tryz.bits_Mul64 A B hA hB w⟩
    have e : (A : Int) * (B : Int) = ((A * B : Nat) : Int) := (Int.natCast_mul _ _).symm
    rw [e]
    generalize A * B = M
    omega
  · cases hT
def rulesXE : List (Nat × Rule) := (259, ruleMul64X) :: rulesWE
theorem rulesXE_ok (base : World) : ∀ x ∈ rulesXE, RuleOk Tryz.prog base x.1 x.2 := List.forall_mem_cons.2 ⟨mul64X_ok, rulesWE_ok base⟩
def isAddx (a b c d : Int) (u : Value) : Prop := ∃ x y z, u = .tuple #[wU x y, w64 z] ∧ (u64 x ∧ u64 y ∧ u64 z ∧ z ≤ 1 ∧ z * 340282366920938463463374607431768211456 + wV x y = wV a b + wV c d)
theorem addx_hk_tree (K : Value → Nat → Prop) (a b c d : Int) :
 funcK (envK 6 rulesXE []) 30 255 [.agg ⟨[.int .u64 a, .int .u64 b]⟩, .agg ⟨[.int .u64 c, .int .u64 d]⟩] [] Tryz.prog.globals.size (fun u _ _ mw => K u mw) =
 (bsel (decide ((0 : Int) ≤ b) && decide ((0 : Int) ≤ d) && decide ((0 : Int) ≤ (0 : Int)) && decide ((0 : Int) ≤ (1 : Int))) (bsel (decide ((0 : Int) ≤ a) && decide ((0 : Int) ≤ c) && decide ((0 : Int) ≤ (b + d + (0 : Int)) / (18446744073709551616 : Int)) && decide ((b + d + (0 : Int)) / (18446744073709551616 : Int) ≤ (1 : Int))) (K (.tuple (Array.mk [.agg (Array.mk [.int .u64 ((a + c + (b + d + (0 : Int)) / (18446744073709551616 : Int)) % (18446744073709551616 : Int)), .int .u64 ((b + d + (0 : Int)) % (18446744073709551616 : Int))]), .int .u64 ((a + c + (b + d + (0 : Int)) / (18446744073709551616 : Int)) / (18446744073709551616 : Int))])) 12) False) False) := by kernel_rfl
theorem addx_hk (a b c d : Int) (h1 : u64 a) (h2 : u64 b) (h3 : u64 c) (h4 : u64 d) : ReckA (envK 6 rulesXE []) 30 255 [.agg ⟨[.int .u64 a, .int .u64 b]⟩, .agg ⟨[.int .u64 c, .int .u64 d]⟩] (isAddx a b c d) := by
  constructor
  rw [addx_hk_tree fun u mw => (isAddx a b c d) u ∧ Tryz.prog.globals.size ≤ mw]
  refine bsel_of (fun _ => bsel_of (fun _ => ⟨⟨_, _, _, rfl, u64_mod _, u64_mod _, by unfold u64 at *; omega, by unfold u64 at *; omega, by unfold u64 at *; unfold wV; omega⟩, Nat.le_of_ble_eq_true (by kernel_rfl)⟩) (fun hn => by simp only [Bool.and_eq_false_iff, decide_eq_false_iff_not, wrap_u64'] at hn; unfold u64 at *; omega)) (fun hn => by simp only [Bool.and_eq_false_iff, decide_eq_false_iff_not, wrap_u64'] at hn; unfold u64 at *; omega)
def ruleAddx : Rule := ruleA fun args => match args with
  | [.agg ⟨[.int .u64 a, .int .u64 b]⟩, .agg ⟨[.int .u64 c, .int .u64 d]⟩] => some fun K => (u64 a ∧ u64 b ∧ u64 c ∧ u64 d) ∧ ∀ x y z, u64 x → u64 y → u64 z → z ≤ 1 → z * 340282366920938463463374607431768211456 + wV x y = wV a b + wV c d → K (.tuple #[wU x y, w64 z])
  | _ => none
theorem addx_ok {base : World} : RuleOk Tryz.prog base 255 ruleAddx := ruleOkA fun args T K hT hK => by
  split at hT
  · cases hT
    obtain ⟨⟨h1, h2, h3, h4⟩, hK⟩ := hK
    obtain ⟨v, ⟨r0, r1, r2, rfl, hf⟩, ht⟩ := totA_of (base := base) (envK_ok (rulesXE_ok base)) (findL_ok (l := []) rfl fun _ h => nomatch h) rfl (addx_hk _ _ _ _ h1 h2 h3 h4) (fun v ⟨_, _, _, hv, _⟩ => by subst hv; kernel_rfl) (List.forall_mem_cons.2 ⟨by kernel_rfl, List.forall_mem_cons.2 ⟨by kernel_rfl, fun _ h => nomatch h⟩⟩)
    exact ⟨_, hK r0 r1 r2 hf.1 hf.2.1 hf.2.2.1 hf.2.2.2.1 hf.2.2.2.2, ht⟩
  · cases hT
def rulesXE2 : List (Nat × Rule) := (255, ruleAddx) :: rulesXE
theorem rulesXE2_ok (base : World) : ∀ x ∈ rulesXE2, RuleOk Tryz.prog base x.1 x.2 := List.forall_mem_cons.2 ⟨addx_ok, rulesXE_ok base⟩
def isAdd2x (a b c d e f g h : Int) (u : Value) : Prop := ∃ x y z w o, u = .tuple #[wU x y, wU z w, w64 o] ∧ (u64 x ∧ u64 y ∧ u64 z ∧ u64 w ∧ u64 o ∧ o * 115792089237316195423570985008687907853269984665640564039457584007913129639936 + wW x y z w = wW a b c d + wW e f g h)
theorem add2x_hk_tree (K : Value → Nat → Prop) (a b c d e f g h : Int) :
 funcK (envK 6 rulesXE2 []) 30 286 [.agg ⟨[.int .u64 a, .int .u64 b]⟩, .agg ⟨[.int .u64 c, .int .u64 d]⟩, .agg ⟨[.int .u64 e, .int .u64 f]⟩, .agg ⟨[.int .u64 g, .int .u64 h]⟩] [] Tryz.prog.globals.size (fun u _ _ mw => K u mw) =
 ((u64 c ∧ u64 d ∧ u64 g ∧ u64 h) ∧ ∀ (x y z : Int), u64 x → u64 y → u64 z → z ≤ Int.ofNat 1 → z * Int.ofNat 340282366920938463463374607431768211456 + wV x y = wV c d + wV g h → (u64 a ∧ u64 b ∧ u64 e ∧ u64 f) ∧ ∀ (x_1 y_1 z_1 : Int), u64 x_1 → u64 y_1 → u64 z_1 → z_1 ≤ Int.ofNat 1 → z_1 * Int.ofNat 340282366920938463463374607431768211456 + wV x_1 y_1 = wV a b + wV e f → (u64 x_1 ∧ u64 y_1 ∧ u64 (Int.ofNat 0) ∧ u64 z) ∧ ∀ (x_2 y_2 z_2 : Int), u64 x_2 → u64 y_2 → u64 z_2 → z_2 ≤ Int.ofNat 1 → z_2 * Int.ofNat 340282366920938463463374607431768211456 + wV x_2 y_2 = wV x_1 y_1 + wV (0 : Int) z → K (.tuple (Array.mk [.agg (Array.mk [.int .u64 x_2, .int .u64 y_2]), .agg (Array.mk [.int .u64 x, .int .u64 y]), .int .u64 (IntKind.wrap .u64 (z_1 + z_2))])) 14) := by kernel_rfl
theorem add2x_hk (a b c d e f g h : Int) (h1 : u64 a) (h2 : u64 b) (h3 : u64 c) (h4 : u64 d) (h5 : u64 e) (h6 : u64 f) (h7 : u64 g) (h8 : u64 h) : ReckA (envK 6 rulesXE2 []) 30 286 [.agg ⟨[.int .u64 a, .int .u64 b]⟩, .agg ⟨[.int .u64 c, .int .u64 d]⟩, .agg ⟨[.int .u64 e, .int .u64 f]⟩, .agg ⟨[.int .u64 g, .int .u64 h]⟩] (isAdd2x a b c d e f g h) := by
  constructor
  rw [add2x_hk_tree fun u mw => (isAdd2x a b c d e f g h) u ∧ Tryz.prog.globals.size ≤ mw]
  refine ⟨⟨h3, h4, h7, h8⟩, fun x1 y1 z1 a1 a2 a3 a4 a5 => ⟨⟨h1, h2, h5, h6⟩, fun x2 y2 z2 b1 b2 b3 b4 b5 => ⟨⟨b1, b2, u64_lit rfl, a3⟩, fun x3 y3 z3 c1 c2 c3 c4 c5 => ?_⟩⟩⟩
  have a5 : z1 * 340282366920938463463374607431768211456 + wV x1 y1 = wV c d + wV g h := a5
  have b5 : z2 * 340282366920938463463374607431768211456 + wV x2 y2 = wV a b + wV e f := b5
  have c5 : z3 * 340282366920938463463374607431768211456 + wV x3 y3 = wV x2 y2 + wV 0 z1 := c5
  have a4 : z1 ≤ 1 := a4
  have b4 : z2 ≤ 1 := b4
  have c4 : z3 ≤ 1 := c4
  exact ⟨⟨_, _, _, _, _, rfl, c1, c2, a1, a2, u64_wrap _, by rw [wrap_u64']; unfold u64 at *; unfold wW wV at *; omega⟩, Nat.le_of_ble_eq_true (by kernel_rfl)⟩
def ruleAdd2x : Rule := ruleA fun args => match args with
  | [.agg ⟨[.int .u64 a, .int .u64 b]⟩, .agg ⟨[.int .u64 c, .int .u64 d]⟩, .agg ⟨[.int .u64 e, .int .u64 f]⟩, .agg ⟨[.int .u64 g, .int .u64 h]⟩] => some fun K => (u64 a ∧ u64 b ∧ u64 c ∧ u64 d ∧ u64 e ∧ u64 f ∧ u64 g ∧ u64 h) ∧ ∀ x y z w o, u64 x → u64 y → u64 z → u64 w → u64 o → o * 115792089237316195423570985008687907853269984665640564039457584007913129639936 + wW x y z w = wW a b c d + wW e f g h → K (.tuple #[wU x y, wU z w, w64 o])
  | _ => none
theorem add2x_ok {base : World} : RuleOk Tryz.prog base 286 ruleAdd2x := ruleOkA fun args T K hT hK => by
  split at hT
  · cases hT
    obtain ⟨⟨h1, h2, h3, h4, h5, h6, h7, h8⟩, hK⟩ := hK
    obtain ⟨v, ⟨r0, r1, r2, r3, r4, rfl, hf⟩, ht⟩ := totA_of (base := base) (envK_ok (rulesXE2_ok base)) (findL_ok (l := []) rfl fun _ h => nomatch h) rfl (add2x_hk _ _ _ _ _ _ _ _ h1 h2 h3 h4 h5 h6 h7 h8) (fun v ⟨_, _, _, _, _, hv, _⟩ => by subst hv; kernel_rfl) (List.forall_mem_cons.2 ⟨by kernel_rfl, List.forall_mem_cons.2 ⟨by kernel_rfl, List.forall_mem_cons.2 ⟨by kernel_rfl, List.forall_mem_cons.2 ⟨by kernel_rfl, fun _ h => nomatch h⟩⟩⟩⟩)
    exact ⟨_, hK r0 r1 r2 r3 r4 hf.1 hf.2.1 hf.2.2.1 hf.2.2.2.1 hf.2.2.2.2.1 hf.2.2.2.2.2, ht⟩
  · cases hT
def isMulwx (a b x : Int) (u : Value) : Prop := ∃ p y z, u = .tuple #[w64 p, wU y z] ∧ (u64 p ∧ u64 y ∧ u64 z ∧ p * 340282366920938463463374607431768211456 + wV y z = wV a b * x)
theorem mulwx_hk_tree (K : Value → Nat → Prop) (a b x : Int) :
 funcK (envK 6 rulesXE []) 30 220 [.agg ⟨[.int .u64 a, .int .u64 b]⟩, .int .u64 x] [] Tryz.prog.globals.size (fun u _ _ mw => K u mw) =
 ((u64 b ∧ u64 x) ∧ ∀ (h l : Int), u64 h → u64 l → h * Int.ofNat 18446744073709551616 + l = b * x → (u64 a ∧ u64 x) ∧ ∀ (h_1 l_1 : Int), u64 h_1 → u64 l_1 → h_1 * Int.ofNat 18446744073709551616 + l_1 = a * x → bsel (decide ((0 : Int) ≤ l_1) && decide ((0 : Int) ≤ h) && decide ((0 : Int) ≤ (0 : Int)) && decide ((0 : Int) ≤ (1 : Int))) (K (.tuple (Array.mk [.int .u64 (IntKind.wrap .u64 (h_1 + (l_1 + h + (0 : Int)) / (18446744073709551616 : Int))), .agg (Array.mk [.int .u64 ((l_1 + h + (0 : Int)) % (18446744073709551616 : Int)), .int .u64 l])])) 11) False) := by kernel_rfl
theorem mulwx_hk (a b x : Int) (h1 : u64 a) (h2 : u64 b) (h3 : u64 x) : ReckA (envK 6 rulesXE []) 30 220 [.agg ⟨[.int .u64 a, .int .u64 b]⟩, .int .u64 x] (isMulwx a b x) := by
  constructor
  rw [mulwx_hk_tree fun u mw => (isMulwx a b x) u ∧ Tryz.prog.globals.size ≤ mw]
  refine ⟨⟨h2, h3⟩, fun h l hh hl e1 => ⟨⟨h1, h3⟩, fun h' l' hh' hl' e2 => bsel_of (fun _ => ⟨⟨_, _, _, rfl, u64_wrap _, u64_mod _, hl, ?_⟩, Nat.le_of_ble_eq_true (by kernel_rfl)⟩) (fun hn => by simp only [Bool.and_eq_false_iff, decide_eq_false_iff_not, wrap_u64'] at hn; unfold u64 at *; omega)⟩⟩
  have e1 : h * 18446744073709551616 + l = b * x := e1
  have e2 : h' * 18446744073709551616 + l' = a * x := e2
  have e : wV a b * x = a * x * 18446744073709551616 + b * x := by
    unfold wV
    rw [Int.add_mul, Int.mul_right_comm]
  have bnd : ∀ p q : Int, u64 p → u64 q → p * q ≤ 18446744073709551615 * 18446744073709551615 := fun p q hp hq => Int.mul_le_mul (by have := hp.2; omega) (by have := hq.2; omega) hq.1 (by decide)
  have b1 := bnd a x h1 h3
  have b2 := bnd b x h2 h3
  rw [e]
  revert e1 e2 b1 b2
  generalize a * x = P
  generalize b * x = Q
  intro e1 e2 b1 b2
  unfold u64 at *
  unfold wV
  rw [wrap_u64']
  omega
def ruleMulwx : Rule := ruleA fun args => match args with
  | [.agg ⟨[.int .u64 a, .int .u64 b]⟩, .int .u64 x] => some fun K => (u64 a ∧ u64 b ∧ u64 x) ∧ ∀ p y z, u64 p → u64 y → u64 z → p * 340282366920938463463374607431768211456 + wV y z = wV a b * x → K (.tuple #[w64 p, wU y z])
  | _ => none
theorem mulwx_ok {base : World} : RuleOk Tryz.prog base 220 ruleMulwx := ruleOkA fun args T K hT hK => by
  split at hT
  · cases hT
    obtain ⟨⟨h1, h2, h3⟩, hK⟩ := hK
    obtain ⟨v, ⟨r0, r1, r2, rfl, hf⟩, ht⟩ := totA_of (base := base) (envK_ok (rulesXE_ok base)) (findL_ok (l := []) rfl fun _ h => nomatch h) rfl (mulwx_hk _ _ _ h1 h2 h3) (fun v ⟨_, _, _, hv, _⟩ => by subst hv; kernel_rfl) (List.forall_mem_cons.2 ⟨by kernel_rfl, List.forall_mem_cons.2 ⟨by kernel_rfl, fun _ h => nomatch h⟩⟩)
    exact ⟨_, hK r0 r1 r2 hf.1 hf.2.1 hf.2.2.1 hf.2.2.2, ht⟩
  · cases hT
def isDwx (a b c d x : Int) (u : Value) : Prop := ∃ e f g h r, u = .tuple #[wU e f, wU g h, w64 r, .bool true] ∧ (u64 e ∧ u64 f ∧ u64 g ∧ u64 h ∧ u64 r ∧ r < x ∧ wW e f g h * x + r = wW a b c d)
theorem dwx_hk_tree (K : Value → Nat → Prop) (a b c d x : Int) :
 funcK (envK 6 rulesXE []) 30 203 [.agg ⟨[.int .u64 a, .int .u64 b]⟩, .agg ⟨[.int .u64 c, .int .u64 d]⟩, .int .u64 x] [] Tryz.prog.globals.size (fun u _ _ mw => K u mw) =
 (bsel (x == (0 : Int)) (K (.tuple (Array.mk [.agg (Array.mk [.int .u64 (Int.ofNat 0), .int .u64 (Int.ofNat 0)]), .agg (Array.mk [.int .u64 (Int.ofNat 0), .int .u64 (Int.ofNat 0)]), .int .u64 (Int.ofNat 0), .bool false])) 12) ((u64 (Int.ofNat 0) ∧ u64 a ∧ u64 x ∧ Int.ofNat 0 < x) ∧ ∀ (q r : Int), u64 q → Int.ofNat 0 ≤ r → r < x → q * x + r = Int.ofNat 0 + a → (u64 r ∧ u64 b ∧ u64 x ∧ r < x) ∧ ∀ (q_1 r_1 : Int), u64 q_1 → Int.ofNat 0 ≤ r_1 → r_1 < x → q_1 * x + r_1 = r * Int.ofNat 18446744073709551616 + b → (u64 r_1 ∧ u64 c ∧ u64 x ∧ r_1 < x) ∧ ∀ (q_2 r : Int), u64 q_2 → Int.ofNat 0 ≤ r → r < x → q_2 * x + r = r_1 * Int.ofNat 18446744073709551616 + c → (u64 r ∧ u64 d ∧ u64 x ∧ r < x) ∧ ∀ (q_3 r_2 : Int), u64 q_3 → Int.ofNat 0 ≤ r_2 → r_2 < x → q_3 * x + r_2 = r * Int.ofNat 18446744073709551616 + d → K (.tuple (Array.mk [.agg (Array.mk [.int .u64 q, .int .u64 q_1]), .agg (Array.mk [.int .u64 q_2, .int .u64 q_3]), .int .u64 r_2, .bool true])) 12)) := by kernel_rfl
theorem dwx_hk (a b c d x : Int) (h1 : u64 a) (h2 : u64 b) (h3 : u64 c) (h4 : u64 d) (h5 : u64 x) (h0 : 0 < x) : ReckA (envK 6 rulesXE []) 30 203 [.agg ⟨[.int .u64 a, .int .u64 b]⟩, .agg ⟨[.int .u64 c, .int .u64 d]⟩, .int .u64 x] (isDwx a b c d x) := by
  constructor
  rw [dwx_hk_tree fun u mw => (isDwx a b c d x) u ∧ Tryz.prog.globals.size ≤ mw]
  have ur : ∀ r : Int, 0 ≤ r → r < x → u64 r := fun r k0 k1 => by unfold u64 at *; omega
  refine bsel_of (fun hx => absurd (eq_of_beq hx) (by omega)) (fun _ => ⟨⟨by unfold u64; decide, h1, h5, h0⟩, fun q r k1 k2 k3 e1 => ⟨⟨ur r k2 k3, h2, h5, k3⟩, fun q' r' k1' k2' k3' e2 => ⟨⟨ur r' k2' k3', h3, h5, k3'⟩, fun p s k4 k5 k6 e3 => ⟨⟨ur s k5 k6, h4, h5, k6⟩, fun p' s' k4' k5' k6' e4 => ?_⟩⟩⟩⟩)
  exact ⟨⟨_, _, _, _, _, rfl, k1, k1', k4, k4', ur s' k5' k6', k6', dw_sum (e1.trans (Int.zero_add _)) e2 e3 e4⟩, Nat.le_of_ble_eq_true (by kernel_rfl)⟩
def ruleDwx : Rule := ruleA fun args => match args with
  | [.agg ⟨[.int .u64 a, .int .u64 b]⟩, .agg ⟨[.int .u64 c, .int .u64 d]⟩, .int .u64 x] => some fun K => (u64 a ∧ u64 b ∧ u64 c ∧ u64 d ∧ u64 x ∧ 0 < x) ∧ ∀ e f g h r, u64 e → u64 f → u64 g → u64 h → u64 r → r < x → wW e f g h * x + r = wW a b c d → K (.tuple #[wU e f, wU g h, w64 r, .bool true])
  | _ => none
theorem dwx_ok {base : World} : RuleOk Tryz.prog base 203 ruleDwx := ruleOkA fun args T K hT hK => by
  split at hT
  · cases hT
    obtain ⟨⟨h1, h2, h3, h4, h5, h0⟩, hK⟩ := hK
    obtain ⟨v, ⟨r0, r1, r2, r3, r4, rfl, hf⟩, ht⟩ := totA_of (base := base) (envK_ok (rulesXE_ok base)) (findL_ok (l := []) rfl fun _ h => nomatch h) rfl (dwx_hk _ _ _ _ _ h1 h2 h3 h4 h5 h0) (fun v ⟨_, _, _, _, _, hv, _⟩ => by subst hv; kernel_rfl) (List.forall_mem_cons.2 ⟨by kernel_rfl, List.forall_mem_cons.2 ⟨by kernel_rfl, List.forall_mem_cons.2 ⟨by kernel_rfl, fun _ h => nomatch h⟩⟩⟩)
    exact ⟨_, hK r0 r1 r2 r3 r4 hf.1 hf.2.1 hf.2.2.1 hf.2.2.2.1 hf.2.2.2.2.1 hf.2.2.2.2.2.1 hf.2.2.2.2.2.2, ht⟩
  · cases hT
def rulesXF : List (Nat × Rule) := (203, ruleDwx) :: (220, ruleMulwx) :: (286, ruleAdd2x) :: (255, ruleAddx) :: rulesWF
theorem rulesXF_ok (base : World) : ∀ x ∈ rulesXF, RuleOk Tryz.prog base x.1 x.2 := List.forall_mem_cons.2 ⟨dwx_ok, List.forall_mem_cons.2 ⟨mulwx_ok, List.forall_mem_cons.2 ⟨add2x_ok, List.forall_mem_cons.2 ⟨addx_ok, rulesWF_ok base⟩⟩⟩⟩
/-! Digits -/
theorem wW_top {a b c d : Int} (h1 : u64 a) (h2 : u64 b) (h3 : u64 c) (h4 : u64 d) : wW a b c d < 10 ^ 78 := by
  unfold u64 at *
  unfold wW wV
  omega
def dxP (cur V n : Int) : Prop := V < 10 ^ 78 ∧ ∃ j : Nat, n = (j : Int) ∧ j ≤ 96 ∧ cur * 10 ^ j ≤ V ∧ V < (cur + 1) * 10 ^ j
theorem dxP_step {cur q r m V n : Int} {i : Nat} (hp : dxP cur V n) (hc : 0 < cur) (hm : m = 10 ^ i) (hi : i ≤ 19) (hr : 0 ≤ r) (hrm : r < m) (e : q * m + r = cur) : dxP q V (IntKind.wrap .i64 (n + (i : Int))) := by
  obtain ⟨hV, j, hn, hj, h1, h2⟩ := hp
  have hf := digits_few hc h1 hV
  refine ⟨hV, j + i, ?_, by omega, ?_, ?_⟩
  · rw [wrap_i64r (by unfold i64; omega)]
    omega
  · rw [pow_add10, ← hm]
    exact step_lo (Int.le_of_lt (pow_pos10 j)) e hr h1
  · rw [pow_add10, ← hm]
    exact step_hi (Int.le_of_lt (pow_pos10 j)) e hrm h2
structure dxaS where
  (a b c d n : Int)
noncomputable def dxaL : LoopS dxaS where
  fn := 256
  keys := [2, 3, 5]
  kv := fun ⟨a, b, c, d, n⟩ => [ptr 10, ptr 11, .int .i64 n]
  hp := fun ⟨a, b, c, d, n⟩ => [(11, blkU c d), (10, blkU a b)]
  lo := 12
  nx := 12
  mw := 10
  size := 33
theorem dxa_tree (P : Exit → Bool → List Value → Heap → Nat → Nat → Nat → FuncId → List (FuncId × List Value) → Prop) (a b c d n : Int) :
 codeK (envW rulesXF []) (funcK (envW rulesXF []) 30) (loopOf Tryz.prog 256 2) (dxaL.st ⟨a, b, c, d, n⟩) (dxaL.look P) =
 ((u64 a ∧ u64 b) ∧ bsel (a == (0 : Int) && b == (0 : Int)) (P (Go.Exit.exit 0) true [.pointer (some (Addr.mk 10 0 none)), .pointer (some (Addr.mk 11 0 none)), .int .i64 n] [(11, Blk.mk [some (Value.int .u64 c), some (Value.int .u64 d)] 86 true 0 none false), (10, Blk.mk [some (Value.int .u64 a), some (Value.int .u64 b)] 86 true 0 none false)] 12 10 33 256 []) ((u64 a ∧ u64 b ∧ u64 c ∧ u64 d ∧ u64 (Int.ofNat 10000000000000000000) ∧ Int.ofNat 0 < Int.ofNat 10000000000000000000) ∧ ∀ (e f g h r : Int), u64 e → u64 f → u64 g → u64 h → u64 r → r < Int.ofNat 10000000000000000000 → wW e f g h * Int.ofNat 10000000000000000000 + r = wW a b c d → P Go.Exit.normal true [.pointer (some (Addr.mk 10 0 none)), .pointer (some (Addr.mk 11 0 none)), .int .i64 (IntKind.wrap .i64 (n + (19 : Int)))] [(11, Blk.mk [some (Value.int .u64 g), some (Value.int .u64 h)] 86 true 0 none false), (10, Blk.mk [some (Value.int .u64 e), some (Value.int .u64 f)] 86 true 0 none false)] 12 10 33 256 [])) := by kernel_rfl
def dxaI (V : Int) (n : Nat) (x : dxaS) : Prop := (u64 x.a ∧ u64 x.b ∧ u64 x.c ∧ u64 x.d) ∧ dxP (wW x.a x.b x.c x.d) V x.n ∧ n = (wW x.a x.b x.c x.d).toNat
def dxaO (V : Int) (x : dxaS) : Prop := (u64 x.c ∧ u64 x.d) ∧ x.a = 0 ∧ x.b = 0 ∧ dxP (wV x.c x.d) V x.n
theorem dxa_round (V : Int) (n0 : Nat) (a b c d n : Int) (hI : dxaI V n0 ⟨a, b, c, d, n⟩) :
    Hush (codeK (envW rulesXF []) (funcK (envW rulesXF []) 30) (loopOf Tryz.prog 256 2) (dxaL.st ⟨a, b, c, d, n⟩) (dxaL.look (dxaL.To (dxaI V) (dxaO V) (fun _ => False) 0 n0))) := by
  constructor
  rw [dxa_tree]
  obtain ⟨⟨h1, h2, h3, h4⟩, h5, hn⟩ := hI
  try simp only at *
  refine ⟨⟨h1, h2⟩, bsel_of (fun hz => ⟨rfl, ⟨a, b, c, d, n⟩, ?_, LoopS.At.quick [] rfl rfl (by kernel_rfl) rfl (by kernel_rfl) rfl rfl rfl⟩) (fun hz => ⟨⟨h1, h2, h3, h4, u64_lit rfl, by decide⟩, fun e f g h r k1 k2 k3 k4 k5 k6 k7 => ?_⟩)⟩
  · have hz : a = 0 ∧ b = 0 := by simpa using hz
    obtain ⟨rfl, rfl⟩ := hz
    have e0 : wW 0 0 c d = wV c d := by
      unfold wW wV
      omega
    rw [e0] at h5
    exact ⟨⟨h3, h4⟩, rfl, rfl, h5⟩
  · have k7 : wW e f g h * 10000000000000000000 + r = wW a b c d := k7
    have k6 : r < 10000000000000000000 := k6
    have hab : ¬ (a = 0 ∧ b = 0) := fun ⟨ha, hb⟩ => by simp [ha, hb] at hz
    have hc : 0 < wW a b c d := by
      unfold u64 at *
      unfold wW wV at *
      omega
    have hq : 0 ≤ wW e f g h := by
      unfold u64 at *
      unfold wW wV at *
      omega
    have hlt : (wW e f g h).toNat < n0 := by
      have := k5.1
      omega
    exact ⟨_, ⟨e, f, g, h, _⟩, hlt, ⟨⟨k1, k2, k3, k4⟩, dxP_step (i := 19) h5 hc rfl (by decide) k5.1 k6 k7, rfl⟩, LoopS.At.quick [] rfl rfl (by kernel_rfl) rfl (by kernel_rfl) rfl rfl rfl⟩
theorem dxa_rounds (V : Int) : Rounds (envW rulesXF []) 30 (loopOf Tryz.prog 256 2) dxaL (dxaI V) (dxaO V) (fun _ => False) 0 := ⟨fun n x hI => dxa_round V n x.a x.b x.c x.d x.n hI⟩
def dxaT : LoopW := fun cq sq Kq => ∃ (V : Int), loopT (loopOf Tryz.prog 256 2) dxaL (dxaI V) (dxaO V) 0 cq sq Kq
theorem dxaT_ok {E : Env} (hP : E.P = Tryz.prog) (hW : E.weak = true) {base : World} : LoopOk E base dxaT := fun cq sq Kq ⟨V, h⟩ =>
  loopT_ok (E := envW rulesXF []) hP hW (envW_ok (rulesXF_ok base)) (findL_ok (l := []) rfl fun _ h => nomatch h) (by kernel_rfl) (by kernel_rfl) (dxa_rounds V) h
structure dxbS where
  (a b c d n : Int)
noncomputable def dxbL : LoopS dxbS where
  fn := 256
  keys := [2, 3, 5]
  kv := fun ⟨a, b, c, d, n⟩ => [ptr 10, ptr 11, .int .i64 n]
  hp := fun ⟨a, b, c, d, n⟩ => [(11, blkU c d), (10, blkU a b)]
  lo := 12
  nx := 12
  mw := 10
  size := 33
theorem dxb_tree (P : Exit → Bool → List Value → Heap → Nat → Nat → Nat → FuncId → List (FuncId × List Value) → Prop) (a b c d n : Int) :
 codeK (envW rulesXF []) (funcK (envW rulesXF []) 30) (loopOf Tryz.prog 256 5) (dxbL.st ⟨a, b, c, d, n⟩) (dxbL.look P) =
 ((u64 c ∧ u64 d) ∧ bsel (c == (0 : Int) && d == (0 : Int)) (P (Go.Exit.exit 2) true [.pointer (some (Addr.mk 10 0 none)), .pointer (some (Addr.mk 11 0 none)), .int .i64 n] [(11, Blk.mk [some (Value.int .u64 c), some (Value.int .u64 d)] 86 true 0 none false), (10, Blk.mk [some (Value.int .u64 a), some (Value.int .u64 b)] 86 true 0 none false)] 12 10 33 256 []) ((u64 (Int.ofNat 0) ∧ u64 (Int.ofNat 0) ∧ u64 c ∧ u64 d ∧ u64 (Int.ofNat 10) ∧ Int.ofNat 0 < Int.ofNat 10) ∧ ∀ (e f g h r : Int), u64 e → u64 f → u64 g → u64 h → u64 r → r < Int.ofNat 10 → wW e f g h * Int.ofNat 10 + r = wW (0 : Int) (0 : Int) c d → P Go.Exit.normal true [.pointer (some (Addr.mk 10 0 none)), .pointer (some (Addr.mk 11 0 none)), .int .i64 (IntKind.wrap .i64 (n + (1 : Int)))] [(11, Blk.mk [some (Value.int .u64 g), some (Value.int .u64 h)] 86 true 0 none false), (10, Blk.mk [some (Value.int .u64 a), some (Value.int .u64 b)] 86 true 0 none false)] 12 10 33 256 [])) := by kernel_rfl
def dxbI (V : Int) (n : Nat) (x : dxbS) : Prop := (u64 x.c ∧ u64 x.d) ∧ dxP (wV x.c x.d) V x.n ∧ n = (wV x.c x.d).toNat
def dxbO (V : Int) (x : dxbS) : Prop := dxP 0 V x.n
theorem dxb_round (V : Int) (n0 : Nat) (a b c d n : Int) (hI : dxbI V n0 ⟨a, b, c, d, n⟩) :
    Hush (codeK (envW rulesXF []) (funcK (envW rulesXF []) 30) (loopOf Tryz.prog 256 5) (dxbL.st ⟨a, b, c, d, n⟩) (dxbL.look (dxbL.To (dxbI V) (dxbO V) (fun _ => False) 2 n0))) := by
  constructor
  rw [dxb_tree]
  obtain ⟨⟨h3, h4⟩, h5, hn⟩ := hI
  try simp only at *
  refine ⟨⟨h3, h4⟩, bsel_of (fun hz => ⟨rfl, ⟨a, b, c, d, n⟩, ?_, LoopS.At.quick [] rfl rfl (by kernel_rfl) rfl (by kernel_rfl) rfl rfl rfl⟩) (fun hz => ⟨⟨u64_lit rfl, u64_lit rfl, h3, h4, u64_lit rfl, by decide⟩, fun e f g h r k1 k2 k3 k4 k5 k6 k7 => ?_⟩)⟩
  · have hz : c = 0 ∧ d = 0 := by simpa using hz
    obtain ⟨rfl, rfl⟩ := hz
    exact h5
  · have k7 : wW e f g h * 10 + r = wW 0 0 c d := k7
    have k6 : r < 10 := k6
    have hab : ¬ (c = 0 ∧ d = 0) := fun ⟨ha, hb⟩ => by simp [ha, hb] at hz
    have hc : 0 < wV c d := by
      unfold u64 at *
      unfold wV at *
      omega
    have e0 : wV g h * 10 + r = wV c d := by
      unfold u64 at *
      unfold wW wV at *
      omega
    have hlt : (wV g h).toNat < n0 := by
      have := k5.1
      omega
    exact ⟨_, ⟨a, b, g, h, _⟩, hlt, ⟨⟨k3, k4⟩, dxP_step (i := 1) h5 hc rfl (by decide) k5.1 k6 e0, rfl⟩, LoopS.At.quick [] rfl rfl (by kernel_rfl) rfl (by kernel_rfl) rfl rfl rfl⟩
theorem dxb_rounds (V : Int) : Rounds (envW rulesXF []) 30 (loopOf Tryz.prog 256 5) dxbL (dxbI V) (dxbO V) (fun _ => False) 2 := ⟨fun n x hI => dxb_round V n x.a x.b x.c x.d x.n hI⟩
def dxbT : LoopW := fun cq sq Kq => ∃ (V : Int), loopT (loopOf Tryz.prog 256 5) dxbL (dxbI V) (dxbO V) 2 cq sq Kq
theorem dxbT_ok {E : Env} (hP : E.P = Tryz.prog) (hW : E.weak = true) {base : World} : LoopOk E base dxbT := fun cq sq Kq ⟨V, h⟩ =>
  loopT_ok (E := envW rulesXF []) hP hW (envW_ok (rulesXF_ok base)) (findL_ok (l := []) rfl fun _ h => nomatch h) (by kernel_rfl) (by kernel_rfl) (dxb_rounds V) h
def loopsDx : List ((Nat × Nat) × LoopW) := [((256, 2), dxaT), ((256, 5), dxbT)]
theorem loopsDx_ok {E : Env} (hP : E.P = Tryz.prog) (hW : E.weak = true) (base : World) : ∀ x ∈ loopsDx, LoopOk E base x.2 := List.forall_mem_cons.2 ⟨dxaT_ok hP hW, List.forall_mem_cons.2 ⟨dxbT_ok hP hW, fun _ h => nomatch h⟩⟩
def isDigx (a b c d : Int) (u : Value) : Prop := ∃ (n : Int), u = .int .i64 n ∧ (0 ≤ n ∧ n ≤ 96 ∧ wW a b c d < 10 ^ n.toNat)
theorem digx_hk_tree (K : Value → Nat → Prop) (a b c d : Int) :
 funcK (envW rulesXF loopsDx) 30 256 [.agg ⟨[.int .u64 a, .int .u64 b]⟩, .agg ⟨[.int .u64 c, .int .u64 d]⟩] [] Tryz.prog.globals.size (fun u _ _ mw => K u mw) =
 (∃ (x : Int), Is (loopOf Go.Proofs.Tryz.prog 256 2) (loopOf Go.Proofs.Tryz.prog 256 2) ∧ ∃ (x_1 : Nat), ∃ (x_2 : dxaS), (dxaI x x_1 x_2 ∧ true = true ∧ LoopS.At dxaL x_2 true [.pointer (some (Addr.mk 10 0 none)), .pointer (some (Addr.mk 11 0 none)), .int .i64 (Int.ofNat 0)] [(11, Blk.mk [some (Value.int .u64 c), some (Value.int .u64 d)] 86 true 0 none false), (10, Blk.mk [some (Value.int .u64 a), some (Value.int .u64 b)] 86 true 0 none false)] 12 18446744073709551616 33 256 []) ∧ ∀ (a' : dxaS), dxaO x a' → ∃ (x : Int), Is (loopOf Go.Proofs.Tryz.prog 256 5) (loopOf Go.Proofs.Tryz.prog 256 5) ∧ ∃ (x_3 : Nat), ∃ (x_4 : dxbS), (dxbI x x_3 x_4 ∧ true = true ∧ LoopS.At dxbL x_4 true [.pointer (some (Addr.mk 10 0 none)), .pointer (some (Addr.mk 11 0 none)), .int .i64 a'.5] [(11, Blk.mk [some (Value.int .u64 a'.3), some (Value.int .u64 a'.4)] 86 true 0 none false), (10, Blk.mk [some (Value.int .u64 a'.1), some (Value.int .u64 a'.2)] 86 true 0 none false)] 12 10 33 256 []) ∧ ∀ (a' : dxbS), dxbO x a' → K (.int .i64 a'.5) 10) := by kernel_rfl
theorem digx_hk (a b c d : Int) (h1 : u64 a) (h2 : u64 b) (h3 : u64 c) (h4 : u64 d) : ReckA (envW rulesXF loopsDx) 30 256 [.agg ⟨[.int .u64 a, .int .u64 b]⟩, .agg ⟨[.int .u64 c, .int .u64 d]⟩] (isDigx a b c d) := by
  constructor
  rw [digx_hk_tree fun u mw => (isDigx a b c d) u ∧ Tryz.prog.globals.size ≤ mw]
  refine ⟨wW a b c d, ⟨rfl⟩, _, ⟨a, b, c, d, 0⟩, ⟨⟨⟨h1, h2, h3, h4⟩, ⟨wW_top h1 h2 h3 h4, 0, rfl, by decide, ?_, ?_⟩, rfl⟩, by kernel_rfl, LoopS.At.quick [] rfl rfl (by kernel_rfl) rfl (by kernel_rfl) rfl rfl rfl⟩, fun ⟨a', b', c', d', n'⟩ ⟨⟨q1, q2⟩, q3, q4, q5⟩ => ⟨wW a b c d, ⟨rfl⟩, _, ⟨a', b', c', d', n'⟩, ⟨⟨⟨q1, q2⟩, q5, rfl⟩, by kernel_rfl, LoopS.At.quick [] rfl rfl (by kernel_rfl) rfl (by kernel_rfl) rfl rfl rfl⟩, fun ⟨_, _, _, _, n2⟩ ⟨_, j, e, hj, _, hv⟩ => ⟨⟨n2, rfl, ?_, ?_, ?_⟩, Nat.le_of_ble_eq_true (by kernel_rfl)⟩⟩⟩
  · show wW a b c d * 10 ^ 0 ≤ wW a b c d
    rw [Int.pow_zero, Int.mul_one]
    exact Int.le_refl _
  · show wW a b c d < (wW a b c d + 1) * 10 ^ 0
    rw [Int.pow_zero, Int.mul_one]
    omega
  · have e : n2 = (j : Int) := e
    omega
  · have e : n2 = (j : Int) := e
    omega
  · have e : n2 = (j : Int) := e
    rw [e, Int.toNat_natCast]
    have hv : wW a b c d < (0 + 1) * 10 ^ j := hv
    rw [Int.zero_add, Int.one_mul] at hv
    exact hv
def ruleDigx : Rule := ruleA fun args => match args with
  | [.agg ⟨[.int .u64 a, .int .u64 b]⟩, .agg ⟨[.int .u64 c, .int .u64 d]⟩] => some fun K => (u64 a ∧ u64 b ∧ u64 c ∧ u64 d) ∧ ∀ (n : Int), 0 ≤ n → n ≤ 96 → wW a b c d < 10 ^ n.toNat → K (.int .i64 n)
  | _ => none
theorem digx_ok {base : World} : RuleOk Tryz.prog base 256 ruleDigx := ruleOkA fun args T K hT hK => by
  split at hT
  · cases hT
    obtain ⟨⟨h1, h2, h3, h4⟩, hK⟩ := hK
    obtain ⟨v, ⟨r0, rfl, hf⟩, ht⟩ := totA_of (base := base) (envW_ok (rulesXF_ok base)) (findL_ok rfl (loopsDx_ok rfl rfl base)) rfl (digx_hk _ _ _ _ h1 h2 h3 h4) (fun v ⟨_, hv, _⟩ => by subst hv; kernel_rfl) (List.forall_mem_cons.2 ⟨by kernel_rfl, List.forall_mem_cons.2 ⟨by kernel_rfl, fun _ h => nomatch h⟩⟩)
    exact ⟨_, hK r0 hf.1 hf.2.1 hf.2.2, ht⟩
  · cases hT
end Go.Proofs.YthmogphlnjpakaaGreatDoor

namespace Go.Proofs.YthmogphlnjpakaaGreatDoor
open Go Go.Pe Go.RowKit
theorem cut_step {cur q r V : Int} {j : Nat} (h : cur * 10 ^ j ≤ V) (e : q * 10 + r = cur) (hr : 0 ≤ r) : q * 10 ^ (j + 1) ≤ V := by
  rw [pow_add10]
  exact step_lo (Int.le_of_lt (pow_pos10 j)) e hr h
theorem cut_end {cur V K k : Int} {j : Nat} (h : cur * 10 ^ j ≤ V) (hk : k = K - (j : Int)) (h0 : 0 ≤ cur) (hV : 0 ≤ V) (he : k ≤ 0 ∨ cur = 0) : cur * 10 ^ K.toNat ≤ V := by
  rcases he with he | rfl
  · have h1 := pow_le10 (show K.toNat ≤ j by omega)
    exact Int.le_trans (Int.mul_le_mul_of_nonneg_left h1 h0) h
  · rw [Int.zero_mul]
    exact hV
theorem cut_up {cur v o V P : Int} (h : cur * P ≤ V) (hP : 0 < P) (ho : 0 ≤ o) (e : o * 115792089237316195423570985008687907853269984665640564039457584007913129639936 + v = cur + 1) : v * P ≤ V + P := by
  have h1 : v ≤ cur + 1 := by omega
  have h2 := Int.mul_le_mul_of_nonneg_right h1 (Int.le_of_lt hP)
  rw [Int.add_mul, Int.one_mul] at h2
  omega
theorem wW_nn {a b c d : Int} (h1 : u64 a) (h2 : u64 b) (h3 : u64 c) (h4 : u64 d) : 0 ≤ wW a b c d := by
  unfold u64 at *
  unfold wW wV
  omega
theorem ten_up {P x y z : Int} (k1 : u64 x) (k2 : u64 y) (k3 : u64 z) (h6 : 0 < P) (g5 : P < 1000000000000000000000000000000000) (k4 : x * 340282366920938463463374607431768211456 + wV y z = P * 10) : 0 < wV y z ∧ wV y z < 10000000000000000000000000000000000 := by
  have hw : 0 ≤ wV y z := by
    unfold u64 at k2 k3
    unfold wV
    omega
  have hx : 0 ≤ x := k1.1
  generalize wV y z = W at k4 hw ⊢
  clear k1 k2 k3
  have h1 : x * 340282366920938463463374607431768211456 ≤ 9999999999999999999999999999999990 := by omega
  have h2 : x < 1 := by
    refine Classical.byContradiction fun hn => ?_
    have h3 : 1 ≤ x := by omega
    have h4 := Int.mul_le_mul_of_nonneg_right h3 (show (0 : Int) ≤ 340282366920938463463374607431768211456 by decide)
    rw [Int.one_mul] at h4
    omega
  have h3 : x = 0 := by omega
  subst h3
  rw [Int.zero_mul, Int.zero_add] at k4
  subst k4
  constructor <;> omega
theorem lo_le {a b c d : Int} (h1 : u64 a) (h2 : u64 b) : wV c d ≤ wW a b c d := by
  unfold u64 at *
  unfold wW wV
  omega
theorem pos_of {c d : Int} (h3 : u64 c) (h4 : u64 d) (hz : (c == 0 && d == 0) = false) : 0 < wV c d := by
  have hab : ¬ (c = 0 ∧ d = 0) := fun ⟨ha, hb⟩ => by simp [ha, hb] at hz
  unfold u64 at *
  unfold wV
  omega
theorem clamp_ok (e : Int) : -6176 ≤ (match decide ((match decide ((6111 : Int) < e) with | true => (6111 : Int) | false => e) > -6176) with | true => (match decide ((6111 : Int) < e) with | true => (6111 : Int) | false => e) | false => (-6176 : Int)) ∧
    (match decide ((match decide ((6111 : Int) < e) with | true => (6111 : Int) | false => e) > -6176) with | true => (match decide ((6111 : Int) < e) with | true => (6111 : Int) | false => e) | false => (-6176 : Int)) ≤ 6111 := by
  by_cases h1 : (6111 : Int) < e
  · simp [h1]
  · by_cases h2 : e > -6176
    · simp only [h1, h2, decide_false, decide_true]
      omega
    · simp only [h1, h2, decide_false]
      omega
theorem low_ok {e : Int} (he : decide (e > 6111) = false) : -6176 ≤ (match decide ((-6176 : Int) > e) with | true => (-6176 : Int) | false => e) ∧ (match decide ((-6176 : Int) > e) with | true => (-6176 : Int) | false => e) ≤ 6111 := by
  have he := of_decide_eq_false he
  by_cases h1 : (-6176 : Int) > e
  · simp [h1]
  · simp only [h1, decide_false]
    omega
theorem pick_ge (A B : Int) : B ≤ (match decide (A > B) with | true => A | false => B) := by
  by_cases h : A > B
  · simp only [h, decide_true]
    omega
  · simp only [h, decide_false]
    exact Int.le_refl _
theorem nn_ge (A D : Int) (g0 : 0 ≤ D) (g1 : D ≤ 96) : D - 34 ≤ (match decide (A > (match decide (IntKind.wrap .i64 (D - 34) > (0 : Int)) with | true => IntKind.wrap .i64 (D - 34) | false => (0 : Int))) with | true => A | false => (match decide (IntKind.wrap .i64 (D - 34) > (0 : Int)) with | true => IntKind.wrap .i64 (D - 34) | false => (0 : Int))) := by
  refine Int.le_trans ?_ (pick_ge A _)
  rw [wrap_i64r (by unfold i64; omega)]
  by_cases h : D - 34 > 0
  · simp only [h, decide_true]
    exact Int.le_refl _
  · simp only [h, decide_false]
    omega
theorem cut_fit {v V nn D : Int} (hg : D - 34 ≤ nn) (hD : V < 10 ^ D.toNat) (h : v * 10 ^ nn.toNat ≤ V + 10 ^ nn.toNat) : v ≤ 10000000000000000000000000000000000 := by
  refine cut_top (pow_pos10 nn.toNat) h (Int.lt_of_lt_of_le hD ?_)
  have h1 := pow_le10 (show D.toNat ≤ 34 + nn.toNat by omega)
  rw [pow_add10] at h1
  exact h1
theorem fit_lo2 {a b c d V : Int} (h1 : u64 a) (h2 : u64 b) (h : wW a b c d * 10 ≤ V + 10) (hV : V ≤ 10000000000000000000000000000000000) : wV c d < 10000000000000000000000000000000000 := by
  have := lo_le (c := c) (d := d) h1 h2
  omega
theorem fit_lo1 {x y k : Int} (hc : k = -1 ∧ wV x y < 10000000000000000000000000000000000 ∨ k = 0 ∧ wV x y = 10000000000000000000000000000000000 ∨ k = 1 ∧ 10000000000000000000000000000000000 < wV x y) (hb : decide (k ≥ 0) = false) : wV x y < 10000000000000000000000000000000000 := by
  have hb := of_decide_eq_false hb
  omega
theorem small_of {V D : Int} (hD : V < 10 ^ D.toNat) (h : D - 34 ≤ 0) : V ≤ 10000000000000000000000000000000000 := by
  have h1 := pow_le10 (show D.toNat ≤ 34 by omega)
  exact Int.le_of_lt (Int.lt_of_lt_of_le hD h1)
def rulesXG : List (Nat × Rule) := (285, ruleUp) :: (256, ruleDigx) :: rulesXF
theorem rulesXG_ok (base : World) : ∀ x ∈ rulesXG, RuleOk Tryz.prog base x.1 x.2 := List.forall_mem_cons.2 ⟨up_ok, List.forall_mem_cons.2 ⟨digx_ok, rulesXF_ok base⟩⟩
structure cxtS where
  (n : Bool) (a b c d e : Int) (m : Bool) (last k mode : Int)
noncomputable def cxtL : LoopS cxtS where
  fn := 257
  keys := [1, 2, 3, 6, 7]
  kv := fun ⟨n, a, b, c, d, e, m, last, k, mode⟩ => [.int .i64 k, .int .i64 mode, ptr 10, ptr 11, w64 last]
  hp := fun ⟨n, a, b, c, d, e, m, last, k, mode⟩ => [(11, blkW false 0 0 0 0 0 false), (10, blkW n a b c d e m)]
  lo := 12
  nx := 12
  mw := 10
  size := 84
theorem cxt_tree (P : Exit → Bool → List Value → Heap → Nat → Nat → Nat → FuncId → List (FuncId × List Value) → Prop) (n : Bool) (a b c d e : Int) (m : Bool) (last k mode : Int) :
 codeK (envW rulesXG []) (funcK (envW rulesXG []) 30) (loopOf Tryz.prog 257 2) (cxtL.st ⟨n, a, b, c, d, e, m, last, k, mode⟩) (cxtL.look P) =
 (bsel (decide (k > (0 : Int))) ((u64 a ∧ u64 b) ∧ bsel (a == (0 : Int) && b == (0 : Int)) ((u64 c ∧ u64 d) ∧ bsel (c == (0 : Int) && d == (0 : Int)) (bsel (last != (0 : Int)) (bsel m ((u64 a ∧ u64 b ∧ u64 c ∧ u64 d ∧ u64 (Int.ofNat 10) ∧ Int.ofNat 0 < Int.ofNat 10) ∧ ∀ (e_1 f g h r : Int), u64 e_1 → u64 f → u64 g → u64 h → u64 r → r < Int.ofNat 10 → wW e_1 f g h * Int.ofNat 10 + r = wW a b c d → P Go.Exit.normal true [.int .i64 (IntKind.wrap .i64 (k - (1 : Int))), .int .i64 mode, .pointer (some (Addr.mk 10 0 none)), .pointer (some (Addr.mk 11 0 none)), .int .u64 r] [(11, Blk.mk [some (Value.bool false), some (Value.int .u64 (Int.ofNat 0)), some (Value.int .u64 (Int.ofNat 0)), some (Value.int .u64 (Int.ofNat 0)), some (Value.int .u64 (Int.ofNat 0)), some (Value.int .i64 (Int.ofNat 0)), some (Value.bool false)] 251 true 0 none false), (10, Blk.mk [some (Value.bool n), some (Value.int .u64 e_1), some (Value.int .u64 f), some (Value.int .u64 g), some (Value.int .u64 h), some (Value.int .i64 (IntKind.wrap .i64 (e + (1 : Int)))), some (Value.bool true)] 251 true 0 none false)] 12 10 84 257 []) (bsel (last != (0 : Int)) ((u64 a ∧ u64 b ∧ u64 c ∧ u64 d ∧ u64 (Int.ofNat 10) ∧ Int.ofNat 0 < Int.ofNat 10) ∧ ∀ (e_1 f g h r : Int), u64 e_1 → u64 f → u64 g → u64 h → u64 r → r < Int.ofNat 10 → wW e_1 f g h * Int.ofNat 10 + r = wW a b c d → P Go.Exit.normal true [.int .i64 (IntKind.wrap .i64 (k - (1 : Int))), .int .i64 mode, .pointer (some (Addr.mk 10 0 none)), .pointer (some (Addr.mk 11 0 none)), .int .u64 r] [(11, Blk.mk [some (Value.bool false), some (Value.int .u64 (Int.ofNat 0)), some (Value.int .u64 (Int.ofNat 0)), some (Value.int .u64 (Int.ofNat 0)), some (Value.int .u64 (Int.ofNat 0)), some (Value.int .i64 (Int.ofNat 0)), some (Value.bool false)] 251 true 0 none false), (10, Blk.mk [some (Value.bool n), some (Value.int .u64 e_1), some (Value.int .u64 f), some (Value.int .u64 g), some (Value.int .u64 h), some (Value.int .i64 (IntKind.wrap .i64 (e + (1 : Int)))), some (Value.bool true)] 251 true 0 none false)] 12 10 84 257 []) ((u64 a ∧ u64 b ∧ u64 c ∧ u64 d ∧ u64 (Int.ofNat 10) ∧ Int.ofNat 0 < Int.ofNat 10) ∧ ∀ (e_1 f g h r : Int), u64 e_1 → u64 f → u64 g → u64 h → u64 r → r < Int.ofNat 10 → wW e_1 f g h * Int.ofNat 10 + r = wW a b c d → P Go.Exit.normal true [.int .i64 (IntKind.wrap .i64 (k - (1 : Int))), .int .i64 mode, .pointer (some (Addr.mk 10 0 none)), .pointer (some (Addr.mk 11 0 none)), .int .u64 r] [(11, Blk.mk [some (Value.bool false), some (Value.int .u64 (Int.ofNat 0)), some (Value.int .u64 (Int.ofNat 0)), some (Value.int .u64 (Int.ofNat 0)), some (Value.int .u64 (Int.ofNat 0)), some (Value.int .i64 (Int.ofNat 0)), some (Value.bool false)] 251 true 0 none false), (10, Blk.mk [some (Value.bool n), some (Value.int .u64 e_1), some (Value.int .u64 f), some (Value.int .u64 g), some (Value.int .u64 h), some (Value.int .i64 (IntKind.wrap .i64 (e + (1 : Int)))), some (Value.bool false)] 251 true 0 none false)] 12 10 84 257 []))) (P (Go.Exit.exit 0) true [.int .i64 k, .int .i64 mode, .pointer (some (Addr.mk 10 0 none)), .pointer (some (Addr.mk 11 0 none)), .int .u64 last] [(11, Blk.mk [some (Value.bool false), some (Value.int .u64 (Int.ofNat 0)), some (Value.int .u64 (Int.ofNat 0)), some (Value.int .u64 (Int.ofNat 0)), some (Value.int .u64 (Int.ofNat 0)), some (Value.int .i64 (Int.ofNat 0)), some (Value.bool false)] 251 true 0 none false), (10, Blk.mk [some (Value.bool n), some (Value.int .u64 a), some (Value.int .u64 b), some (Value.int .u64 c), some (Value.int .u64 d), some (Value.int .i64 e), some (Value.bool m)] 251 true 0 none false)] 12 10 84 257 [])) (bsel m ((u64 a ∧ u64 b ∧ u64 c ∧ u64 d ∧ u64 (Int.ofNat 10) ∧ Int.ofNat 0 < Int.ofNat 10) ∧ ∀ (e_1 f g h r : Int), u64 e_1 → u64 f → u64 g → u64 h → u64 r → r < Int.ofNat 10 → wW e_1 f g h * Int.ofNat 10 + r = wW a b c d → P Go.Exit.normal true [.int .i64 (IntKind.wrap .i64 (k - (1 : Int))), .int .i64 mode, .pointer (some (Addr.mk 10 0 none)), .pointer (some (Addr.mk 11 0 none)), .int .u64 r] [(11, Blk.mk [some (Value.bool false), some (Value.int .u64 (Int.ofNat 0)), some (Value.int .u64 (Int.ofNat 0)), some (Value.int .u64 (Int.ofNat 0)), some (Value.int .u64 (Int.ofNat 0)), some (Value.int .i64 (Int.ofNat 0)), some (Value.bool false)] 251 true 0 none false), (10, Blk.mk [some (Value.bool n), some (Value.int .u64 e_1), some (Value.int .u64 f), some (Value.int .u64 g), some (Value.int .u64 h), some (Value.int .i64 (IntKind.wrap .i64 (e + (1 : Int)))), some (Value.bool true)] 251 true 0 none false)] 12 10 84 257 []) (bsel (last != (0 : Int)) ((u64 a ∧ u64 b ∧ u64 c ∧ u64 d ∧ u64 (Int.ofNat 10) ∧ Int.ofNat 0 < Int.ofNat 10) ∧ ∀ (e_1 f g h r : Int), u64 e_1 → u64 f → u64 g → u64 h → u64 r → r < Int.ofNat 10 → wW e_1 f g h * Int.ofNat 10 + r = wW a b c d → P Go.Exit.normal true [.int .i64 (IntKind.wrap .i64 (k - (1 : Int))), .int .i64 mode, .pointer (some (Addr.mk 10 0 none)), .pointer (some (Addr.mk 11 0 none)), .int .u64 r] [(11, Blk.mk [some (Value.bool false), some (Value.int .u64 (Int.ofNat 0)), some (Value.int .u64 (Int.ofNat 0)), some (Value.int .u64 (Int.ofNat 0)), some (Value.int .u64 (Int.ofNat 0)), some (Value.int .i64 (Int.ofNat 0)), some (Value.bool false)] 251 true 0 none false), (10, Blk.mk [some (Value.bool n), some (Value.int .u64 e_1), some (Value.int .u64 f), some (Value.int .u64 g), some (Value.int .u64 h), some (Value.int .i64 (IntKind.wrap .i64 (e + (1 : Int)))), some (Value.bool true)] 251 true 0 none false)] 12 10 84 257 []) ((u64 a ∧ u64 b ∧ u64 c ∧ u64 d ∧ u64 (Int.ofNat 10) ∧ Int.ofNat 0 < Int.ofNat 10) ∧ ∀ (e_1 f g h r : Int), u64 e_1 → u64 f → u64 g → u64 h → u64 r → r < Int.ofNat 10 → wW e_1 f g h * Int.ofNat 10 + r = wW a b c d → P Go.Exit.normal true [.int .i64 (IntKind.wrap .i64 (k - (1 : Int))), .int .i64 mode, .pointer (some (Addr.mk 10 0 none)), .pointer (some (Addr.mk 11 0 none)), .int .u64 r] [(11, Blk.mk [some (Value.bool false), some (Value.int .u64 (Int.ofNat 0)), some (Value.int .u64 (Int.ofNat 0)), some (Value.int .u64 (Int.ofNat 0)), some (Value.int .u64 (Int.ofNat 0)), some (Value.int .i64 (Int.ofNat 0)), some (Value.bool false)] 251 true 0 none false), (10, Blk.mk [some (Value.bool n), some (Value.int .u64 e_1), some (Value.int .u64 f), some (Value.int .u64 g), some (Value.int .u64 h), some (Value.int .i64 (IntKind.wrap .i64 (e + (1 : Int)))), some (Value.bool false)] 251 true 0 none false)] 12 10 84 257 [])))) (bsel m ((u64 a ∧ u64 b ∧ u64 c ∧ u64 d ∧ u64 (Int.ofNat 10) ∧ Int.ofNat 0 < Int.ofNat 10) ∧ ∀ (e_1 f g h r : Int), u64 e_1 → u64 f → u64 g → u64 h → u64 r → r < Int.ofNat 10 → wW e_1 f g h * Int.ofNat 10 + r = wW a b c d → P Go.Exit.normal true [.int .i64 (IntKind.wrap .i64 (k - (1 : Int))), .int .i64 mode, .pointer (some (Addr.mk 10 0 none)), .pointer (some (Addr.mk 11 0 none)), .int .u64 r] [(11, Blk.mk [some (Value.bool false), some (Value.int .u64 (Int.ofNat 0)), some (Value.int .u64 (Int.ofNat 0)), some (Value.int .u64 (Int.ofNat 0)), some (Value.int .u64 (Int.ofNat 0)), some (Value.int .i64 (Int.ofNat 0)), some (Value.bool false)] 251 true 0 none false), (10, Blk.mk [some (Value.bool n), some (Value.int .u64 e_1), some (Value.int .u64 f), some (Value.int .u64 g), some (Value.int .u64 h), some (Value.int .i64 (IntKind.wrap .i64 (e + (1 : Int)))), some (Value.bool true)] 251 true 0 none false)] 12 10 84 257 []) (bsel (last != (0 : Int)) ((u64 a ∧ u64 b ∧ u64 c ∧ u64 d ∧ u64 (Int.ofNat 10) ∧ Int.ofNat 0 < Int.ofNat 10) ∧ ∀ (e_1 f g h r : Int), u64 e_1 → u64 f → u64 g → u64 h → u64 r → r < Int.ofNat 10 → wW e_1 f g h * Int.ofNat 10 + r = wW a b c d → P Go.Exit.normal true [.int .i64 (IntKind.wrap .i64 (k - (1 : Int))), .int .i64 mode, .pointer (some (Addr.mk 10 0 none)), .pointer (some (Addr.mk 11 0 none)), .int .u64 r] [(11, Blk.mk [some (Value.bool false), some (Value.int .u64 (Int.ofNat 0)), some (Value.int .u64 (Int.ofNat 0)), some (Value.int .u64 (Int.ofNat 0)), some (Value.int .u64 (Int.ofNat 0)), some (Value.int .i64 (Int.ofNat 0)), some (Value.bool false)] 251 true 0 none false), (10, Blk.mk [some (Value.bool n), some (Value.int .u64 e_1), some (Value.int .u64 f), some (Value.int .u64 g), some (Value.int .u64 h), some (Value.int .i64 (IntKind.wrap .i64 (e + (1 : Int)))), some (Value.bool true)] 251 true 0 none false)] 12 10 84 257 []) ((u64 a ∧ u64 b ∧ u64 c ∧ u64 d ∧ u64 (Int.ofNat 10) ∧ Int.ofNat 0 < Int.ofNat 10) ∧ ∀ (e_1 f g h r : Int), u64 e_1 → u64 f → u64 g → u64 h → u64 r → r < Int.ofNat 10 → wW e_1 f g h * Int.ofNat 10 + r = wW a b c d → P Go.Exit.normal true [.int .i64 (IntKind.wrap .i64 (k - (1 : Int))), .int .i64 mode, .pointer (some (Addr.mk 10 0 none)), .pointer (some (Addr.mk 11 0 none)), .int .u64 r] [(11, Blk.mk [some (Value.bool false), some (Value.int .u64 (Int.ofNat 0)), some (Value.int .u64 (Int.ofNat 0)), some (Value.int .u64 (Int.ofNat 0)), some (Value.int .u64 (Int.ofNat 0)), some (Value.int .i64 (Int.ofNat 0)), some (Value.bool false)] 251 true 0 none false), (10, Blk.mk [some (Value.bool n), some (Value.int .u64 e_1), some (Value.int .u64 f), some (Value.int .u64 g), some (Value.int .u64 h), some (Value.int .i64 (IntKind.wrap .i64 (e + (1 : Int)))), some (Value.bool false)] 251 true 0 none false)] 12 10 84 257 [])))) (P (Go.Exit.exit 0) true [.int .i64 k, .int .i64 mode, .pointer (some (Addr.mk 10 0 none)), .pointer (some (Addr.mk 11 0 none)), .int .u64 last] [(11, Blk.mk [some (Value.bool false), some (Value.int .u64 (Int.ofNat 0)), some (Value.int .u64 (Int.ofNat 0)), some (Value.int .u64 (Int.ofNat 0)), some (Value.int .u64 (Int.ofNat 0)), some (Value.int .i64 (Int.ofNat 0)), some (Value.bool false)] 251 true 0 none false), (10, Blk.mk [some (Value.bool n), some (Value.int .u64 a), some (Value.int .u64 b), some (Value.int .u64 c), some (Value.int .u64 d), some (Value.int .i64 e), some (Value.bool m)] 251 true 0 none false)] 12 10 84 257 [])) := by kernel_rfl
def cxtI (V K : Int) (n : Nat) (x : cxtS) : Prop := (u64 x.a ∧ u64 x.b ∧ u64 x.c ∧ u64 x.d) ∧ i64 x.e ∧ u64 x.last ∧ i64 x.k ∧ (∃ j : Nat, x.k = K - (j : Int) ∧ wW x.a x.b x.c x.d * 10 ^ j ≤ V) ∧ n = x.k.toNat
def cxtO (V K : Int) (x : cxtS) : Prop := (u64 x.a ∧ u64 x.b ∧ u64 x.c ∧ u64 x.d) ∧ i64 x.e ∧ u64 x.last ∧ i64 x.k ∧ (∃ j : Nat, x.k = K - (j : Int) ∧ wW x.a x.b x.c x.d * 10 ^ j ≤ V) ∧ (x.k ≤ 0 ∨ wW x.a x.b x.c x.d = 0)
theorem cxt_round (V K : Int) (n0 : Nat) (n : Bool) (a b c d e : Int) (m : Bool) (last k mode : Int) (hI : cxtI V K n0 ⟨n, a, b, c, d, e, m, last, k, mode⟩) :
    Hush (codeK (envW rulesXG []) (funcK (envW rulesXG []) 30) (loopOf Tryz.prog 257 2) (cxtL.st ⟨n, a, b, c, d, e, m, last, k, mode⟩) (cxtL.look (cxtL.To (cxtI V K) (cxtO V K) (fun _ => False) 0 n0))) := by
  constructor
  rw [cxt_tree]
  obtain ⟨⟨h1, h2, h3, h4⟩, h5, h6, h7, ⟨j, hj, hc⟩, hn⟩ := hI
  try simp only at *
  have hO : (k ≤ 0 ∨ wW a b c d = 0) → cxtO V K ⟨n, a, b, c, d, e, m, last, k, mode⟩ := fun h => ⟨⟨h1, h2, h3, h4⟩, h5, h6, h7, ⟨j, hj, hc⟩, h⟩
  refine bsel_of (fun hk => ?_) (fun hk => ⟨rfl, _, hO (.inl (by have := of_decide_eq_false hk; omega)), LoopS.At.quick [] rfl rfl (by kernel_rfl) rfl (by kernel_rfl) rfl rfl rfl⟩)
  have hk : k > 0 := of_decide_eq_true hk
  have hw : IntKind.wrap .i64 (k - 1) = k - 1 := wrap_i64r (by unfold i64 at *; omega)
  have hlt : (IntKind.wrap .i64 (k - 1)).toNat < n0 := by
    rw [hw]
    omega
  have hx : ∀ (e' f g h r : Int), 0 ≤ r → wW e' f g h * 10 + r = wW a b c d → ∃ j : Nat, IntKind.wrap .i64 (k - 1) = K - (j : Int) ∧ wW e' f g h * 10 ^ j ≤ V := fun e' f g h r hr he => ⟨j + 1, by rw [hw]; omega, cut_step hc he hr⟩
  repeat' (first
    | exact ⟨⟨h1, h2, h3, h4, u64_lit rfl, by decide⟩, fun e' f g h r k1 k2 k3 k4 k5 _ k7 => ⟨_, ⟨n, e', f, g, h, _, _, r, _, mode⟩, hlt, ⟨⟨k1, k2, k3, k4⟩, i64_wrap _, k5, i64_wrap _, hx _ _ _ _ _ k5.1 k7, rfl⟩, LoopS.At.quick [] rfl rfl (by kernel_rfl) rfl (by kernel_rfl) rfl rfl rfl⟩⟩
    | exact ⟨rfl, _, hO (.inr (by simp_all [wW, wV])), LoopS.At.quick [] rfl rfl (by kernel_rfl) rfl (by kernel_rfl) rfl rfl rfl⟩
    | refine ⟨⟨h1, h2⟩, ?_⟩
    | refine ⟨⟨h3, h4⟩, ?_⟩
    | refine bsel_of (fun _ => ?_) (fun _ => ?_))
theorem cxt_rounds (V K : Int) : Rounds (envW rulesXG []) 30 (loopOf Tryz.prog 257 2) cxtL (cxtI V K) (cxtO V K) (fun _ => False) 0 := ⟨fun n x hI => cxt_round V K n x.n x.a x.b x.c x.d x.e x.m x.last x.k x.mode hI⟩
def cxtT : LoopW := fun cq sq Kq => ∃ (V K : Int), loopT (loopOf Tryz.prog 257 2) cxtL (cxtI V K) (cxtO V K) 0 cq sq Kq
theorem cxtT_ok {E : Env} (hP : E.P = Tryz.prog) (hW : E.weak = true) {base : World} : LoopOk E base cxtT := fun cq sq Kq ⟨V, K, h⟩ =>
  loopT_ok (E := envW rulesXG []) hP hW (envW_ok (rulesXG_ok base)) (findL_ok (l := []) rfl fun _ h => nomatch h) (by kernel_rfl) (by kernel_rfl) (cxt_rounds V K) h
def loopsCx : List ((Nat × Nat) × LoopW) := [((257, 2), cxtT)]
theorem loopsCx_ok {E : Env} (hP : E.P = Tryz.prog) (hW : E.weak = true) (base : World) : ∀ x ∈ loopsCx, LoopOk E base x.2 := List.forall_mem_cons.2 ⟨cxtT_ok hP hW, fun _ h => nomatch h⟩
def isCutx (n : Bool) (a b c d e : Int) (m : Bool) (k mode : Int) (u : Value) : Prop := ∃ (n' : Bool) (a' b' c' d' e' : Int) (m' : Bool), u = wWide n' a' b' c' d' e' m' ∧ (u64 a' ∧ u64 b' ∧ u64 c' ∧ u64 d' ∧ i64 e' ∧ wW a' b' c' d' * 10 ^ k.toNat ≤ wW a b c d + 10 ^ k.toNat)
theorem cutx_hk_tree (K : Value → Nat → Prop) (n : Bool) (a b c d e : Int) (m : Bool) (k mode : Int) :
 funcK (envW rulesXG loopsCx) 30 257 [.agg ⟨[.bool n, .int .u64 a, .int .u64 b, .int .u64 c, .int .u64 d, .int .i64 e, .bool m]⟩, .int .i64 k, .int .i64 mode] [] Tryz.prog.globals.size (fun u _ _ mw => K u mw) =
 (∃ (x : Int), ∃ (x_1 : Int), Is (loopOf Go.Proofs.Tryz.prog 257 2) (loopOf Go.Proofs.Tryz.prog 257 2) ∧ ∃ (x_2 : Nat), ∃ (x_3 : cxtS), (cxtI x x_1 x_2 x_3 ∧ true = true ∧ LoopS.At cxtL x_3 true [.int .i64 k, .int .i64 mode, .pointer (some (Addr.mk 10 0 none)), .pointer (some (Addr.mk 11 0 none)), .int .u64 (Int.ofNat 0)] [(11, Blk.mk [some (Value.bool false), some (Value.int .u64 (Int.ofNat 0)), some (Value.int .u64 (Int.ofNat 0)), some (Value.int .u64 (Int.ofNat 0)), some (Value.int .u64 (Int.ofNat 0)), some (Value.int .i64 (Int.ofNat 0)), some (Value.bool false)] 251 true 0 none false), (10, Blk.mk [some (Value.bool n), some (Value.int .u64 a), some (Value.int .u64 b), some (Value.int .u64 c), some (Value.int .u64 d), some (Value.int .i64 e), some (Value.bool m)] 251 true 0 none false)] 12 18446744073709551616 84 257 []) ∧ ∀ (a' : cxtS), cxtO x x_1 a' → bsel a'.1 (bsel (IntKind.wrap .u64 (↑(BitVec.toNat (BitVec.ofInt (IntKind.bits IntKind.u64) a'.5 &&& BitVec.ofInt (IntKind.bits IntKind.u64) (1 : Int))) : Int) == (1 : Int)) (bsel a'.7 (u64 a'.8 ∧ ∀ (b : Bool), bsel b ((u64 a'.2 ∧ u64 a'.3 ∧ u64 a'.4 ∧ u64 a'.5 ∧ u64 (Int.ofNat 0) ∧ u64 (Int.ofNat 0) ∧ u64 (Int.ofNat 0) ∧ u64 (Int.ofNat 1)) ∧ ∀ (x y z w o : Int), u64 x → u64 y → u64 z → u64 w → u64 o → o * Int.ofNat 115792089237316195423570985008687907853269984665640564039457584007913129639936 + wW x y z w = wW a'.2 a'.3 a'.4 a'.5 + Int.ofNat 1 → K (.agg (Array.mk [.bool a'.1, .int .u64 x, .int .u64 y, .int .u64 z, .int .u64 w, .int .i64 (IntKind.wrap .i64 (a'.6 + (match decide (a'.9 > (0 : Int)) with | true => a'.9 | false => (0 : Int)))), .bool false])) 10) (K (.agg (Array.mk [.bool a'.1, .int .u64 a'.2, .int .u64 a'.3, .int .u64 a'.4, .int .u64 a'.5, .int .i64 (IntKind.wrap .i64 (a'.6 + (match decide (a'.9 > (0 : Int)) with | true => a'.9 | false => (0 : Int)))), .bool false])) 10)) (u64 a'.8 ∧ ∀ (b : Bool), bsel b ((u64 a'.2 ∧ u64 a'.3 ∧ u64 a'.4 ∧ u64 a'.5 ∧ u64 (Int.ofNat 0) ∧ u64 (Int.ofNat 0) ∧ u64 (Int.ofNat 0) ∧ u64 (Int.ofNat 1)) ∧ ∀ (x y z w o : Int), u64 x → u64 y → u64 z → u64 w → u64 o → o * Int.ofNat 115792089237316195423570985008687907853269984665640564039457584007913129639936 + wW x y z w = wW a'.2 a'.3 a'.4 a'.5 + Int.ofNat 1 → K (.agg (Array.mk [.bool a'.1, .int .u64 x, .int .u64 y, .int .u64 z, .int .u64 w, .int .i64 (IntKind.wrap .i64 (a'.6 + (match decide (a'.9 > (0 : Int)) with | true => a'.9 | false => (0 : Int)))), .bool false])) 10) (K (.agg (Array.mk [.bool a'.1, .int .u64 a'.2, .int .u64 a'.3, .int .u64 a'.4, .int .u64 a'.5, .int .i64 (IntKind.wrap .i64 (a'.6 + (match decide (a'.9 > (0 : Int)) with | true => a'.9 | false => (0 : Int)))), .bool false])) 10))) (bsel a'.7 (u64 a'.8 ∧ ∀ (b : Bool), bsel b ((u64 a'.2 ∧ u64 a'.3 ∧ u64 a'.4 ∧ u64 a'.5 ∧ u64 (Int.ofNat 0) ∧ u64 (Int.ofNat 0) ∧ u64 (Int.ofNat 0) ∧ u64 (Int.ofNat 1)) ∧ ∀ (x y z w o : Int), u64 x → u64 y → u64 z → u64 w → u64 o → o * Int.ofNat 115792089237316195423570985008687907853269984665640564039457584007913129639936 + wW x y z w = wW a'.2 a'.3 a'.4 a'.5 + Int.ofNat 1 → K (.agg (Array.mk [.bool a'.1, .int .u64 x, .int .u64 y, .int .u64 z, .int .u64 w, .int .i64 (IntKind.wrap .i64 (a'.6 + (match decide (a'.9 > (0 : Int)) with | true => a'.9 | false => (0 : Int)))), .bool false])) 10) (K (.agg (Array.mk [.bool a'.1, .int .u64 a'.2, .int .u64 a'.3, .int .u64 a'.4, .int .u64 a'.5, .int .i64 (IntKind.wrap .i64 (a'.6 + (match decide (a'.9 > (0 : Int)) with | true => a'.9 | false => (0 : Int)))), .bool false])) 10)) (u64 a'.8 ∧ ∀ (b : Bool), bsel b ((u64 a'.2 ∧ u64 a'.3 ∧ u64 a'.4 ∧ u64 a'.5 ∧ u64 (Int.ofNat 0) ∧ u64 (Int.ofNat 0) ∧ u64 (Int.ofNat 0) ∧ u64 (Int.ofNat 1)) ∧ ∀ (x y z w o : Int), u64 x → u64 y → u64 z → u64 w → u64 o → o * Int.ofNat 115792089237316195423570985008687907853269984665640564039457584007913129639936 + wW x y z w = wW a'.2 a'.3 a'.4 a'.5 + Int.ofNat 1 → K (.agg (Array.mk [.bool a'.1, .int .u64 x, .int .u64 y, .int .u64 z, .int .u64 w, .int .i64 (IntKind.wrap .i64 (a'.6 + (match decide (a'.9 > (0 : Int)) with | true => a'.9 | false => (0 : Int)))), .bool false])) 10) (K (.agg (Array.mk [.bool a'.1, .int .u64 a'.2, .int .u64 a'.3, .int .u64 a'.4, .int .u64 a'.5, .int .i64 (IntKind.wrap .i64 (a'.6 + (match decide (a'.9 > (0 : Int)) with | true => a'.9 | false => (0 : Int)))), .bool false])) 10)))) (bsel (IntKind.wrap .u64 (↑(BitVec.toNat (BitVec.ofInt (IntKind.bits IntKind.u64) a'.5 &&& BitVec.ofInt (IntKind.bits IntKind.u64) (1 : Int))) : Int) == (1 : Int)) (bsel a'.7 (u64 a'.8 ∧ ∀ (b : Bool), bsel b ((u64 a'.2 ∧ u64 a'.3 ∧ u64 a'.4 ∧ u64 a'.5 ∧ u64 (Int.ofNat 0) ∧ u64 (Int.ofNat 0) ∧ u64 (Int.ofNat 0) ∧ u64 (Int.ofNat 1)) ∧ ∀ (x y z w o : Int), u64 x → u64 y → u64 z → u64 w → u64 o → o * Int.ofNat 115792089237316195423570985008687907853269984665640564039457584007913129639936 + wW x y z w = wW a'.2 a'.3 a'.4 a'.5 + Int.ofNat 1 → K (.agg (Array.mk [.bool a'.1, .int .u64 x, .int .u64 y, .int .u64 z, .int .u64 w, .int .i64 (IntKind.wrap .i64 (a'.6 + (match decide (a'.9 > (0 : Int)) with | true => a'.9 | false => (0 : Int)))), .bool false])) 10) (K (.agg (Array.mk [.bool a'.1, .int .u64 a'.2, .int .u64 a'.3, .int .u64 a'.4, .int .u64 a'.5, .int .i64 (IntKind.wrap .i64 (a'.6 + (match decide (a'.9 > (0 : Int)) with | true => a'.9 | false => (0 : Int)))), .bool false])) 10)) (u64 a'.8 ∧ ∀ (b : Bool), bsel b ((u64 a'.2 ∧ u64 a'.3 ∧ u64 a'.4 ∧ u64 a'.5 ∧ u64 (Int.ofNat 0) ∧ u64 (Int.ofNat 0) ∧ u64 (Int.ofNat 0) ∧ u64 (Int.ofNat 1)) ∧ ∀ (x y z w o : Int), u64 x → u64 y → u64 z → u64 w → u64 o → o * Int.ofNat 115792089237316195423570985008687907853269984665640564039457584007913129639936 + wW x y z w = wW a'.2 a'.3 a'.4 a'.5 + Int.ofNat 1 → K (.agg (Array.mk [.bool a'.1, .int .u64 x, .int .u64 y, .int .u64 z, .int .u64 w, .int .i64 (IntKind.wrap .i64 (a'.6 + (match decide (a'.9 > (0 : Int)) with | true => a'.9 | false => (0 : Int)))), .bool false])) 10) (K (.agg (Array.mk [.bool a'.1, .int .u64 a'.2, .int .u64 a'.3, .int .u64 a'.4, .int .u64 a'.5, .int .i64 (IntKind.wrap .i64 (a'.6 + (match decide (a'.9 > (0 : Int)) with | true => a'.9 | false => (0 : Int)))), .bool false])) 10))) (bsel a'.7 (u64 a'.8 ∧ ∀ (b : Bool), bsel b ((u64 a'.2 ∧ u64 a'.3 ∧ u64 a'.4 ∧ u64 a'.5 ∧ u64 (Int.ofNat 0) ∧ u64 (Int.ofNat 0) ∧ u64 (Int.ofNat 0) ∧ u64 (Int.ofNat 1)) ∧ ∀ (x y z w o : Int), u64 x → u64 y → u64 z → u64 w → u64 o → o * Int.ofNat 115792089237316195423570985008687907853269984665640564039457584007913129639936 + wW x y z w = wW a'.2 a'.3 a'.4 a'.5 + Int.ofNat 1 → K (.agg (Array.mk [.bool a'.1, .int .u64 x, .int .u64 y, .int .u64 z, .int .u64 w, .int .i64 (IntKind.wrap .i64 (a'.6 + (match decide (a'.9 > (0 : Int)) with | true => a'.9 | false => (0 : Int)))), .bool false])) 10) (K (.agg (Array.mk [.bool a'.1, .int .u64 a'.2, .int .u64 a'.3, .int .u64 a'.4, .int .u64 a'.5, .int .i64 (IntKind.wrap .i64 (a'.6 + (match decide (a'.9 > (0 : Int)) with | true => a'.9 | false => (0 : Int)))), .bool false])) 10)) (u64 a'.8 ∧ ∀ (b : Bool), bsel b ((u64 a'.2 ∧ u64 a'.3 ∧ u64 a'.4 ∧ u64 a'.5 ∧ u64 (Int.ofNat 0) ∧ u64 (Int.ofNat 0) ∧ u64 (Int.ofNat 0) ∧ u64 (Int.ofNat 1)) ∧ ∀ (x y z w o : Int), u64 x → u64 y → u64 z → u64 w → u64 o → o * Int.ofNat 115792089237316195423570985008687907853269984665640564039457584007913129639936 + wW x y z w = wW a'.2 a'.3 a'.4 a'.5 + Int.ofNat 1 → K (.agg (Array.mk [.bool a'.1, .int .u64 x, .int .u64 y, .int .u64 z, .int .u64 w, .int .i64 (IntKind.wrap .i64 (a'.6 + (match decide (a'.9 > (0 : Int)) with | true => a'.9 | false => (0 : Int)))), .bool false])) 10) (K (.agg (Array.mk [.bool a'.1, .int .u64 a'.2, .int .u64 a'.3, .int .u64 a'.4, .int .u64 a'.5, .int .i64 (IntKind.wrap .i64 (a'.6 + (match decide (a'.9 > (0 : Int)) with | true => a'.9 | false => (0 : Int)))), .bool false])) 10))))) := by kernel_rfl
theorem cutx_hk (n : Bool) (a b c d e : Int) (m : Bool) (k mode : Int) (h1 : u64 a) (h2 : u64 b) (h3 : u64 c) (h4 : u64 d) (h5 : i64 e) (h6 : i64 k) : ReckA (envW rulesXG loopsCx) 30 257 [.agg ⟨[.bool n, .int .u64 a, .int .u64 b, .int .u64 c, .int .u64 d, .int .i64 e, .bool m]⟩, .int .i64 k, .int .i64 mode] (isCutx n a b c d e m k mode) := by
  constructor
  rw [cutx_hk_tree fun u mw => (isCutx n a b c d e m k mode) u ∧ Tryz.prog.globals.size ≤ mw]
  refine ⟨wW a b c d, k, ⟨rfl⟩, _, ⟨n, a, b, c, d, e, m, 0, k, mode⟩, ⟨⟨⟨h1, h2, h3, h4⟩, h5, u64_lit rfl, h6, ⟨0, (by show k = k - ((0 : Nat) : Int); omega), (by rw [Int.pow_zero, Int.mul_one]; exact Int.le_refl _)⟩, rfl⟩, by kernel_rfl, LoopS.At.quick [] rfl rfl (by kernel_rfl) rfl (by kernel_rfl) rfl rfl rfl⟩, fun ⟨n', a', b', c', d', e', m', l', k', mode'⟩ ⟨⟨q1, q2, q3, q4⟩, q5, q6, q7, ⟨j, hj, hc⟩, hz⟩ => ?_⟩
  simp only at q1 q2 q3 q4 q5 q6 q7 hj hc hz
  have hend := cut_end hc hj (wW_nn q1 q2 q3 q4) (wW_nn h1 h2 h3 h4) hz
  have hP := pow_pos10 k.toNat
  have hend2 : wW a' b' c' d' * 10 ^ k.toNat ≤ wW a b c d + 10 ^ k.toNat := by omega
  repeat' (first | exact ⟨⟨_, _, _, _, _, _, _, rfl, q1, q2, q3, q4, i64_wrap _, hend2⟩, Nat.le_of_ble_eq_true (by kernel_rfl)⟩ | refine ⟨q6, fun _ => ?_⟩ | exact ⟨⟨q1, q2, q3, q4, u64_lit rfl, u64_lit rfl, u64_lit rfl, u64_lit rfl⟩, fun x y z w o k1 k2 k3 k4 k5 k6 => ⟨⟨_, _, _, _, _, _, _, rfl, k1, k2, k3, k4, i64_wrap _, cut_up hend hP k5.1 k6⟩, Nat.le_of_ble_eq_true (by kernel_rfl)⟩⟩ | refine bsel_of (fun _ => ?_) (fun _ => ?_))
def ruleCutx : Rule := ruleA fun args => match args with
  | [.agg ⟨[.bool n, .int .u64 a, .int .u64 b, .int .u64 c, .int .u64 d, .int .i64 e, .bool m]⟩, .int .i64 k, .int .i64 mode] => some fun K => (u64 a ∧ u64 b ∧ u64 c ∧ u64 d ∧ i64 e ∧ i64 k) ∧ ∀ (n' : Bool) (a' b' c' d' e' : Int) (m' : Bool), u64 a' → u64 b' → u64 c' → u64 d' → i64 e' → wW a' b' c' d' * 10 ^ k.toNat ≤ wW a b c d + 10 ^ k.toNat → K (wWide n' a' b' c' d' e' m')
  | _ => none
theorem cutx_ok {base : World} : RuleOk Tryz.prog base 257 ruleCutx := ruleOkA fun args T K hT hK => by
  split at hT
  · cases hT
    obtain ⟨⟨h1, h2, h3, h4, h5, h6⟩, hK⟩ := hK
    obtain ⟨v, ⟨r0, r1, r2, r3, r4, r5, r6, rfl, hf⟩, ht⟩ := totA_of (base := base) (envW_ok (rulesXG_ok base)) (findL_ok rfl (loopsCx_ok rfl rfl base)) rfl (cutx_hk _ _ _ _ _ _ _ _ _ h1 h2 h3 h4 h5 h6) (fun v ⟨_, _, _, _, _, _, _, hv, _⟩ => by subst hv; kernel_rfl) (List.forall_mem_cons.2 ⟨by kernel_rfl, List.forall_mem_cons.2 ⟨by kernel_rfl, List.forall_mem_cons.2 ⟨by kernel_rfl, fun _ h => nomatch h⟩⟩⟩)
    exact ⟨_, hK r0 r1 r2 r3 r4 r5 r6 hf.1 hf.2.1 hf.2.2.1 hf.2.2.2.1 hf.2.2.2.2.1 hf.2.2.2.2.2, ht⟩
  · cases hT
def rulesXI : List (Nat × Rule) := (257, ruleCutx) :: rulesXG
theorem rulesXI_ok (base : World) : ∀ x ∈ rulesXI, RuleOk Tryz.prog base x.1 x.2 := List.forall_mem_cons.2 ⟨cutx_ok, rulesXG_ok base⟩
structure ftxS where
  (n : Bool) (a b c d e : Int) (m : Bool)
noncomputable def ftxL : LoopS ftxS where
  fn := 216
  keys := [2, 4]
  kv := fun ⟨n, a, b, c, d, e, m⟩ => [ptr 10, ptr 11]
  hp := fun ⟨n, a, b, c, d, e, m⟩ => [(11, blkD0), (10, blkW n a b c d e m)]
  lo := 12
  nx := 12
  mw := 10
  size := 79
theorem ftx_tree (P : Exit → Bool → List Value → Heap → Nat → Nat → Nat → FuncId → List (FuncId × List Value) → Prop) (n : Bool) (a b c d e : Int) (m : Bool) :
 codeK (envW rulesXI []) (funcK (envW rulesXI []) 30) (loopOf Tryz.prog 216 9) (ftxL.st ⟨n, a, b, c, d, e, m⟩) (ftxL.look P) =
 (bsel (decide (e > (6111 : Int))) ((u64 (Int.ofNat 0) ∧ u64 (Int.ofNat 0) ∧ u64 c ∧ u64 d) ∧ ∀ (n_1 : Int), Int.ofNat 0 ≤ n_1 → n_1 ≤ Int.ofNat 96 → wW (0 : Int) (0 : Int) c d < Int.ofNat (nat_lit 10 ^ Int.toNat n_1) → bsel (decide (n_1 < (34 : Int))) ((u64 c ∧ u64 d ∧ u64 (Int.ofNat 10)) ∧ ∀ (p y z : Int), u64 p → u64 y → u64 z → p * Int.ofNat 340282366920938463463374607431768211456 + wV y z = wV c d * Int.ofNat 10 → P Go.Exit.normal true [.pointer (some (Addr.mk 10 0 none)), .pointer (some (Addr.mk 11 0 none))] [(11, Blk.mk [some (Value.bool false), some (Value.int .u64 (Int.ofNat 0)), some (Value.int .u64 (Int.ofNat 0)), some (Value.int .i64 (Int.ofNat 0))] 88 true 0 none false), (10, Blk.mk [some (Value.bool n), some (Value.int .u64 a), some (Value.int .u64 b), some (Value.int .u64 y), some (Value.int .u64 z), some (Value.int .i64 (IntKind.wrap .i64 (e - (1 : Int)))), some (Value.bool m)] 251 true 0 none false)] 12 10 79 216 []) (P (Go.Exit.exit 0) true [.pointer (some (Addr.mk 10 0 none)), .pointer (some (Addr.mk 11 0 none))] [(11, Blk.mk [some (Value.bool false), some (Value.int .u64 (Int.ofNat 0)), some (Value.int .u64 (Int.ofNat 0)), some (Value.int .i64 (Int.ofNat 0))] 88 true 0 none false), (10, Blk.mk [some (Value.bool n), some (Value.int .u64 a), some (Value.int .u64 b), some (Value.int .u64 c), some (Value.int .u64 d), some (Value.int .i64 e), some (Value.bool m)] 251 true 0 none false)] 12 10 79 216 [])) (P (Go.Exit.exit 0) true [.pointer (some (Addr.mk 10 0 none)), .pointer (some (Addr.mk 11 0 none))] [(11, Blk.mk [some (Value.bool false), some (Value.int .u64 (Int.ofNat 0)), some (Value.int .u64 (Int.ofNat 0)), some (Value.int .i64 (Int.ofNat 0))] 88 true 0 none false), (10, Blk.mk [some (Value.bool n), some (Value.int .u64 a), some (Value.int .u64 b), some (Value.int .u64 c), some (Value.int .u64 d), some (Value.int .i64 e), some (Value.bool m)] 251 true 0 none false)] 12 10 79 216 [])) := by kernel_rfl
def ftxI (k : Nat) (x : ftxS) : Prop := (u64 x.a ∧ u64 x.b ∧ u64 x.c ∧ u64 x.d) ∧ i64 x.e ∧ (0 < wV x.c x.d ∧ wV x.c x.d < 10000000000000000000000000000000000) ∧ k = (x.e - 6111).toNat
def ftxO (x : ftxS) : Prop := (u64 x.a ∧ u64 x.b ∧ u64 x.c ∧ u64 x.d) ∧ i64 x.e ∧ (0 < wV x.c x.d ∧ wV x.c x.d < 10000000000000000000000000000000000)
theorem ftx_round  (n0 : Nat) (n : Bool) (a b c d e : Int) (m : Bool) (hI : ftxI n0 ⟨n, a, b, c, d, e, m⟩) :
    Hush (codeK (envW rulesXI []) (funcK (envW rulesXI []) 30) (loopOf Tryz.prog 216 9) (ftxL.st ⟨n, a, b, c, d, e, m⟩) (ftxL.look (ftxL.To ftxI ftxO (fun _ => False) 0 n0))) := by
  constructor
  rw [ftx_tree]
  obtain ⟨⟨h1, h2, h3, h4⟩, h5, ⟨h6, h7⟩, hn⟩ := hI
  try simp only at *
  have hO : ftxO ⟨n, a, b, c, d, e, m⟩ := ⟨⟨h1, h2, h3, h4⟩, h5, h6, h7⟩
  refine bsel_of (fun he => ⟨⟨u64_lit rfl, u64_lit rfl, h3, h4⟩, fun k g1 g2 g3 => bsel_of (fun hk => ⟨⟨h3, h4, u64_lit rfl⟩, fun x y z k1 k2 k3 k4 => ?_⟩) (fun _ => ⟨rfl, _, hO, LoopS.At.quick [] rfl rfl (by kernel_rfl) rfl (by kernel_rfl) rfl rfl rfl⟩)⟩) (fun _ => ⟨rfl, _, hO, LoopS.At.quick [] rfl rfl (by kernel_rfl) rfl (by kernel_rfl) rfl rfl rfl⟩)
  have he : e > 6111 := of_decide_eq_true he
  have hk : k < 34 := of_decide_eq_true hk
  have hw : IntKind.wrap .i64 (e - 1) = e - 1 := wrap_i64r (by unfold i64 at *; omega)
  have hlt : (IntKind.wrap .i64 (e - 1) - 6111).toNat < n0 := by
    rw [hw]
    omega
  have g3 : wW 0 0 c d < 10 ^ k.toNat := g3
  have g4 := pow_le10 (show k.toNat ≤ 33 by omega)
  have g5 : wW 0 0 c d < 1000000000000000000000000000000000 := Int.lt_of_lt_of_le g3 g4
  have k4 : x * 340282366920938463463374607431768211456 + wV y z = wV c d * 10 := k4
  have e0 : wW 0 0 c d = wV c d := by
    unfold wW wV
    omega
  rw [e0] at g5
  have p1 := ten_up k1 k2 k3 h6 g5 k4
  exact ⟨_, ⟨n, a, b, y, z, _, m⟩, hlt, ⟨⟨h1, h2, k2, k3⟩, i64_wrap _, p1, rfl⟩, LoopS.At.quick [] rfl rfl (by kernel_rfl) rfl (by kernel_rfl) rfl rfl rfl⟩
theorem ftx_rounds  : Rounds (envW rulesXI []) 30 (loopOf Tryz.prog 216 9) ftxL ftxI ftxO (fun _ => False) 0 := ⟨fun n x hI => ftx_round n x.n x.a x.b x.c x.d x.e x.m hI⟩
def ftxT : LoopW := fun cq sq Kq => loopT (loopOf Tryz.prog 216 9) ftxL ftxI ftxO 0 cq sq Kq
theorem ftxT_ok {E : Env} (hP : E.P = Tryz.prog) (hW : E.weak = true) {base : World} : LoopOk E base ftxT := fun cq sq Kq h =>
  loopT_ok (E := envW rulesXI []) hP hW (envW_ok (rulesXI_ok base)) (findL_ok (l := []) rfl fun _ h => nomatch h) (by kernel_rfl) (by kernel_rfl) ftx_rounds h
def loopsFx : List ((Nat × Nat) × LoopW) := [((216, 9), ftxT)]
theorem loopsFx_ok {E : Env} (hP : E.P = Tryz.prog) (hW : E.weak = true) (base : World) : ∀ x ∈ loopsFx, LoopOk E base x.2 := List.forall_mem_cons.2 ⟨ftxT_ok hP hW, fun _ h => nomatch h⟩
def isFitx (n : Bool) (a b c d e : Int) (m : Bool) (mode : Int) (u : Value) : Prop := ∃ (n' : Bool) (a' b' e' : Int) (ok : Bool), u = .tuple #[decC n' a' b' e', .bool ok] ∧ (decOk n' a' b' e')
theorem fitx_hk_tree (K : Value → Nat → Prop) (n : Bool) (a b c d e : Int) (m : Bool) (mode : Int) :
 funcK (envW rulesXI loopsFx) 30 216 [.agg ⟨[.bool n, .int .u64 a, .int .u64 b, .int .u64 c, .int .u64 d, .int .i64 e, .bool m]⟩, .int .i64 mode] [] Tryz.prog.globals.size (fun u _ _ mw => K u mw) =
 ((u64 a ∧ u64 b ∧ u64 c ∧ u64 d) ∧ ∀ (n_1 : Int), Int.ofNat 0 ≤ n_1 → n_1 ≤ Int.ofNat 96 → wW a b c d < Int.ofNat (nat_lit 10 ^ Int.toNat n_1) → bsel (decide (((match decide (((match decide ((100 : Int) < IntKind.wrap .i64 ((-6176 : Int) - e)) with | true => (100 : Int) | false => IntKind.wrap .i64 ((-6176 : Int) - e))) > (match decide (IntKind.wrap .i64 (n_1 - (34 : Int)) > (0 : Int)) with | true => IntKind.wrap .i64 (n_1 - (34 : Int)) | false => (0 : Int))) with | true => (match decide ((100 : Int) < IntKind.wrap .i64 ((-6176 : Int) - e)) with | true => (100 : Int) | false => IntKind.wrap .i64 ((-6176 : Int) - e)) | false => (match decide (IntKind.wrap .i64 (n_1 - (34 : Int)) > (0 : Int)) with | true => IntKind.wrap .i64 (n_1 - (34 : Int)) | false => (0 : Int)))) > (0 : Int))) ((u64 a ∧ u64 b ∧ u64 c ∧ u64 d ∧ i64 e ∧ i64 ((match decide (((match decide ((100 : Int) < IntKind.wrap .i64 ((-6176 : Int) - e)) with | true => (100 : Int) | false => IntKind.wrap .i64 ((-6176 : Int) - e))) > (match decide (IntKind.wrap .i64 (n_1 - (34 : Int)) > (0 : Int)) with | true => IntKind.wrap .i64 (n_1 - (34 : Int)) | false => (0 : Int))) with | true => (match decide ((100 : Int) < IntKind.wrap .i64 ((-6176 : Int) - e)) with | true => (100 : Int) | false => IntKind.wrap .i64 ((-6176 : Int) - e)) | false => (match decide (IntKind.wrap .i64 (n_1 - (34 : Int)) > (0 : Int)) with | true => IntKind.wrap .i64 (n_1 - (34 : Int)) | false => (0 : Int))))) ∧ ∀ (n' : Bool) (a' b' c' d' e' : Int) (m' : Bool), u64 a' → u64 b' → u64 c' → u64 d' → i64 e' → wW a' b' c' d' * Int.ofNat (nat_lit 10 ^ Int.toNat ((match decide (((match decide ((100 : Int) < IntKind.wrap .i64 ((-6176 : Int) - e)) with | true => (100 : Int) | false => IntKind.wrap .i64 ((-6176 : Int) - e))) > (match decide (IntKind.wrap .i64 (n_1 - (34 : Int)) > (0 : Int)) with | true => IntKind.wrap .i64 (n_1 - (34 : Int)) | false => (0 : Int))) with | true => (match decide ((100 : Int) < IntKind.wrap .i64 ((-6176 : Int) - e)) with | true => (100 : Int) | false => IntKind.wrap .i64 ((-6176 : Int) - e)) | false => (match decide (IntKind.wrap .i64 (n_1 - (34 : Int)) > (0 : Int)) with | true => IntKind.wrap .i64 (n_1 - (34 : Int)) | false => (0 : Int))))) ≤ wW a b c d + Int.ofNat (nat_lit 10 ^ Int.toNat ((match decide (((match decide ((100 : Int) < IntKind.wrap .i64 ((-6176 : Int) - e)) with | true => (100 : Int) | false => IntKind.wrap .i64 ((-6176 : Int) - e))) > (match decide (IntKind.wrap .i64 (n_1 - (34 : Int)) > (0 : Int)) with | true => IntKind.wrap .i64 (n_1 - (34 : Int)) | false => (0 : Int))) with | true => (match decide ((100 : Int) < IntKind.wrap .i64 ((-6176 : Int) - e)) with | true => (100 : Int) | false => IntKind.wrap .i64 ((-6176 : Int) - e)) | false => (match decide (IntKind.wrap .i64 (n_1 - (34 : Int)) > (0 : Int)) with | true => IntKind.wrap .i64 (n_1 - (34 : Int)) | false => (0 : Int))))) → (u64 c' ∧ u64 d' ∧ u64 (Int.ofNat 542101086242752) ∧ u64 (Int.ofNat 4003012203950112768)) ∧ ∀ (c : Int), c = Int.negSucc 0 ∧ wV c' d' < Int.ofNat 10000000000000000000000000000000000 ∨ c = Int.ofNat 0 ∧ wV c' d' = Int.ofNat 10000000000000000000000000000000000 ∨ c = Int.ofNat 1 ∧ Int.ofNat 10000000000000000000000000000000000 < wV c' d' → bsel (decide (c ≥ (0 : Int))) ((u64 a' ∧ u64 b' ∧ u64 c' ∧ u64 d' ∧ i64 e' ∧ i64 (Int.ofNat 1)) ∧ ∀ (n' : Bool) (a'_1 b'_1 c'_1 d'_1 e' : Int) (m' : Bool), u64 a'_1 → u64 b'_1 → u64 c'_1 → u64 d'_1 → i64 e' → wW a'_1 b'_1 c'_1 d'_1 * Int.ofNat 10 ≤ wW a' b' c' d' + Int.ofNat 10 → (u64 c'_1 ∧ u64 d'_1) ∧ bsel (c'_1 == (0 : Int) && d'_1 == (0 : Int)) (K (.tuple (Array.mk [.agg (Array.mk [.bool false, .int .u64 (Int.ofNat 0), .int .u64 (Int.ofNat 0), .int .i64 ((match decide (((match decide ((6111 : Int) < e') with | true => (6111 : Int) | false => e')) > (-6176 : Int)) with | true => (match decide ((6111 : Int) < e') with | true => (6111 : Int) | false => e') | false => (-6176 : Int)))]), .bool true])) 10) (Is (loopOf Go.Proofs.Tryz.prog 216 9) (loopOf Go.Proofs.Tryz.prog 216 9) ∧ ∃ (x : Nat), ∃ (x_1 : ftxS), (ftxI x x_1 ∧ true = true ∧ LoopS.At ftxL x_1 true [.pointer (some (Addr.mk 10 0 none)), .pointer (some (Addr.mk 11 0 none))] [(11, Blk.mk [some (Value.bool false), some (Value.int .u64 (Int.ofNat 0)), some (Value.int .u64 (Int.ofNat 0)), some (Value.int .i64 (Int.ofNat 0))] 88 true 0 none false), (10, Blk.mk [some (Value.bool n'), some (Value.int .u64 a'_1), some (Value.int .u64 b'_1), some (Value.int .u64 c'_1), some (Value.int .u64 d'_1), some (Value.int .i64 e'), some (Value.bool m')] 251 true 0 none false)] 12 10 79 216 []) ∧ ∀ (a' : ftxS), ftxO a' → bsel (decide (a'.6 > (6111 : Int))) (K (.tuple (Array.mk [.agg (Array.mk [.bool false, .int .u64 (Int.ofNat 0), .int .u64 (Int.ofNat 0), .int .i64 (Int.ofNat 0)]), .bool false])) 10) (bsel a'.1 (K (.tuple (Array.mk [.agg (Array.mk [.bool true, .int .u64 a'.4, .int .u64 a'.5, .int .i64 ((match decide ((-6176 : Int) > a'.6) with | true => (-6176 : Int) | false => a'.6))]), .bool true])) 10) (K (.tuple (Array.mk [.agg (Array.mk [.bool false, .int .u64 a'.4, .int .u64 a'.5, .int .i64 ((match decide ((-6176 : Int) > a'.6) with | true => (-6176 : Int) | false => a'.6))]), .bool true])) 10)))) ((u64 c' ∧ u64 d') ∧ bsel (c' == (0 : Int) && d' == (0 : Int)) (K (.tuple (Array.mk [.agg (Array.mk [.bool false, .int .u64 (Int.ofNat 0), .int .u64 (Int.ofNat 0), .int .i64 ((match decide (((match decide ((6111 : Int) < e') with | true => (6111 : Int) | false => e')) > (-6176 : Int)) with | true => (match decide ((6111 : Int) < e') with | true => (6111 : Int) | false => e') | false => (-6176 : Int)))]), .bool true])) 10) (Is (loopOf Go.Proofs.Tryz.prog 216 9) (loopOf Go.Proofs.Tryz.prog 216 9) ∧ ∃ (x : Nat), ∃ (x_1 : ftxS), (ftxI x x_1 ∧ true = true ∧ LoopS.At ftxL x_1 true [.pointer (some (Addr.mk 10 0 none)), .pointer (some (Addr.mk 11 0 none))] [(11, Blk.mk [some (Value.bool false), some (Value.int .u64 (Int.ofNat 0)), some (Value.int .u64 (Int.ofNat 0)), some (Value.int .i64 (Int.ofNat 0))] 88 true 0 none false), (10, Blk.mk [some (Value.bool n'), some (Value.int .u64 a'), some (Value.int .u64 b'), some (Value.int .u64 c'), some (Value.int .u64 d'), some (Value.int .i64 e'), some (Value.bool m')] 251 true 0 none false)] 12 10 79 216 []) ∧ ∀ (a' : ftxS), ftxO a' → bsel (decide (a'.6 > (6111 : Int))) (K (.tuple (Array.mk [.agg (Array.mk [.bool false, .int .u64 (Int.ofNat 0), .int .u64 (Int.ofNat 0), .int .i64 (Int.ofNat 0)]), .bool false])) 10) (bsel a'.1 (K (.tuple (Array.mk [.agg (Array.mk [.bool true, .int .u64 a'.4, .int .u64 a'.5, .int .i64 ((match decide ((-6176 : Int) > a'.6) with | true => (-6176 : Int) | false => a'.6))]), .bool true])) 10) (K (.tuple (Array.mk [.agg (Array.mk [.bool false, .int .u64 a'.4, .int .u64 a'.5, .int .i64 ((match decide ((-6176 : Int) > a'.6) with | true => (-6176 : Int) | false => a'.6))]), .bool true])) 10))))) (bsel m ((u64 a ∧ u64 b ∧ u64 c ∧ u64 d ∧ i64 e ∧ i64 ((match decide (((match decide ((100 : Int) < IntKind.wrap .i64 ((-6176 : Int) - e)) with | true => (100 : Int) | false => IntKind.wrap .i64 ((-6176 : Int) - e))) > (match decide (IntKind.wrap .i64 (n_1 - (34 : Int)) > (0 : Int)) with | true => IntKind.wrap .i64 (n_1 - (34 : Int)) | false => (0 : Int))) with | true => (match decide ((100 : Int) < IntKind.wrap .i64 ((-6176 : Int) - e)) with | true => (100 : Int) | false => IntKind.wrap .i64 ((-6176 : Int) - e)) | false => (match decide (IntKind.wrap .i64 (n_1 - (34 : Int)) > (0 : Int)) with | true => IntKind.wrap .i64 (n_1 - (34 : Int)) | false => (0 : Int))))) ∧ ∀ (n' : Bool) (a' b' c' d' e' : Int) (m' : Bool), u64 a' → u64 b' → u64 c' → u64 d' → i64 e' → wW a' b' c' d' * Int.ofNat (nat_lit 10 ^ Int.toNat ((match decide (((match decide ((100 : Int) < IntKind.wrap .i64 ((-6176 : Int) - e)) with | true => (100 : Int) | false => IntKind.wrap .i64 ((-6176 : Int) - e))) > (match decide (IntKind.wrap .i64 (n_1 - (34 : Int)) > (0 : Int)) with | true => IntKind.wrap .i64 (n_1 - (34 : Int)) | false => (0 : Int))) with | true => (match decide ((100 : Int) < IntKind.wrap .i64 ((-6176 : Int) - e)) with | true => (100 : Int) | false => IntKind.wrap .i64 ((-6176 : Int) - e)) | false => (match decide (IntKind.wrap .i64 (n_1 - (34 : Int)) > (0 : Int)) with | true => IntKind.wrap .i64 (n_1 - (34 : Int)) | false => (0 : Int))))) ≤ wW a b c d + Int.ofNat (nat_lit 10 ^ Int.toNat ((match decide (((match decide ((100 : Int) < IntKind.wrap .i64 ((-6176 : Int) - e)) with | true => (100 : Int) | false => IntKind.wrap .i64 ((-6176 : Int) - e))) > (match decide (IntKind.wrap .i64 (n_1 - (34 : Int)) > (0 : Int)) with | true => IntKind.wrap .i64 (n_1 - (34 : Int)) | false => (0 : Int))) with | true => (match decide ((100 : Int) < IntKind.wrap .i64 ((-6176 : Int) - e)) with | true => (100 : Int) | false => IntKind.wrap .i64 ((-6176 : Int) - e)) | false => (match decide (IntKind.wrap .i64 (n_1 - (34 : Int)) > (0 : Int)) with | true => IntKind.wrap .i64 (n_1 - (34 : Int)) | false => (0 : Int))))) → (u64 c' ∧ u64 d' ∧ u64 (Int.ofNat 542101086242752) ∧ u64 (Int.ofNat 4003012203950112768)) ∧ ∀ (c : Int), c = Int.negSucc 0 ∧ wV c' d' < Int.ofNat 10000000000000000000000000000000000 ∨ c = Int.ofNat 0 ∧ wV c' d' = Int.ofNat 10000000000000000000000000000000000 ∨ c = Int.ofNat 1 ∧ Int.ofNat 10000000000000000000000000000000000 < wV c' d' → bsel (decide (c ≥ (0 : Int))) ((u64 a' ∧ u64 b' ∧ u64 c' ∧ u64 d' ∧ i64 e' ∧ i64 (Int.ofNat 1)) ∧ ∀ (n' : Bool) (a'_1 b'_1 c'_1 d'_1 e' : Int) (m' : Bool), u64 a'_1 → u64 b'_1 → u64 c'_1 → u64 d'_1 → i64 e' → wW a'_1 b'_1 c'_1 d'_1 * Int.ofNat 10 ≤ wW a' b' c' d' + Int.ofNat 10 → (u64 c'_1 ∧ u64 d'_1) ∧ bsel (c'_1 == (0 : Int) && d'_1 == (0 : Int)) (K (.tuple (Array.mk [.agg (Array.mk [.bool false, .int .u64 (Int.ofNat 0), .int .u64 (Int.ofNat 0), .int .i64 ((match decide (((match decide ((6111 : Int) < e') with | true => (6111 : Int) | false => e')) > (-6176 : Int)) with | true => (match decide ((6111 : Int) < e') with | true => (6111 : Int) | false => e') | false => (-6176 : Int)))]), .bool true])) 10) (Is (loopOf Go.Proofs.Tryz.prog 216 9) (loopOf Go.Proofs.Tryz.prog 216 9) ∧ ∃ (x : Nat), ∃ (x_1 : ftxS), (ftxI x x_1 ∧ true = true ∧ LoopS.At ftxL x_1 true [.pointer (some (Addr.mk 10 0 none)), .pointer (some (Addr.mk 11 0 none))] [(11, Blk.mk [some (Value.bool false), some (Value.int .u64 (Int.ofNat 0)), some (Value.int .u64 (Int.ofNat 0)), some (Value.int .i64 (Int.ofNat 0))] 88 true 0 none false), (10, Blk.mk [some (Value.bool n'), some (Value.int .u64 a'_1), some (Value.int .u64 b'_1), some (Value.int .u64 c'_1), some (Value.int .u64 d'_1), some (Value.int .i64 e'), some (Value.bool m')] 251 true 0 none false)] 12 10 79 216 []) ∧ ∀ (a' : ftxS), ftxO a' → bsel (decide (a'.6 > (6111 : Int))) (K (.tuple (Array.mk [.agg (Array.mk [.bool false, .int .u64 (Int.ofNat 0), .int .u64 (Int.ofNat 0), .int .i64 (Int.ofNat 0)]), .bool false])) 10) (bsel a'.1 (K (.tuple (Array.mk [.agg (Array.mk [.bool true, .int .u64 a'.4, .int .u64 a'.5, .int .i64 ((match decide ((-6176 : Int) > a'.6) with | true => (-6176 : Int) | false => a'.6))]), .bool true])) 10) (K (.tuple (Array.mk [.agg (Array.mk [.bool false, .int .u64 a'.4, .int .u64 a'.5, .int .i64 ((match decide ((-6176 : Int) > a'.6) with | true => (-6176 : Int) | false => a'.6))]), .bool true])) 10)))) ((u64 c' ∧ u64 d') ∧ bsel (c' == (0 : Int) && d' == (0 : Int)) (K (.tuple (Array.mk [.agg (Array.mk [.bool false, .int .u64 (Int.ofNat 0), .int .u64 (Int.ofNat 0), .int .i64 ((match decide (((match decide ((6111 : Int) < e') with | true => (6111 : Int) | false => e')) > (-6176 : Int)) with | true => (match decide ((6111 : Int) < e') with | true => (6111 : Int) | false => e') | false => (-6176 : Int)))]), .bool true])) 10) (Is (loopOf Go.Proofs.Tryz.prog 216 9) (loopOf Go.Proofs.Tryz.prog 216 9) ∧ ∃ (x : Nat), ∃ (x_1 : ftxS), (ftxI x x_1 ∧ true = true ∧ LoopS.At ftxL x_1 true [.pointer (some (Addr.mk 10 0 none)), .pointer (some (Addr.mk 11 0 none))] [(11, Blk.mk [some (Value.bool false), some (Value.int .u64 (Int.ofNat 0)), some (Value.int .u64 (Int.ofNat 0)), some (Value.int .i64 (Int.ofNat 0))] 88 true 0 none false), (10, Blk.mk [some (Value.bool n'), some (Value.int .u64 a'), some (Value.int .u64 b'), some (Value.int .u64 c'), some (Value.int .u64 d'), some (Value.int .i64 e'), some (Value.bool m')] 251 true 0 none false)] 12 10 79 216 []) ∧ ∀ (a' : ftxS), ftxO a' → bsel (decide (a'.6 > (6111 : Int))) (K (.tuple (Array.mk [.agg (Array.mk [.bool false, .int .u64 (Int.ofNat 0), .int .u64 (Int.ofNat 0), .int .i64 (Int.ofNat 0)]), .bool false])) 10) (bsel a'.1 (K (.tuple (Array.mk [.agg (Array.mk [.bool true, .int .u64 a'.4, .int .u64 a'.5, .int .i64 ((match decide ((-6176 : Int) > a'.6) with | true => (-6176 : Int) | false => a'.6))]), .bool true])) 10) (K (.tuple (Array.mk [.agg (Array.mk [.bool false, .int .u64 a'.4, .int .u64 a'.5, .int .i64 ((match decide ((-6176 : Int) > a'.6) with | true => (-6176 : Int) | false => a'.6))]), .bool true])) 10))))) ((u64 c ∧ u64 d ∧ u64 (Int.ofNat 542101086242752) ∧ u64 (Int.ofNat 4003012203950112768)) ∧ ∀ (c_1 : Int), c_1 = Int.negSucc 0 ∧ wV c d < Int.ofNat 10000000000000000000000000000000000 ∨ c_1 = Int.ofNat 0 ∧ wV c d = Int.ofNat 10000000000000000000000000000000000 ∨ c_1 = Int.ofNat 1 ∧ Int.ofNat 10000000000000000000000000000000000 < wV c d → bsel (decide (c_1 ≥ (0 : Int))) ((u64 a ∧ u64 b ∧ u64 c ∧ u64 d ∧ i64 e ∧ i64 (Int.ofNat 1)) ∧ ∀ (n' : Bool) (a' b' c' d' e' : Int) (m' : Bool), u64 a' → u64 b' → u64 c' → u64 d' → i64 e' → wW a' b' c' d' * Int.ofNat 10 ≤ wW a b c d + Int.ofNat 10 → (u64 c' ∧ u64 d') ∧ bsel (c' == (0 : Int) && d' == (0 : Int)) (K (.tuple (Array.mk [.agg (Array.mk [.bool false, .int .u64 (Int.ofNat 0), .int .u64 (Int.ofNat 0), .int .i64 ((match decide (((match decide ((6111 : Int) < e') with | true => (6111 : Int) | false => e')) > (-6176 : Int)) with | true => (match decide ((6111 : Int) < e') with | true => (6111 : Int) | false => e') | false => (-6176 : Int)))]), .bool true])) 10) (Is (loopOf Go.Proofs.Tryz.prog 216 9) (loopOf Go.Proofs.Tryz.prog 216 9) ∧ ∃ (x : Nat), ∃ (x_1 : ftxS), (ftxI x x_1 ∧ true = true ∧ LoopS.At ftxL x_1 true [.pointer (some (Addr.mk 10 0 none)), .pointer (some (Addr.mk 11 0 none))] [(11, Blk.mk [some (Value.bool false), some (Value.int .u64 (Int.ofNat 0)), some (Value.int .u64 (Int.ofNat 0)), some (Value.int .i64 (Int.ofNat 0))] 88 true 0 none false), (10, Blk.mk [some (Value.bool n'), some (Value.int .u64 a'), some (Value.int .u64 b'), some (Value.int .u64 c'), some (Value.int .u64 d'), some (Value.int .i64 e'), some (Value.bool m')] 251 true 0 none false)] 12 10 79 216 []) ∧ ∀ (a' : ftxS), ftxO a' → bsel (decide (a'.6 > (6111 : Int))) (K (.tuple (Array.mk [.agg (Array.mk [.bool false, .int .u64 (Int.ofNat 0), .int .u64 (Int.ofNat 0), .int .i64 (Int.ofNat 0)]), .bool false])) 10) (bsel a'.1 (K (.tuple (Array.mk [.agg (Array.mk [.bool true, .int .u64 a'.4, .int .u64 a'.5, .int .i64 ((match decide ((-6176 : Int) > a'.6) with | true => (-6176 : Int) | false => a'.6))]), .bool true])) 10) (K (.tuple (Array.mk [.agg (Array.mk [.bool false, .int .u64 a'.4, .int .u64 a'.5, .int .i64 ((match decide ((-6176 : Int) > a'.6) with | true => (-6176 : Int) | false => a'.6))]), .bool true])) 10)))) ((u64 c ∧ u64 d) ∧ bsel (c == (0 : Int) && d == (0 : Int)) (K (.tuple (Array.mk [.agg (Array.mk [.bool false, .int .u64 (Int.ofNat 0), .int .u64 (Int.ofNat 0), .int .i64 ((match decide (((match decide ((6111 : Int) < e) with | true => (6111 : Int) | false => e)) > (-6176 : Int)) with | true => (match decide ((6111 : Int) < e) with | true => (6111 : Int) | false => e) | false => (-6176 : Int)))]), .bool true])) 11) (Is (loopOf Go.Proofs.Tryz.prog 216 9) (loopOf Go.Proofs.Tryz.prog 216 9) ∧ ∃ (x : Nat), ∃ (x_1 : ftxS), (ftxI x x_1 ∧ true = true ∧ LoopS.At ftxL x_1 true [.pointer (some (Addr.mk 10 0 none)), .pointer (some (Addr.mk 11 0 none))] [(11, Blk.mk [some (Value.bool false), some (Value.int .u64 (Int.ofNat 0)), some (Value.int .u64 (Int.ofNat 0)), some (Value.int .i64 (Int.ofNat 0))] 88 true 0 none false), (10, Blk.mk [some (Value.bool n), some (Value.int .u64 a), some (Value.int .u64 b), some (Value.int .u64 c), some (Value.int .u64 d), some (Value.int .i64 e), some (Value.bool m)] 251 true 0 none false)] 12 18446744073709551616 79 216 []) ∧ ∀ (a' : ftxS), ftxO a' → bsel (decide (a'.6 > (6111 : Int))) (K (.tuple (Array.mk [.agg (Array.mk [.bool false, .int .u64 (Int.ofNat 0), .int .u64 (Int.ofNat 0), .int .i64 (Int.ofNat 0)]), .bool false])) 10) (bsel a'.1 (K (.tuple (Array.mk [.agg (Array.mk [.bool true, .int .u64 a'.4, .int .u64 a'.5, .int .i64 ((match decide ((-6176 : Int) > a'.6) with | true => (-6176 : Int) | false => a'.6))]), .bool true])) 10) (K (.tuple (Array.mk [.agg (Array.mk [.bool false, .int .u64 a'.4, .int .u64 a'.5, .int .i64 ((match decide ((-6176 : Int) > a'.6) with | true => (-6176 : Int) | false => a'.6))]), .bool true])) 10))))))) := by kernel_rfl
theorem fitx_hk (n : Bool) (a b c d e : Int) (m : Bool) (mode : Int) (h1 : u64 a) (h2 : u64 b) (h3 : u64 c) (h4 : u64 d) (h5 : i64 e) : ReckA (envW rulesXI loopsFx) 30 216 [.agg ⟨[.bool n, .int .u64 a, .int .u64 b, .int .u64 c, .int .u64 d, .int .i64 e, .bool m]⟩, .int .i64 mode] (isFitx n a b c d e m mode) := by
  constructor
  rw [fitx_hk_tree fun u mw => (isFitx n a b c d e m mode) u ∧ Tryz.prog.globals.size ≤ mw]
  refine ⟨⟨h1, h2, h3, h4⟩, fun D g0 g96 gD => ?_⟩
  refine bsel_of (fun _ => ⟨⟨h1, h2, h3, h4, h5, by (first | assumption | exact i64_lit rfl | (repeat' (first | assumption | exact i64_wrap _ | exact i64_lit rfl | refine i64_pick ?_ ?_)))⟩, fun n1 a1 b1 c1 d1 e1 m1 u1 u2 u3 u4 u5 u6 => ?_⟩) (fun hn => bsel_of (fun _ => ⟨⟨h1, h2, h3, h4, h5, by (first | assumption | exact i64_lit rfl | (repeat' (first | assumption | exact i64_wrap _ | exact i64_lit rfl | refine i64_pick ?_ ?_)))⟩, fun n1 a1 b1 c1 d1 e1 m1 u1 u2 u3 u4 u5 u6 => ?_⟩) (fun _ => ?_))
  · have hv := cut_fit (nn_ge _ D g0 g96) gD u6
    refine ⟨⟨by assumption, by assumption, u64_lit rfl, u64_lit rfl⟩, fun cc hc => bsel_of (fun hb => ⟨⟨by assumption, by assumption, by assumption, by assumption, by assumption, i64_lit rfl⟩, fun n8 a8 b8 c8 d8 e8 m8 v1 v2 v3 v4 v5 v6 => ?_⟩) (fun hb => ?_)⟩
    · have hV := fit_lo2 v1 v2 v6 hv
      refine ⟨⟨by assumption, by assumption⟩, bsel_of (fun _ => ⟨⟨_, _, _, _, _, rfl, u64_lit rfl, u64_lit rfl, by decide, (clamp_ok _).1, (clamp_ok _).2, fun h => by cases h⟩, Nat.le_of_ble_eq_true (by kernel_rfl)⟩) (fun hz => ⟨⟨rfl⟩, _, ⟨_, _, _, _, _, _, _⟩, ⟨⟨⟨by assumption, by assumption, by assumption, by assumption⟩, by assumption, ⟨pos_of (by assumption) (by assumption) hz, hV⟩, rfl⟩, by kernel_rfl, LoopS.At.quick [] rfl rfl (by kernel_rfl) rfl (by kernel_rfl) rfl rfl rfl⟩, fun ⟨n9, a9, b9, c9, d9, e9, m9⟩ ⟨⟨q1, q2, q3, q4⟩, q5, q6, q7⟩ => bsel_of (fun _ => ⟨⟨_, _, _, _, _, rfl, u64_lit rfl, u64_lit rfl, by decide, by decide, by decide, fun h => by cases h⟩, Nat.le_of_ble_eq_true (by kernel_rfl)⟩) (fun he => bsel_of (fun _ => ⟨⟨_, _, _, _, _, rfl, q3, q4, q7, (low_ok he).1, (low_ok he).2, fun _ => Int.ne_of_gt q6⟩, Nat.le_of_ble_eq_true (by kernel_rfl)⟩) (fun _ => ⟨⟨_, _, _, _, _, rfl, q3, q4, q7, (low_ok he).1, (low_ok he).2, fun _ => Int.ne_of_gt q6⟩, Nat.le_of_ble_eq_true (by kernel_rfl)⟩))⟩)⟩
    · have hV := fit_lo1 hc hb
      refine ⟨⟨by assumption, by assumption⟩, bsel_of (fun _ => ⟨⟨_, _, _, _, _, rfl, u64_lit rfl, u64_lit rfl, by decide, (clamp_ok _).1, (clamp_ok _).2, fun h => by cases h⟩, Nat.le_of_ble_eq_true (by kernel_rfl)⟩) (fun hz => ⟨⟨rfl⟩, _, ⟨_, _, _, _, _, _, _⟩, ⟨⟨⟨by assumption, by assumption, by assumption, by assumption⟩, by assumption, ⟨pos_of (by assumption) (by assumption) hz, hV⟩, rfl⟩, by kernel_rfl, LoopS.At.quick [] rfl rfl (by kernel_rfl) rfl (by kernel_rfl) rfl rfl rfl⟩, fun ⟨n9, a9, b9, c9, d9, e9, m9⟩ ⟨⟨q1, q2, q3, q4⟩, q5, q6, q7⟩ => bsel_of (fun _ => ⟨⟨_, _, _, _, _, rfl, u64_lit rfl, u64_lit rfl, by decide, by decide, by decide, fun h => by cases h⟩, Nat.le_of_ble_eq_true (by kernel_rfl)⟩) (fun he => bsel_of (fun _ => ⟨⟨_, _, _, _, _, rfl, q3, q4, q7, (low_ok he).1, (low_ok he).2, fun _ => Int.ne_of_gt q6⟩, Nat.le_of_ble_eq_true (by kernel_rfl)⟩) (fun _ => ⟨⟨_, _, _, _, _, rfl, q3, q4, q7, (low_ok he).1, (low_ok he).2, fun _ => Int.ne_of_gt q6⟩, Nat.le_of_ble_eq_true (by kernel_rfl)⟩))⟩)⟩
  · have hv := cut_fit (nn_ge _ D g0 g96) gD u6
    refine ⟨⟨by assumption, by assumption, u64_lit rfl, u64_lit rfl⟩, fun cc hc => bsel_of (fun hb => ⟨⟨by assumption, by assumption, by assumption, by assumption, by assumption, i64_lit rfl⟩, fun n8 a8 b8 c8 d8 e8 m8 v1 v2 v3 v4 v5 v6 => ?_⟩) (fun hb => ?_)⟩
    · have hV := fit_lo2 v1 v2 v6 hv
      refine ⟨⟨by assumption, by assumption⟩, bsel_of (fun _ => ⟨⟨_, _, _, _, _, rfl, u64_lit rfl, u64_lit rfl, by decide, (clamp_ok _).1, (clamp_ok _).2, fun h => by cases h⟩, Nat.le_of_ble_eq_true (by kernel_rfl)⟩) (fun hz => ⟨⟨rfl⟩, _, ⟨_, _, _, _, _, _, _⟩, ⟨⟨⟨by assumption, by assumption, by assumption, by assumption⟩, by assumption, ⟨pos_of (by assumption) (by assumption) hz, hV⟩, rfl⟩, by kernel_rfl, LoopS.At.quick [] rfl rfl (by kernel_rfl) rfl (by kernel_rfl) rfl rfl rfl⟩, fun ⟨n9, a9, b9, c9, d9, e9, m9⟩ ⟨⟨q1, q2, q3, q4⟩, q5, q6, q7⟩ => bsel_of (fun _ => ⟨⟨_, _, _, _, _, rfl, u64_lit rfl, u64_lit rfl, by decide, by decide, by decide, fun h => by cases h⟩, Nat.le_of_ble_eq_true (by kernel_rfl)⟩) (fun he => bsel_of (fun _ => ⟨⟨_, _, _, _, _, rfl, q3, q4, q7, (low_ok he).1, (low_ok he).2, fun _ => Int.ne_of_gt q6⟩, Nat.le_of_ble_eq_true (by kernel_rfl)⟩) (fun _ => ⟨⟨_, _, _, _, _, rfl, q3, q4, q7, (low_ok he).1, (low_ok he).2, fun _ => Int.ne_of_gt q6⟩, Nat.le_of_ble_eq_true (by kernel_rfl)⟩))⟩)⟩
    · have hV := fit_lo1 hc hb
      refine ⟨⟨by assumption, by assumption⟩, bsel_of (fun _ => ⟨⟨_, _, _, _, _, rfl, u64_lit rfl, u64_lit rfl, by decide, (clamp_ok _).1, (clamp_ok _).2, fun h => by cases h⟩, Nat.le_of_ble_eq_true (by kernel_rfl)⟩) (fun hz => ⟨⟨rfl⟩, _, ⟨_, _, _, _, _, _, _⟩, ⟨⟨⟨by assumption, by assumption, by assumption, by assumption⟩, by assumption, ⟨pos_of (by assumption) (by assumption) hz, hV⟩, rfl⟩, by kernel_rfl, LoopS.At.quick [] rfl rfl (by kernel_rfl) rfl (by kernel_rfl) rfl rfl rfl⟩, fun ⟨n9, a9, b9, c9, d9, e9, m9⟩ ⟨⟨q1, q2, q3, q4⟩, q5, q6, q7⟩ => bsel_of (fun _ => ⟨⟨_, _, _, _, _, rfl, u64_lit rfl, u64_lit rfl, by decide, by decide, by decide, fun h => by cases h⟩, Nat.le_of_ble_eq_true (by kernel_rfl)⟩) (fun he => bsel_of (fun _ => ⟨⟨_, _, _, _, _, rfl, q3, q4, q7, (low_ok he).1, (low_ok he).2, fun _ => Int.ne_of_gt q6⟩, Nat.le_of_ble_eq_true (by kernel_rfl)⟩) (fun _ => ⟨⟨_, _, _, _, _, rfl, q3, q4, q7, (low_ok he).1, (low_ok he).2, fun _ => Int.ne_of_gt q6⟩, Nat.le_of_ble_eq_true (by kernel_rfl)⟩))⟩)⟩
  · have hv := small_of gD (Int.le_trans (nn_ge _ D g0 g96) (Int.not_lt.1 (of_decide_eq_false hn)))
    refine ⟨⟨by assumption, by assumption, u64_lit rfl, u64_lit rfl⟩, fun cc hc => bsel_of (fun hb => ⟨⟨by assumption, by assumption, by assumption, by assumption, by assumption, i64_lit rfl⟩, fun n8 a8 b8 c8 d8 e8 m8 v1 v2 v3 v4 v5 v6 => ?_⟩) (fun hb => ?_)⟩
    · have hV := fit_lo2 v1 v2 v6 hv
      refine ⟨⟨by assumption, by assumption⟩, bsel_of (fun _ => ⟨⟨_, _, _, _, _, rfl, u64_lit rfl, u64_lit rfl, by decide, (clamp_ok _).1, (clamp_ok _).2, fun h => by cases h⟩, Nat.le_of_ble_eq_true (by kernel_rfl)⟩) (fun hz => ⟨⟨rfl⟩, _, ⟨_, _, _, _, _, _, _⟩, ⟨⟨⟨by assumption, by assumption, by assumption, by assumption⟩, by assumption, ⟨pos_of (by assumption) (by assumption) hz, hV⟩, rfl⟩, by kernel_rfl, LoopS.At.quick [] rfl rfl (by kernel_rfl) rfl (by kernel_rfl) rfl rfl rfl⟩, fun ⟨n9, a9, b9, c9, d9, e9, m9⟩ ⟨⟨q1, q2, q3, q4⟩, q5, q6, q7⟩ => bsel_of (fun _ => ⟨⟨_, _, _, _, _, rfl, u64_lit rfl, u64_lit rfl, by decide, by decide, by decide, fun h => by cases h⟩, Nat.le_of_ble_eq_true (by kernel_rfl)⟩) (fun he => bsel_of (fun _ => ⟨⟨_, _, _, _, _, rfl, q3, q4, q7, (low_ok he).1, (low_ok he).2, fun _ => Int.ne_of_gt q6⟩, Nat.le_of_ble_eq_true (by kernel_rfl)⟩) (fun _ => ⟨⟨_, _, _, _, _, rfl, q3, q4, q7, (low_ok he).1, (low_ok he).2, fun _ => Int.ne_of_gt q6⟩, Nat.le_of_ble_eq_true (by kernel_rfl)⟩))⟩)⟩
    · have hV := fit_lo1 hc hb
      refine ⟨⟨by assumption, by assumption⟩, bsel_of (fun _ => ⟨⟨_, _, _, _, _, rfl, u64_lit rfl, u64_lit rfl, by decide, (clamp_ok _).1, (clamp_ok _).2, fun h => by cases h⟩, Nat.le_of_ble_eq_true (by kernel_rfl)⟩) (fun hz => ⟨⟨rfl⟩, _, ⟨_, _, _, _, _, _, _⟩, ⟨⟨⟨by assumption, by assumption, by assumption, by assumption⟩, by assumption, ⟨pos_of (by assumption) (by assumption) hz, hV⟩, rfl⟩, by kernel_rfl, LoopS.At.quick [] rfl rfl (by kernel_rfl) rfl (by kernel_rfl) rfl rfl rfl⟩, fun ⟨n9, a9, b9, c9, d9, e9, m9⟩ ⟨⟨q1, q2, q3, q4⟩, q5, q6, q7⟩ => bsel_of (fun _ => ⟨⟨_, _, _, _, _, rfl, u64_lit rfl, u64_lit rfl, by decide, by decide, by decide, fun h => by cases h⟩, Nat.le_of_ble_eq_true (by kernel_rfl)⟩) (fun he => bsel_of (fun _ => ⟨⟨_, _, _, _, _, rfl, q3, q4, q7, (low_ok he).1, (low_ok he).2, fun _ => Int.ne_of_gt q6⟩, Nat.le_of_ble_eq_true (by kernel_rfl)⟩) (fun _ => ⟨⟨_, _, _, _, _, rfl, q3, q4, q7, (low_ok he).1, (low_ok he).2, fun _ => Int.ne_of_gt q6⟩, Nat.le_of_ble_eq_true (by kernel_rfl)⟩))⟩)⟩
def ruleFitx : Rule := ruleA fun args => match args with
  | [.agg ⟨[.bool n, .int .u64 a, .int .u64 b, .int .u64 c, .int .u64 d, .int .i64 e, .bool m]⟩, .int .i64 mode] => some fun K => (u64 a ∧ u64 b ∧ u64 c ∧ u64 d ∧ i64 e) ∧ ∀ (n' : Bool) (a' b' e' : Int) (ok : Bool), decOk n' a' b' e' → K (.tuple #[decC n' a' b' e', .bool ok])
  | _ => none
theorem fitx_ok {base : World} : RuleOk Tryz.prog base 216 ruleFitx := ruleOkA fun args T K hT hK => by
  split at hT
  · cases hT
    obtain ⟨⟨h1, h2, h3, h4, h5⟩, hK⟩ := hK
    obtain ⟨v, ⟨r0, r1, r2, r3, r4, rfl, hf⟩, ht⟩ := totA_of (base := base) (envW_ok (rulesXI_ok base)) (findL_ok rfl (loopsFx_ok rfl rfl base)) rfl (fitx_hk _ _ _ _ _ _ _ _ h1 h2 h3 h4 h5) (fun v ⟨_, _, _, _, _, hv, _⟩ => by subst hv; kernel_rfl) (List.forall_mem_cons.2 ⟨by kernel_rfl, List.forall_mem_cons.2 ⟨by kernel_rfl, fun _ h => nomatch h⟩⟩)
    exact ⟨_, hK r0 r1 r2 r3 r4 hf, ht⟩
  · cases hT
end Go.Proofs.YthmogphlnjpakaaGreatDoor
