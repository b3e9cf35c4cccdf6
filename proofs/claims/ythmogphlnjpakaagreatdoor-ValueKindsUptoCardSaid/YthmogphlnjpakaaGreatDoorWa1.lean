/-
  Calls told for every heap; bits.LeadingZeros64, bits.Mul64 by the shelf; numbers of 128 bits: compared, taken from one another, doubled.
  Plain arithmetic: a digit of a quotient by a normalized divisor (what bits.Div64 reckons), by an estimate that is brought down.
  bits.Div64: two words by a word.
  Numbers of 256 bits by one of 128.
-/
import Derived.Test.YthmogphlnjpakaaGreatDoorEa1
import Derived.Test.YthmogphlnjpakaaGreatDoorPeT1
import Derived.Test.YthmogphlnjpakaaGreatDoorSh

namespace Go.Proofs.YthmogphlnjpakaaGreatDoor
open Go Go.Pe Go.RowKit
def TotA (base : World) (f : FuncId) (args : List Value) (v : Value) : Prop := ∀ E : Env, E.P = Tryz.prog → ∀ (h : Heap) (n : Nat), FuncSem E base f args h n v h n big
structure ReckA (E : Env) (d : Nat) (f : FuncId) (args : List Value) (S : Value → Prop) : Prop where
  out : funcK E d f args [] Tryz.prog.globals.size (fun u _ _ mw => S u ∧ Tryz.prog.globals.size ≤ mw)
theorem totA_of {E : Env} {base : World} (hE : EnvOk E base) (hL : LoopsOk E base) (hP : E.P = Tryz.prog) {d : Nat} {f : FuncId} {args : List Value} {S : Value → Prop} (hk : ReckA E d f args S)
    (hp : ∀ v, S v → pureV 6 v = true) (ha : ∀ x ∈ args, pureV 6 x = true) : ∃ v, S v ∧ TotA base f args v := by
  obtain ⟨u, h', n', mw, ⟨hS, hmw⟩, hs⟩ := funcK_sound hE hL d f args [] Tryz.prog.globals.size _ hk.out
  exact ⟨u, hS, fun E' hE' h n => (hs.anywhere hmw (hp u hS) ha (hwf_empty _) (by rw [hP]; exact Nat.le_refl _) (Sub.nil h) n).env (hE'.trans hP.symm)⟩
abbrev ARule := List Value → Option ((Value → Prop) → Prop)
def ruleA (R : ARule) : Rule := fun args h n => match R args with
  | some T => some fun K => T fun v => K v h n big
  | none => none
theorem ruleOkA {base : World} {f : FuncId} {R : ARule} (H : ∀ args T K, R args = some T → T K → ∃ v, K v ∧ TotA base f args v) : RuleOk Tryz.prog base f (ruleA R) := by
  intro E hE args h n T K hT hK
  unfold ruleA at hT
  split at hT
  · rename_i T' hR
    cases hT
    obtain ⟨v, hv, htot⟩ := H args T' _ hR hK
    exact ⟨v, h, n, big, hv, htot E hE h n⟩
  · cases hT
theorem totA_contract {base : World} {f : FuncId} {fn : Func} (hf : Tryz.prog.funcs[f]? = some fn) (hb : fn.body.isSome = true) {args : List Value} (ha : ∀ x ∈ args, pureV 6 x = true) {v : Value} (hv : pureV 6 v = true)
    (H : ∀ w : World, Calls Tryz.prog f args.toArray w fun e w' => e = .returned v ∧ w' = w) : TotA base f args v := fun E hP h n => by
  have hE' : EnvOk (env []) base := env_ok (rules := []) (fun _ h => by cases h)
  exact (FuncSem.ofContract (E := env []) hE' (fn := fn) hf hb ha hv fun w _ => (H w).mono fun e w' ⟨he, hw⟩ => ⟨he, by rw [hw]; exact Below.refl _ _⟩).env hP
/-! A word; a number of 128 bits -/
def u64 (x : Int) : Prop := 0 ≤ x ∧ x < 18446744073709551616
def wU (h l : Int) : Value := .agg ⟨[.int .u64 h, .int .u64 l]⟩
def wV (h l : Int) : Int := h * 18446744073709551616 + l
theorem wrap_u64' (x : Int) : IntKind.wrap .u64 x = x % 18446744073709551616 := by
  simp [IntKind.wrap, IntKind.bits, IntKind.signed]
def tEqs : List TypeId := [86]
theorem tEqs_ok : ∀ t ∈ tEqs, Tryz.prog.eqGuardType Tryz.prog.depth t = false := by
  unfold tEqs
  exact List.forall_mem_cons.2 ⟨by kernel_rfl, fun _ h => nomatch h⟩
noncomputable def envW (rules : List (Nat × Rule)) (loops : List ((Nat × Nat) × LoopW)) : Env :=
  { P := Tryz.prog, isBool := bools, oracle := findR rules, eqAgg := eqA (env []) tEqs, loops := 0, loopP := findL loops, guess := fun _ _ => none, strF := strAt, weak := true }
theorem envW_ok {rules : List (Nat × Rule)} {loops : List ((Nat × Nat) × LoopW)} {base : World} (hr : ∀ x ∈ rules, RuleOk Tryz.prog base x.1 x.2) : EnvOk (envW rules loops) base :=
  envOk_of (E := envW rules loops) rfl rfl mixed_ok plain_ok hr fun t a b r h μ κ w => eqA_sound (E := env []) tEqs_ok t a b r h μ κ w
theorem or_bit {a b : Int} (ha : 0 ≤ a) (ha2 : a < 18446744073709551616) (he : a % 2 = 0) (hb : b = 0 ∨ b = 1) : IntKind.wrap .u64 (Int.ofNat (BitVec.toNat (BitVec.ofInt (IntKind.bits .u64) a ||| BitVec.ofInt (IntKind.bits .u64) b))) = a + b := by
  obtain ⟨A, rfl⟩ := Int.eq_ofNat_of_zero_le ha
  obtain ⟨B, rfl⟩ : ∃ B : Nat, b = B := by rcases hb with rfl | rfl; exact ⟨0, rfl⟩; exact ⟨1, rfl⟩
  have hB : B < 2 := by omega
  have hA : A < 18446744073709551616 := by omega
  have e : A = (A / 2) <<< 1 := by rw [Nat.shiftLeft_eq]; omega
  have h1 : (BitVec.ofInt 64 (A : Int) ||| BitVec.ofInt 64 (B : Int)).toNat = A + B := by
    rw [BitVec.toNat_or, BitVec.ofInt_natCast, BitVec.ofInt_natCast, BitVec.toNat_ofNat, BitVec.toNat_ofNat, Nat.mod_eq_of_lt (by omega), Nat.mod_eq_of_lt (by omega)]
    have := Nat.shiftLeft_add_eq_or_of_lt (i := 1) (b := B) (by omega) (A / 2)
    rw [← e] at this
    exact this.symm
  show IntKind.wrap .u64 (((BitVec.ofInt 64 (A : Int) ||| BitVec.ofInt 64 (B : Int)).toNat : Nat) : Int) = _
  rw [h1, wrap_u64']
  omega
theorem shl_or {a b : Int} (hb : u64 b) : IntKind.wrap .u64 (Int.ofNat (BitVec.toNat (BitVec.ofInt (IntKind.bits .u64) (IntKind.wrap .u64 (a * 2)) ||| BitVec.ofInt (IntKind.bits .u64) (Int.fdiv b 9223372036854775808)))) = 2 * a % 18446744073709551616 + b / 9223372036854775808 := by
  unfold u64 at hb
  have e : Int.fdiv b 9223372036854775808 = b / 9223372036854775808 := Int.fdiv_eq_ediv_of_nonneg _ (by decide)
  rw [e, or_bit (by rw [wrap_u64']; omega) (by rw [wrap_u64']; omega) (by rw [wrap_u64']; omega) (by omega), wrap_u64']
  omega
theorem shl_or0 {a : Int} : IntKind.wrap .u64 (Int.ofNat (BitVec.toNat (BitVec.ofInt (IntKind.bits .u64) (IntKind.wrap .u64 (a * 2)) ||| BitVec.ofInt (IntKind.bits .u64) (0 : Int)))) = 2 * a % 18446744073709551616 := by
  rw [or_bit (by rw [wrap_u64']; omega) (by rw [wrap_u64']; omega) (by rw [wrap_u64']; omega) (.inl rfl), wrap_u64']
  omega
theorem or_one {a : Int} (ha : u64 a) (he : a % 2 = 0) : IntKind.wrap .u64 (Int.ofNat (BitVec.toNat (BitVec.ofInt (IntKind.bits .u64) a ||| BitVec.ofInt (IntKind.bits .u64) (1 : Int)))) = a + 1 := or_bit ha.1 ha.2 he (.inr rfl)
def isCmp (h l p q : Int) (u : Value) : Prop := ∃ c : Int, u = .int .i64 c ∧ (c = -1 ∧ wV h l < wV p q ∨ c = 0 ∧ wV h l = wV p q ∨ c = 1 ∧ wV p q < wV h l)
def isSub (h l p q : Int) (u : Value) : Prop := ∃ x y c, u = .tuple #[wU x y, .int .u64 c] ∧ u64 x ∧ u64 y ∧ wV x y = (wV h l - wV p q) % 340282366920938463463374607431768211456
def isShl (h l p q : Int) (u : Value) : Prop := ∃ x y z w, u = .tuple #[wU x y, wU z w] ∧ u64 x ∧ u64 y ∧ u64 z ∧ u64 w ∧ w % 2 = 0 ∧ wV x y = (2 * wV h l + p / 9223372036854775808) % 340282366920938463463374607431768211456
theorem cmp_hk_tree (K : Value → Nat → Prop) (h l p q : Int) :
 funcK (envW rules0 []) 30 218 [wU h l, wU p q] [] Tryz.prog.globals.size (fun u _ _ mw => K u mw) =
 (bsel (decide (h < p)) (K (.int .i64 (Int.negSucc 0)) 18446744073709551616) (bsel (h == p) (bsel (decide (l < q)) (K (.int .i64 (Int.negSucc 0)) 18446744073709551616) (bsel (h == p && (l == q && true)) (K (.int .i64 (Int.ofNat 0)) 18446744073709551616) (K (.int .i64 (Int.ofNat 1)) 18446744073709551616))) (bsel (h == p && (l == q && true)) (K (.int .i64 (Int.ofNat 0)) 18446744073709551616) (K (.int .i64 (Int.ofNat 1)) 18446744073709551616)))) := by kernel_rfl
theorem cmp_hk (h l p q : Int) (h1 : u64 h) (h2 : u64 l) (h3 : u64 p) (h4 : u64 q) : ReckA (envW rules0 []) 30 218 [wU h l, wU p q] (isCmp h l p q) := by
  constructor
  rw [cmp_hk_tree fun u mw => (isCmp h l p q) u ∧ Tryz.prog.globals.size ≤ mw]
  unfold u64 at h1 h2 h3 h4
  repeat' (refine bsel_of (fun _ => ?_) (fun _ => ?_))
  all_goals simp only [Bool.and_true, Bool.and_eq_true, Bool.and_eq_false_iff, beq_iff_eq, beq_eq_false_iff_ne, ne_eq, decide_eq_true_eq, decide_eq_false_iff_not] at *
  all_goals first
    | exact ⟨⟨-1, rfl, .inl ⟨rfl, by unfold wV; omega⟩⟩, Nat.le_of_ble_eq_true (by kernel_rfl)⟩
    | exact ⟨⟨0, rfl, .inr (.inl ⟨rfl, by unfold wV; omega⟩)⟩, Nat.le_of_ble_eq_true (by kernel_rfl)⟩
    | exact ⟨⟨1, rfl, .inr (.inr ⟨rfl, by unfold wV; omega⟩)⟩, Nat.le_of_ble_eq_true (by kernel_rfl)⟩
    | (exfalso; omega)
theorem sub_hk_tree (K : Value → Nat → Prop) (h l p q : Int) :
 funcK (envW rules0 []) 30 289 [wU h l, wU p q] [] Tryz.prog.globals.size (fun u _ _ mw => K u mw) =
 (bsel (decide ((0 : Int) ≤ l) && decide (l < (18446744073709551616 : Int)) && decide ((0 : Int) ≤ q) && decide (q < (18446744073709551616 : Int)) && decide ((0 : Int) ≤ (0 : Int)) && decide ((0 : Int) ≤ (1 : Int))) (bsel (decide ((0 : Int) ≤ h) && decide (h < (18446744073709551616 : Int)) && decide ((0 : Int) ≤ p) && decide (p < (18446744073709551616 : Int)) && decide ((0 : Int) ≤ (match decide (l < q + (0 : Int)) with | true => (1 : Int) | false => (0 : Int))) && decide (((match decide (l < q + (0 : Int)) with | true => (1 : Int) | false => (0 : Int))) ≤ (1 : Int))) (K (.tuple (Array.mk [.agg (Array.mk [.int .u64 ((h - p - (match decide (l < q + (0 : Int)) with | true => (1 : Int) | false => (0 : Int))) % (18446744073709551616 : Int)), .int .u64 ((l - q - (0 : Int)) % (18446744073709551616 : Int))]), .int .u64 ((match decide (h < p + (match decide (l < q + (0 : Int)) with | true => (1 : Int) | false => (0 : Int))) with | true => (1 : Int) | false => (0 : Int)))])) 12) False) False) := by kernel_rfl
theorem sub_hk (h l p q : Int) (h1 : u64 h) (h2 : u64 l) (h3 : u64 p) (h4 : u64 q) : ReckA (envW rules0 []) 30 289 [wU h l, wU p q] (isSub h l p q) := by
  constructor
  rw [sub_hk_tree fun u mw => (isSub h l p q) u ∧ Tryz.prog.globals.size ≤ mw]
  unfold u64 at h1 h2 h3 h4
  unfold isSub
  by_cases hc : l < q + 0
  · simp only [hc, decide_true]
    refine bsel_of (fun _ => bsel_of (fun _ => ⟨⟨_, _, _, rfl, by unfold u64; omega, by unfold u64; omega, by unfold wV; omega⟩, Nat.le_of_ble_eq_true (by kernel_rfl)⟩) (fun hb => ?_)) (fun hb => ?_) <;> (exfalso; simp only [Bool.and_eq_false_iff, decide_eq_false_iff_not] at hb; omega)
  · simp only [hc, decide_false]
    refine bsel_of (fun _ => bsel_of (fun _ => ⟨⟨_, _, _, rfl, by unfold u64; omega, by unfold u64; omega, by unfold wV; omega⟩, Nat.le_of_ble_eq_true (by kernel_rfl)⟩) (fun hb => ?_)) (fun hb => ?_) <;> (exfalso; simp only [Bool.and_eq_false_iff, decide_eq_false_iff_not] at hb; omega)
theorem shl_hk_tree (K : Value → Nat → Prop) (h l p q : Int) :
 funcK (envW rules0 []) 30 288 [wU h l, wU p q, .int .u64 0] [] Tryz.prog.globals.size (fun u _ _ mw => K u mw) =
 (K (.tuple (Array.mk [.agg (Array.mk [.int .u64 (IntKind.wrap .u64 (Int.ofNat (BitVec.toNat (BitVec.ofInt (IntKind.bits IntKind.u64) (IntKind.wrap .u64 (h * (2 : Int))) ||| BitVec.ofInt (IntKind.bits IntKind.u64) (Int.fdiv l ((9223372036854775808 : Int))))))), .int .u64 (IntKind.wrap .u64 (Int.ofNat (BitVec.toNat (BitVec.ofInt (IntKind.bits IntKind.u64) (IntKind.wrap .u64 (l * (2 : Int))) ||| BitVec.ofInt (IntKind.bits IntKind.u64) (Int.fdiv p ((9223372036854775808 : Int)))))))]), .agg (Array.mk [.int .u64 (IntKind.wrap .u64 (Int.ofNat (BitVec.toNat (BitVec.ofInt (IntKind.bits IntKind.u64) (IntKind.wrap .u64 (p * (2 : Int))) ||| BitVec.ofInt (IntKind.bits IntKind.u64) (Int.fdiv q ((9223372036854775808 : Int))))))), .int .u64 (IntKind.wrap .u64 (Int.ofNat (BitVec.toNat (BitVec.ofInt (IntKind.bits IntKind.u64) (IntKind.wrap .u64 (q * (2 : Int))) ||| BitVec.ofInt (IntKind.bits IntKind.u64) (0 : Int)))))])])) 12) := by kernel_rfl
theorem shl_hk (h l p q : Int) (h1 : u64 h) (h2 : u64 l) (h3 : u64 p) (h4 : u64 q) : ReckA (envW rules0 []) 30 288 [wU h l, wU p q, .int .u64 0] (isShl h l p q) := by
  constructor
  rw [shl_hk_tree fun u mw => (isShl h l p q) u ∧ Tryz.prog.globals.size ≤ mw]
  rw [shl_or h2, shl_or h3, shl_or h4, shl_or0]
  unfold u64 at h1 h2 h3 h4
  refine ⟨⟨_, _, _, _, rfl, ?_, ?_, ?_, ?_, ?_, ?_⟩, Nat.le_of_ble_eq_true (by kernel_rfl)⟩ <;> first | (unfold u64; omega) | (unfold wV; omega) | omega
end Go.Proofs.YthmogphlnjpakaaGreatDoor

namespace Go.Pe
theorem digit_lt {u y d : Nat} (hu : u < y) (hd : d < 4294967296) : (u * 4294967296 + d) / y < 4294967296 := by
  refine Nat.div_lt_of_lt_mul ?_
  have : (u + 1) * 4294967296 ≤ y * 4294967296 := Nat.mul_le_mul_right _ hu
  rw [Nat.mul_comm y]
  rw [Nat.mul_comm y] at this
  omega
theorem digit_le {u y d : Nat} (hd : d < 4294967296) (hy : 4294967296 ≤ y) : (u * 4294967296 + d) / y ≤ u / (y / 4294967296) := by
  have hb : 0 < y / 4294967296 := Nat.div_pos hy (by decide)
  rw [Nat.le_div_iff_mul_le hb]
  have h1 : y / 4294967296 * 4294967296 ≤ y := Nat.div_mul_le_self y _
  have h2 : (u * 4294967296 + d) / y * y ≤ u * 4294967296 + d := Nat.div_mul_le_self _ y
  have h3 : (u * 4294967296 + d) / y * (y / 4294967296 * 4294967296) ≤ (u * 4294967296 + d) / y * y := Nat.mul_le_mul_left _ h1
  rw [← Nat.mul_assoc] at h3
  omega
theorem digit_top {u y : Nat} (hu : u < y) (hy : 9223372036854775808 ≤ y) : u / (y / 4294967296) ≤ 4294967297 := by
  have hb : 2147483648 ≤ y / 4294967296 := by omega
  have : u / (y / 4294967296) < 4294967298 := by
    refine Nat.div_lt_of_lt_mul ?_
    generalize hk : y / 4294967296 = k at *
    have : y < k * 4294967296 + 4294967296 := by omega
    omega
  omega
theorem split_mul (q y : Nat) : q * y = q * (y / 4294967296) * 4294967296 + q * (y % 4294967296) := by
  rw [Nat.mul_assoc, ← Nat.mul_add, Nat.div_add_mod' y 4294967296]
theorem digit_eq {u y d q r : Nat} (hy : 0 < y) (he : q * (y / 4294967296) + r = u) (hq : (u * 4294967296 + d) / y ≤ q) (ht : q * (y % 4294967296) ≤ 4294967296 * r + d) : q = (u * 4294967296 + d) / y := by
  refine Nat.le_antisymm ?_ hq
  rw [Nat.le_div_iff_mul_le hy, split_mul q y, ← he, Nat.add_mul]
  omega
theorem digit_gt {u y d q r : Nat} (hy : 0 < y) (he : q * (y / 4294967296) + r = u) (ht : 4294967296 * r + d < q * (y % 4294967296)) : (u * 4294967296 + d) / y < q := by
  refine (Nat.div_lt_iff_lt_mul hy).2 ?_
  rw [split_mul q y, ← he, Nat.add_mul]
  omega
theorem digit_down {k u q r : Nat} (he : q * k + r = u) (hq : 0 < q) : (q - 1) * k + (r + k) = u := by
  obtain ⟨p, rfl⟩ : ∃ p, q = p + 1 := ⟨q - 1, by omega⟩
  rw [Nat.add_mul] at he
  simp only [Nat.add_sub_cancel]
  omega
theorem digit_out {u y d q r : Nat} (hy : 0 < y) (he : q * (y / 4294967296) + r = u) (hq : (u * 4294967296 + d) / y ≤ q) (h1 : q ≤ 4294967296) (h2 : 4294967296 ≤ r) : q = (u * 4294967296 + d) / y := by
  refine digit_eq hy he hq ?_
  have a : y % 4294967296 ≤ 4294967295 := by omega
  have b : q * (y % 4294967296) ≤ 4294967296 * 4294967295 := Nat.mul_le_mul h1 a
  omega
theorem two_digits_k {u y a b k : Nat} (hy : 0 < y) :
    (u * (k * k) + a * k + b) / y = (u * k + a) / y * k + ((u * k + a) % y * k + b) / y ∧
    (u * (k * k) + a * k + b) % y = ((u * k + a) % y * k + b) % y := by
  have e : u * (k * k) + a * k + b = ((u * k + a) % y * k + b) + ((u * k + a) / y * k) * y := by
    have h1 : u * (k * k) + a * k = (u * k + a) * k := by rw [Nat.add_mul, Nat.mul_assoc]
    rw [h1]
    generalize u * k + a = D
    have h3 : D * k = D % y * k + D / y * k * y := by
      rw [Nat.mul_right_comm, ← Nat.add_mul, Nat.mul_comm (D / y) y, Nat.mod_add_div]
    rw [h3]
    omega
  rw [e, Nat.add_mul_div_right _ _ hy, Nat.add_mul_mod_self_right]
  exact ⟨Nat.add_comm _ _, rfl⟩
theorem two_digits {u y a b : Nat} (hy : 0 < y) :
    (u * 18446744073709551616 + a * 4294967296 + b) / y = (u * 4294967296 + a) / y * 4294967296 + ((u * 4294967296 + a) % y * 4294967296 + b) / y ∧
    (u * 18446744073709551616 + a * 4294967296 + b) % y = ((u * 4294967296 + a) % y * 4294967296 + b) % y :=
  two_digits_k (k := 4294967296) hy
end Go.Pe

namespace Go.Proofs.YthmogphlnjpakaaGreatDoor
open Go Go.Pe Go.RowKit
def w64 (n : Int) : Value := .int .u64 n
structure DigS where
  (y s b c u d e q r : Int)
noncomputable def dL1 : LoopS DigS where
  fn := 236
  keys := [2, 8, 9, 10, 11, 13, 14, 15, 16]
  kv x := [w64 x.y, w64 x.s, w64 x.b, w64 x.c, w64 x.u, w64 x.d, w64 x.e, w64 x.q, w64 x.r]
  hp _ := []
  lo := Tryz.prog.globals.size
  nx := Tryz.prog.globals.size
  mw := Tryz.prog.globals.size
  size := 135
structure DigT where
  (y s b c e q r u p : Int)
noncomputable def dL2 : LoopS DigT where
  fn := 236
  keys := [2, 8, 9, 10, 14, 15, 16, 17, 18]
  kv x := [w64 x.y, w64 x.s, w64 x.b, w64 x.c, w64 x.e, w64 x.q, w64 x.r, w64 x.u, w64 x.p]
  hp _ := []
  lo := Tryz.prog.globals.size
  nx := Tryz.prog.globals.size
  mw := Tryz.prog.globals.size
  size := 135
def ruleLz : Rule := ruleA fun args => match args with
  | [.int .u64 x] => some fun K => (0 < x ∧ x < 18446744073709551616) ∧ ∀ s : Nat, s ≤ 63 → 9223372036854775808 ≤ x.toNat * 2 ^ s → x.toNat * 2 ^ s < 18446744073709551616 → K (.int .i64 (Int.ofNat s))
  | _ => none
def rulesWD : List (Nat × Rule) := (269, ruleLz) :: rules0
theorem dig1_tree (P : Exit → Bool → List Value → Heap → Nat → Nat → Nat → FuncId → List (FuncId × List Value) → Prop) (y s b c u d e q r : Int) :
 codeK (envW rulesWD []) (funcK (envW rulesWD []) 30) (loopOf Tryz.prog 236 17) (dL1.st (DigS.mk y s b c u d e q r)) (dL1.look P) =
 (bsel (decide (DigS.q (DigS.mk y s b c u d e q r) ≥ (4294967296 : Int))) (bsel (decide (IntKind.wrap .u64 (DigS.r (DigS.mk y s b c u d e q r) + DigS.b (DigS.mk y s b c u d e q r)) ≥ (4294967296 : Int))) (P (Go.Exit.exit 0) true [.int .u64 y, .int .u64 s, .int .u64 b, .int .u64 c, .int .u64 u, .int .u64 d, .int .u64 e, .int .u64 (IntKind.wrap .u64 (DigS.q (DigS.mk y s b c u d e q r) - (1 : Int))), .int .u64 (IntKind.wrap .u64 (DigS.r (DigS.mk y s b c u d e q r) + DigS.b (DigS.mk y s b c u d e q r)))] [] 10 10 135 236 []) (P Go.Exit.normal true [.int .u64 y, .int .u64 s, .int .u64 b, .int .u64 c, .int .u64 u, .int .u64 d, .int .u64 e, .int .u64 (IntKind.wrap .u64 (DigS.q (DigS.mk y s b c u d e q r) - (1 : Int))), .int .u64 (IntKind.wrap .u64 (DigS.r (DigS.mk y s b c u d e q r) + DigS.b (DigS.mk y s b c u d e q r)))] [] 10 10 135 236 [])) (bsel (decide (IntKind.wrap .u64 (DigS.q (DigS.mk y s b c u d e q r) * DigS.c (DigS.mk y s b c u d e q r)) > IntKind.wrap .u64 (IntKind.wrap .u64 ((4294967296 : Int) * DigS.r (DigS.mk y s b c u d e q r)) + DigS.d (DigS.mk y s b c u d e q r)))) (bsel (decide (IntKind.wrap .u64 (DigS.r (DigS.mk y s b c u d e q r) + DigS.b (DigS.mk y s b c u d e q r)) ≥ (4294967296 : Int))) (P (Go.Exit.exit 0) true [.int .u64 y, .int .u64 s, .int .u64 b, .int .u64 c, .int .u64 u, .int .u64 d, .int .u64 e, .int .u64 (IntKind.wrap .u64 (DigS.q (DigS.mk y s b c u d e q r) - (1 : Int))), .int .u64 (IntKind.wrap .u64 (DigS.r (DigS.mk y s b c u d e q r) + DigS.b (DigS.mk y s b c u d e q r)))] [] 10 10 135 236 []) (P Go.Exit.normal true [.int .u64 y, .int .u64 s, .int .u64 b, .int .u64 c, .int .u64 u, .int .u64 d, .int .u64 e, .int .u64 (IntKind.wrap .u64 (DigS.q (DigS.mk y s b c u d e q r) - (1 : Int))), .int .u64 (IntKind.wrap .u64 (DigS.r (DigS.mk y s b c u d e q r) + DigS.b (DigS.mk y s b c u d e q r)))] [] 10 10 135 236 [])) (P (Go.Exit.exit 0) true [.int .u64 y, .int .u64 s, .int .u64 b, .int .u64 c, .int .u64 u, .int .u64 d, .int .u64 e, .int .u64 q, .int .u64 r] [] 10 10 135 236 []))) := by kernel_rfl
theorem dig2_tree (P : Exit → Bool → List Value → Heap → Nat → Nat → Nat → FuncId → List (FuncId × List Value) → Prop) (y s b c e q r u p : Int) :
 codeK (envW rulesWD []) (funcK (envW rulesWD []) 30) (loopOf Tryz.prog 236 24) (dL2.st (DigT.mk y s b c e q r u p)) (dL2.look P) =
 (bsel (decide (DigT.p (DigT.mk y s b c e q r u p) ≥ (4294967296 : Int))) (bsel (decide (IntKind.wrap .u64 (DigT.r (DigT.mk y s b c e q r u p) + DigT.b (DigT.mk y s b c e q r u p)) ≥ (4294967296 : Int))) (P (Go.Exit.exit 2) true [.int .u64 y, .int .u64 s, .int .u64 b, .int .u64 c, .int .u64 e, .int .u64 q, .int .u64 (IntKind.wrap .u64 (DigT.r (DigT.mk y s b c e q r u p) + DigT.b (DigT.mk y s b c e q r u p))), .int .u64 u, .int .u64 (IntKind.wrap .u64 (DigT.p (DigT.mk y s b c e q r u p) - (1 : Int)))] [] 10 10 135 236 []) (P Go.Exit.normal true [.int .u64 y, .int .u64 s, .int .u64 b, .int .u64 c, .int .u64 e, .int .u64 q, .int .u64 (IntKind.wrap .u64 (DigT.r (DigT.mk y s b c e q r u p) + DigT.b (DigT.mk y s b c e q r u p))), .int .u64 u, .int .u64 (IntKind.wrap .u64 (DigT.p (DigT.mk y s b c e q r u p) - (1 : Int)))] [] 10 10 135 236 [])) (bsel (decide (IntKind.wrap .u64 (DigT.p (DigT.mk y s b c e q r u p) * DigT.c (DigT.mk y s b c e q r u p)) > IntKind.wrap .u64 (IntKind.wrap .u64 ((4294967296 : Int) * DigT.r (DigT.mk y s b c e q r u p)) + DigT.e (DigT.mk y s b c e q r u p)))) (bsel (decide (IntKind.wrap .u64 (DigT.r (DigT.mk y s b c e q r u p) + DigT.b (DigT.mk y s b c e q r u p)) ≥ (4294967296 : Int))) (P (Go.Exit.exit 2) true [.int .u64 y, .int .u64 s, .int .u64 b, .int .u64 c, .int .u64 e, .int .u64 q, .int .u64 (IntKind.wrap .u64 (DigT.r (DigT.mk y s b c e q r u p) + DigT.b (DigT.mk y s b c e q r u p))), .int .u64 u, .int .u64 (IntKind.wrap .u64 (DigT.p (DigT.mk y s b c e q r u p) - (1 : Int)))] [] 10 10 135 236 []) (P Go.Exit.normal true [.int .u64 y, .int .u64 s, .int .u64 b, .int .u64 c, .int .u64 e, .int .u64 q, .int .u64 (IntKind.wrap .u64 (DigT.r (DigT.mk y s b c e q r u p) + DigT.b (DigT.mk y s b c e q r u p))), .int .u64 u, .int .u64 (IntKind.wrap .u64 (DigT.p (DigT.mk y s b c e q r u p) - (1 : Int)))] [] 10 10 135 236 [])) (P (Go.Exit.exit 2) true [.int .u64 y, .int .u64 s, .int .u64 b, .int .u64 c, .int .u64 e, .int .u64 q, .int .u64 r, .int .u64 u, .int .u64 p] [] 10 10 135 236 []))) := by kernel_rfl
/-! A digit -/
def pre (Y U D : Nat) : Prop := 9223372036854775808 ≤ Y ∧ Y < 18446744073709551616 ∧ U < Y ∧ D < 4294967296
def inv (Y U D Q R : Nat) : Prop := Q * (Y / 4294967296) + R = U ∧ (U * 4294967296 + D) / Y ≤ Q ∧ Q ≤ 4294967297 ∧ R < 4294967296
theorem wrapN {x : Nat} (h : x < 18446744073709551616) : IntKind.wrap .u64 (x : Int) = (x : Int) := by
  rw [wrap_u64']
  omega
theorem dig_yes {Y U D Q R : Nat} (hp : pre Y U D) (hi : inv Y U D Q R) (ht : 4294967296 ≤ Q ∨ 4294967296 * R + D < Q * (Y % 4294967296)) :
    0 < Q ∧ (U * 4294967296 + D) / Y ≤ Q - 1 ∧ (Q - 1) * (Y / 4294967296) + (R + Y / 4294967296) = U ∧ R + Y / 4294967296 < 8589934592 := by
  obtain ⟨h1, h2, h3, h4⟩ := hp
  obtain ⟨i1, i2, i3, i4⟩ := hi
  have hlt : (U * 4294967296 + D) / Y < Q := by
    rcases ht with ht | ht
    · exact Nat.lt_of_lt_of_le (digit_lt h3 h4) ht
    · exact digit_gt (by omega) i1 ht
  have hq : 0 < Q := Nat.lt_of_le_of_lt (Nat.zero_le _) hlt
  refine ⟨hq, by omega, digit_down i1 hq, ?_⟩
  have : Y / 4294967296 < 4294967296 := by omega
  omega
theorem dig_out {Y U D Q R : Nat} (hp : pre Y U D) (hi : inv Y U D Q R) (ht : 4294967296 ≤ Q ∨ 4294967296 * R + D < Q * (Y % 4294967296)) (ho : 4294967296 ≤ R + Y / 4294967296) : Q - 1 = (U * 4294967296 + D) / Y := by
  obtain ⟨k1, k2, k3, _⟩ := dig_yes hp hi ht
  obtain ⟨h1, _, _, _⟩ := hp
  obtain ⟨_, _, i3, _⟩ := hi
  exact digit_out (by omega) k3 k2 (by omega) ho
theorem dig_next {Y U D Q R : Nat} (hp : pre Y U D) (hi : inv Y U D Q R) (ht : 4294967296 ≤ Q ∨ 4294967296 * R + D < Q * (Y % 4294967296)) (ho : R + Y / 4294967296 < 4294967296) : inv Y U D (Q - 1) (R + Y / 4294967296) := by
  obtain ⟨_, k2, k3, _⟩ := dig_yes hp hi ht
  obtain ⟨_, _, i3, _⟩ := hi
  exact ⟨k3, k2, by omega, ho⟩
theorem dig_no {Y U D Q R : Nat} (hp : pre Y U D) (hi : inv Y U D Q R) (ht : Q * (Y % 4294967296) ≤ 4294967296 * R + D) : Q = (U * 4294967296 + D) / Y := by
  obtain ⟨h1, _, _, _⟩ := hp
  exact digit_eq (by omega) hi.1 hi.2.1 ht
theorem dig_test {Y D Q R : Nat} (hD : D < 4294967296) (hR : R < 4294967296) (hQ : Q < 4294967296) :
    (IntKind.wrap .u64 ((Q : Int) * ((Y % 4294967296 : Nat) : Int)) > IntKind.wrap .u64 (IntKind.wrap .u64 ((4294967296 : Int) * (R : Int)) + (D : Int))) ↔ 4294967296 * R + D < Q * (Y % 4294967296) := by
  have h1 : Q * (Y % 4294967296) < 18446744073709551616 := by
    have := Nat.mul_le_mul (show Q ≤ 4294967295 by omega) (show Y % 4294967296 ≤ 4294967295 by omega)
    omega
  have e1 : (Q : Int) * ((Y % 4294967296 : Nat) : Int) = ((Q * (Y % 4294967296) : Nat) : Int) := (Int.natCast_mul _ _).symm
  have e2 : IntKind.wrap .u64 ((4294967296 : Int) * (R : Int)) + (D : Int) = ((4294967296 * R + D : Nat) : Int) := by
    rw [wrap_u64']
    omega
  rw [e1, wrapN h1, e2, wrapN (by omega)]
  omega
def dI1 (Y S U D E : Nat) (n : Nat) (x : DigS) : Prop := (x.y = Y ∧ x.s = S ∧ x.b = (Y / 4294967296 : Nat) ∧ x.c = (Y % 4294967296 : Nat) ∧ x.u = U ∧ x.d = D ∧ x.e = E) ∧ pre Y U D ∧ ∃ Q R : Nat, x.q = Q ∧ x.r = R ∧ inv Y U D Q R ∧ n = Q
def dO1 (Y S U D E : Nat) (x : DigS) : Prop := (x.y = Y ∧ x.s = S ∧ x.b = (Y / 4294967296 : Nat) ∧ x.c = (Y % 4294967296 : Nat) ∧ x.u = U ∧ x.d = D ∧ x.e = E) ∧ x.q = ((U * 4294967296 + D) / Y : Nat)
theorem dig_rest {Y R : Nat} (hY : Y < 18446744073709551616) (hR : R < 4294967296) : IntKind.wrap .u64 ((R : Int) + ((Y / 4294967296 : Nat) : Int)) = ((R + Y / 4294967296 : Nat) : Int) := by
  have e : (R : Int) + ((Y / 4294967296 : Nat) : Int) = ((R + Y / 4294967296 : Nat) : Int) := by omega
  rw [e, wrapN (by omega)]
theorem dig_less {Q : Nat} (h0 : 0 < Q) (hQ : Q ≤ 4294967297) : IntKind.wrap .u64 ((Q : Int) - 1) = ((Q - 1 : Nat) : Int) := by
  have e : (Q : Int) - 1 = ((Q - 1 : Nat) : Int) := by omega
  rw [e, wrapN (by omega)]
theorem dig1_round (Y S U D E : Nat) (n : Nat) (y s b c u d e q r : Int) (hI : dI1 Y S U D E n ⟨y, s, b, c, u, d, e, q, r⟩) :
    Hush (codeK (envW rulesWD []) (funcK (envW rulesWD []) 30) (loopOf Tryz.prog 236 17) (dL1.st ⟨y, s, b, c, u, d, e, q, r⟩) (dL1.look (dL1.To (dI1 Y S U D E) (dO1 Y S U D E) (fun _ => False) 0 n))) := by
  constructor
  rw [dig1_tree]
  obtain ⟨⟨h1, h2, h3, h4, h5, h6, h7⟩, hp, Q, R, hq, hr, hi, hn⟩ := hI
  simp only at h1 h2 h3 h4 h5 h6 h7 hq hr
  subst h1 h2 h3 h4 h5 h6 h7 hq hr hn
  have key : (4294967296 ≤ n ∨ 4294967296 * R + D < n * (Y % 4294967296)) → bsel (decide (IntKind.wrap .u64 ((R : Int) + ((Y / 4294967296 : Nat) : Int)) ≥ 4294967296))
      (dL1.To (dI1 Y S U D E) (dO1 Y S U D E) (fun _ => False) 0 n (.exit 0) true [w64 Y, w64 S, w64 (Y / 4294967296 : Nat), w64 (Y % 4294967296 : Nat), w64 U, w64 D, w64 E, w64 (IntKind.wrap .u64 ((n : Int) - 1)), w64 (IntKind.wrap .u64 ((R : Int) + ((Y / 4294967296 : Nat) : Int)))] [] Tryz.prog.globals.size Tryz.prog.globals.size 135 236 [])
      (dL1.To (dI1 Y S U D E) (dO1 Y S U D E) (fun _ => False) 0 n .normal true [w64 Y, w64 S, w64 (Y / 4294967296 : Nat), w64 (Y % 4294967296 : Nat), w64 U, w64 D, w64 E, w64 (IntKind.wrap .u64 ((n : Int) - 1)), w64 (IntKind.wrap .u64 ((R : Int) + ((Y / 4294967296 : Nat) : Int)))] [] Tryz.prog.globals.size Tryz.prog.globals.size 135 236 []) := fun ht => by
    obtain ⟨k1, k2, k3, k4⟩ := dig_yes hp hi ht
    rw [dig_rest hp.2.1 hi.2.2.2, dig_less k1 hi.2.2.1]
    refine bsel_of (fun ho => ?_) (fun ho => ?_)
    · have ho : (((R + Y / 4294967296 : Nat) : Int)) ≥ 4294967296 := of_decide_eq_true ho
      exact ⟨rfl, ⟨Y, S, (Y / 4294967296 : Nat), (Y % 4294967296 : Nat), U, D, E, (n - 1 : Nat), (R + Y / 4294967296 : Nat)⟩, ⟨⟨rfl, rfl, rfl, rfl, rfl, rfl, rfl⟩, congrArg Int.ofNat (dig_out hp hi ht (by omega))⟩, LoopS.At.quick [] rfl rfl (by kernel_rfl) rfl (by kernel_rfl) rfl rfl rfl⟩
    · have ho : ¬ (((R + Y / 4294967296 : Nat) : Int)) ≥ 4294967296 := of_decide_eq_false ho
      exact ⟨n - 1, ⟨Y, S, (Y / 4294967296 : Nat), (Y % 4294967296 : Nat), U, D, E, (n - 1 : Nat), (R + Y / 4294967296 : Nat)⟩, by omega, ⟨⟨rfl, rfl, rfl, rfl, rfl, rfl, rfl⟩, hp, n - 1, R + Y / 4294967296, rfl, rfl, dig_next hp hi ht (by omega), rfl⟩, LoopS.At.quick [] rfl rfl (by kernel_rfl) rfl (by kernel_rfl) rfl rfl rfl⟩
  refine bsel_of (fun h => ?_) (fun h => bsel_of (fun h2 => ?_) (fun h2 => ?_))
  · have h : (n : Int) ≥ 4294967296 := of_decide_eq_true h
    exact key (.inl (by omega))
  · have h : ¬ (n : Int) ≥ 4294967296 := of_decide_eq_false h
    exact key (.inr ((dig_test hp.2.2.2 hi.2.2.2 (by omega)).1 (of_decide_eq_true h2)))
  · have h : ¬ (n : Int) ≥ 4294967296 := of_decide_eq_false h
    have h2 : ¬ (4294967296 * R + D < n * (Y % 4294967296)) := fun hh => of_decide_eq_false h2 ((dig_test (Y := Y) hp.2.2.2 hi.2.2.2 (by omega)).2 hh)
    exact ⟨rfl, ⟨Y, S, (Y / 4294967296 : Nat), (Y % 4294967296 : Nat), U, D, E, n, R⟩, ⟨⟨rfl, rfl, rfl, rfl, rfl, rfl, rfl⟩, congrArg Int.ofNat (dig_no hp hi (by omega))⟩, LoopS.At.quick [] rfl rfl (by kernel_rfl) rfl (by kernel_rfl) rfl rfl rfl⟩
def dI2 (Y S E F U : Nat) (n : Nat) (x : DigT) : Prop := (x.y = Y ∧ x.s = S ∧ x.b = (Y / 4294967296 : Nat) ∧ x.c = (Y % 4294967296 : Nat) ∧ x.e = E ∧ x.q = F ∧ x.u = U) ∧ pre Y U E ∧ ∃ Q R : Nat, x.p = Q ∧ x.r = R ∧ inv Y U E Q R ∧ n = Q
def dO2 (Y S E F U : Nat) (x : DigT) : Prop := (x.y = Y ∧ x.s = S ∧ x.b = (Y / 4294967296 : Nat) ∧ x.c = (Y % 4294967296 : Nat) ∧ x.e = E ∧ x.q = F ∧ x.u = U) ∧ x.p = ((U * 4294967296 + E) / Y : Nat)
theorem dig2_round (Y S E F U : Nat) (n : Nat) (y s b c e q r u p : Int) (hI : dI2 Y S E F U n ⟨y, s, b, c, e, q, r, u, p⟩) :
    Hush (codeK (envW rulesWD []) (funcK (envW rulesWD []) 30) (loopOf Tryz.prog 236 24) (dL2.st ⟨y, s, b, c, e, q, r, u, p⟩) (dL2.look (dL2.To (dI2 Y S E F U) (dO2 Y S E F U) (fun _ => False) 2 n))) := by
  constructor
  rw [dig2_tree]
  obtain ⟨⟨h1, h2, h3, h4, h5, h6, h7⟩, hp, Q, R, hq, hr, hi, hn⟩ := hI
  simp only at h1 h2 h3 h4 h5 h6 h7 hq hr
  subst h1 h2 h3 h4 h5 h6 h7 hq hr hn
  have key : (4294967296 ≤ n ∨ 4294967296 * R + E < n * (Y % 4294967296)) → bsel (decide (IntKind.wrap .u64 ((R : Int) + ((Y / 4294967296 : Nat) : Int)) ≥ 4294967296))
      (dL2.To (dI2 Y S E F U) (dO2 Y S E F U) (fun _ => False) 2 n (.exit 2) true [w64 Y, w64 S, w64 (Y / 4294967296 : Nat), w64 (Y % 4294967296 : Nat), w64 E, w64 F, w64 (IntKind.wrap .u64 ((R : Int) + ((Y / 4294967296 : Nat) : Int))), w64 U, w64 (IntKind.wrap .u64 ((n : Int) - 1))] [] Tryz.prog.globals.size Tryz.prog.globals.size 135 236 [])
      (dL2.To (dI2 Y S E F U) (dO2 Y S E F U) (fun _ => False) 2 n .normal true [w64 Y, w64 S, w64 (Y / 4294967296 : Nat), w64 (Y % 4294967296 : Nat), w64 E, w64 F, w64 (IntKind.wrap .u64 ((R : Int) + ((Y / 4294967296 : Nat) : Int))), w64 U, w64 (IntKind.wrap .u64 ((n : Int) - 1))] [] Tryz.prog.globals.size Tryz.prog.globals.size 135 236 []) := fun ht => by
    obtain ⟨k1, k2, k3, k4⟩ := dig_yes hp hi ht
    rw [dig_rest hp.2.1 hi.2.2.2, dig_less k1 hi.2.2.1]
    refine bsel_of (fun ho => ?_) (fun ho => ?_)
    · have ho : (((R + Y / 4294967296 : Nat) : Int)) ≥ 4294967296 := of_decide_eq_true ho
      exact ⟨rfl, ⟨Y, S, (Y / 4294967296 : Nat), (Y % 4294967296 : Nat), E, F, (R + Y / 4294967296 : Nat), U, (n - 1 : Nat)⟩, ⟨⟨rfl, rfl, rfl, rfl, rfl, rfl, rfl⟩, congrArg Int.ofNat (dig_out hp hi ht (by omega))⟩, LoopS.At.quick [] rfl rfl (by kernel_rfl) rfl (by kernel_rfl) rfl rfl rfl⟩
    · have ho : ¬ (((R + Y / 4294967296 : Nat) : Int)) ≥ 4294967296 := of_decide_eq_false ho
      exact ⟨n - 1, ⟨Y, S, (Y / 4294967296 : Nat), (Y % 4294967296 : Nat), E, F, (R + Y / 4294967296 : Nat), U, (n - 1 : Nat)⟩, by omega, ⟨⟨rfl, rfl, rfl, rfl, rfl, rfl, rfl⟩, hp, n - 1, R + Y / 4294967296, rfl, rfl, dig_next hp hi ht (by omega), rfl⟩, LoopS.At.quick [] rfl rfl (by kernel_rfl) rfl (by kernel_rfl) rfl rfl rfl⟩
  refine bsel_of (fun h => ?_) (fun h => bsel_of (fun h2 => ?_) (fun h2 => ?_))
  · have h : (n : Int) ≥ 4294967296 := of_decide_eq_true h
    exact key (.inl (by omega))
  · have h : ¬ (n : Int) ≥ 4294967296 := of_decide_eq_false h
    exact key (.inr ((dig_test hp.2.2.2 hi.2.2.2 (by omega)).1 (of_decide_eq_true h2)))
  · have h : ¬ (n : Int) ≥ 4294967296 := of_decide_eq_false h
    have h2 : ¬ (4294967296 * R + E < n * (Y % 4294967296)) := fun hh => of_decide_eq_false h2 ((dig_test (Y := Y) hp.2.2.2 hi.2.2.2 (by omega)).2 hh)
    exact ⟨rfl, ⟨Y, S, (Y / 4294967296 : Nat), (Y % 4294967296 : Nat), E, F, R, U, n⟩, ⟨⟨rfl, rfl, rfl, rfl, rfl, rfl, rfl⟩, congrArg Int.ofNat (dig_no hp hi (by omega))⟩, LoopS.At.quick [] rfl rfl (by kernel_rfl) rfl (by kernel_rfl) rfl rfl rfl⟩
theorem dig1_rounds (Y S U D E : Nat) : Rounds (envW rulesWD []) 30 (loopOf Tryz.prog 236 17) dL1 (dI1 Y S U D E) (dO1 Y S U D E) (fun _ => False) 0 := ⟨fun n x hI => dig1_round Y S U D E n x.y x.s x.b x.c x.u x.d x.e x.q x.r hI⟩
theorem dig2_rounds (Y S E F U : Nat) : Rounds (envW rulesWD []) 30 (loopOf Tryz.prog 236 24) dL2 (dI2 Y S E F U) (dO2 Y S E F U) (fun _ => False) 2 := ⟨fun n x hI => dig2_round Y S E F U n x.y x.s x.b x.c x.e x.q x.r x.u x.p hI⟩
def digT1 : LoopW := fun c s K => ∃ Y S U D E, loopT (loopOf Tryz.prog 236 17) dL1 (dI1 Y S U D E) (dO1 Y S U D E) 0 c s K
def digT2 : LoopW := fun c s K => ∃ Y S E F U, loopT (loopOf Tryz.prog 236 24) dL2 (dI2 Y S E F U) (dO2 Y S E F U) 2 c s K
def loopsG : List ((Nat × Nat) × LoopW) := [((236, 17), digT1), ((236, 24), digT2)]
theorem d64_tree (K : Value → Nat → Prop) (a b y : Int) :
 funcK (envW rulesWD loopsG) 30 236 [.int .u64 a, .int .u64 b, .int .u64 y] [] Tryz.prog.globals.size (fun u _ _ mw => K u mw) =
 (bsel (y == (0 : Int)) False (bsel (decide (y ≤ a)) False (bsel (a == (0 : Int)) (bsel (!y == (0 : Int)) (bsel (!y == (0 : Int)) (K (.tuple (Array.mk [.int .u64 (IntKind.wrap .u64 (Int.tdiv b y)), .int .u64 (Int.tmod b y)])) 18446744073709551616) False) False) ((Int.ofNat 0 < y ∧ y < Int.ofNat 18446744073709551616) ∧ ∀ (s : Nat), s ≤ 63 → 9223372036854775808 ≤ Int.toNat y * 2 ^ s → Int.toNat y * 2 ^ s < 18446744073709551616 → bsel (decide ((0 : Int) ≤ IntKind.wrap .u64 ((64 : Int) - IntKind.wrap .u64 (Int.ofNat s)))) (bsel (!Int.fdiv (IntKind.wrap .u64 (y * (2 : Int) ^ Min.min (Int.toNat (IntKind.wrap .u64 (Int.ofNat s))) (IntKind.bits IntKind.u64))) ((4294967296 : Int)) == (0 : Int)) (∃ (x : Nat), ∃ (x_1 : Nat), ∃ (x_2 : Nat), ∃ (x_3 : Nat), ∃ (x_4 : Nat), Is (loopOf Go.Proofs.Tryz.prog 236 17) (loopOf Go.Proofs.Tryz.prog 236 17) ∧ ∃ (x_5 : Nat), ∃ (x_6 : DigS), (dI1 x x_1 x_2 x_3 x_4 x_5 x_6 ∧ true = true ∧ LoopS.At dL1 x_6 true [.int .u64 (IntKind.wrap .u64 (y * (2 : Int) ^ Min.min (Int.toNat (IntKind.wrap .u64 (Int.ofNat s))) (IntKind.bits IntKind.u64))), .int .u64 (Int.ofNat (s % Int.natAbs ((2 : Int) ^ IntKind.bits IntKind.u64))), .int .u64 (Int.fdiv (IntKind.wrap .u64 (y * (2 : Int) ^ Min.min (Int.toNat (IntKind.wrap .u64 (Int.ofNat s))) (IntKind.bits IntKind.u64))) ((4294967296 : Int))), .int .u64 (Int.ofNat (BitVec.toNat (BitVec.ofInt (IntKind.bits IntKind.u64) (IntKind.wrap .u64 (y * (2 : Int) ^ Min.min (Int.toNat (IntKind.wrap .u64 (Int.ofNat s))) (IntKind.bits IntKind.u64))) &&& BitVec.ofInt (IntKind.bits IntKind.u64) (4294967295 : Int)) % Int.natAbs ((2 : Int) ^ IntKind.bits IntKind.u64))), .int .u64 (Int.ofNat (BitVec.toNat (BitVec.ofInt (IntKind.bits IntKind.u64) (IntKind.wrap .u64 (a * (2 : Int) ^ Min.min (Int.toNat (IntKind.wrap .u64 (Int.ofNat s))) (IntKind.bits IntKind.u64))) ||| BitVec.ofInt (IntKind.bits IntKind.u64) (Int.fdiv b ((2 : Int) ^ Min.min (Int.toNat (IntKind.wrap .u64 ((64 : Int) - IntKind.wrap .u64 (Int.ofNat s)))) (IntKind.bits IntKind.u64)))) % Int.natAbs ((2 : Int) ^ IntKind.bits IntKind.u64))), .int .u64 (Int.fdiv (IntKind.wrap .u64 (b * (2 : Int) ^ Min.min (Int.toNat (IntKind.wrap .u64 (Int.ofNat s))) (IntKind.bits IntKind.u64))) ((4294967296 : Int))), .int .u64 (Int.ofNat (BitVec.toNat (BitVec.ofInt (IntKind.bits IntKind.u64) (IntKind.wrap .u64 (b * (2 : Int) ^ Min.min (Int.toNat (IntKind.wrap .u64 (Int.ofNat s))) (IntKind.bits IntKind.u64))) &&& BitVec.ofInt (IntKind.bits IntKind.u64) (4294967295 : Int)) % Int.natAbs ((2 : Int) ^ IntKind.bits IntKind.u64))), .int .u64 (IntKind.wrap .u64 (Int.tdiv (IntKind.wrap .u64 (↑(BitVec.toNat (BitVec.ofInt (IntKind.bits IntKind.u64) (IntKind.wrap .u64 (a * (2 : Int) ^ Min.min (Int.toNat (IntKind.wrap .u64 (Int.ofNat s))) (IntKind.bits IntKind.u64))) ||| BitVec.ofInt (IntKind.bits IntKind.u64) (Int.fdiv b ((2 : Int) ^ Min.min (Int.toNat (IntKind.wrap .u64 ((64 : Int) - IntKind.wrap .u64 (Int.ofNat s)))) (IntKind.bits IntKind.u64))))) : Int)) (Int.fdiv (IntKind.wrap .u64 (y * (2 : Int) ^ Min.min (Int.toNat (IntKind.wrap .u64 (Int.ofNat s))) (IntKind.bits IntKind.u64))) ((4294967296 : Int))))), .int .u64 (IntKind.wrap .u64 (IntKind.wrap .u64 (↑(BitVec.toNat (BitVec.ofInt (IntKind.bits IntKind.u64) (IntKind.wrap .u64 (a * (2 : Int) ^ Min.min (Int.toNat (IntKind.wrap .u64 (Int.ofNat s))) (IntKind.bits IntKind.u64))) ||| BitVec.ofInt (IntKind.bits IntKind.u64) (Int.fdiv b ((2 : Int) ^ Min.min (Int.toNat (IntKind.wrap .u64 ((64 : Int) - IntKind.wrap .u64 (Int.ofNat s)))) (IntKind.bits IntKind.u64))))) : Int) - IntKind.wrap .u64 (IntKind.wrap .u64 (Int.tdiv (IntKind.wrap .u64 (↑(BitVec.toNat (BitVec.ofInt (IntKind.bits IntKind.u64) (IntKind.wrap .u64 (a * (2 : Int) ^ Min.min (Int.toNat (IntKind.wrap .u64 (Int.ofNat s))) (IntKind.bits IntKind.u64))) ||| BitVec.ofInt (IntKind.bits IntKind.u64) (Int.fdiv b ((2 : Int) ^ Min.min (Int.toNat (IntKind.wrap .u64 ((64 : Int) - IntKind.wrap .u64 (Int.ofNat s)))) (IntKind.bits IntKind.u64))))) : Int)) (Int.fdiv (IntKind.wrap .u64 (y * (2 : Int) ^ Min.min (Int.toNat (IntKind.wrap .u64 (Int.ofNat s))) (IntKind.bits IntKind.u64))) ((4294967296 : Int)))) * Int.fdiv (IntKind.wrap .u64 (y * (2 : Int) ^ Min.min (Int.toNat (IntKind.wrap .u64 (Int.ofNat s))) (IntKind.bits IntKind.u64))) ((4294967296 : Int)))))] [] 10 18446744073709551616 135 236 []) ∧ ∀ (a' : DigS), dO1 x x_1 x_2 x_3 x_4 a' → bsel (!DigS.b a' == (0 : Int)) (∃ (x : Nat), ∃ (x_7 : Nat), ∃ (x_8 : Nat), ∃ (x_9 : Nat), ∃ (x_10 : Nat), Is (loopOf Go.Proofs.Tryz.prog 236 24) (loopOf Go.Proofs.Tryz.prog 236 24) ∧ ∃ (x_11 : Nat), ∃ (x_12 : DigT), (dI2 x x_7 x_8 x_9 x_10 x_11 x_12 ∧ true = true ∧ LoopS.At dL2 x_12 true [.int .u64 (DigS.y a'), .int .u64 (DigS.s a'), .int .u64 (DigS.b a'), .int .u64 (DigS.c a'), .int .u64 (DigS.e a'), .int .u64 (DigS.q a'), .int .u64 (IntKind.wrap .u64 (IntKind.wrap .u64 (IntKind.wrap .u64 (IntKind.wrap .u64 (DigS.u a' * (4294967296 : Int)) + DigS.d a') - IntKind.wrap .u64 (DigS.q a' * DigS.y a')) - IntKind.wrap .u64 (IntKind.wrap .u64 (Int.tdiv (IntKind.wrap .u64 (IntKind.wrap .u64 (IntKind.wrap .u64 (DigS.u a' * (4294967296 : Int)) + DigS.d a') - IntKind.wrap .u64 (DigS.q a' * DigS.y a'))) (DigS.b a')) * DigS.b a'))), .int .u64 (IntKind.wrap .u64 (IntKind.wrap .u64 (IntKind.wrap .u64 (DigS.u a' * (4294967296 : Int)) + DigS.d a') - IntKind.wrap .u64 (DigS.q a' * DigS.y a'))), .int .u64 (IntKind.wrap .u64 (Int.tdiv (IntKind.wrap .u64 (IntKind.wrap .u64 (IntKind.wrap .u64 (DigS.u a' * (4294967296 : Int)) + DigS.d a') - IntKind.wrap .u64 (DigS.q a' * DigS.y a'))) (DigS.b a')))] [] 10 10 135 236 []) ∧ ∀ (a' : DigT), dO2 x x_7 x_8 x_9 x_10 a' → bsel (decide ((0 : Int) ≤ DigT.s a')) (K (.tuple (Array.mk [.int .u64 (IntKind.wrap .u64 (IntKind.wrap .u64 (DigT.q a' * (4294967296 : Int)) + DigT.p a')), .int .u64 (Int.fdiv (IntKind.wrap .u64 (IntKind.wrap .u64 (IntKind.wrap .u64 (DigT.u a' * (4294967296 : Int)) + DigT.e a') - IntKind.wrap .u64 (DigT.p a' * DigT.y a'))) ((2 : Int) ^ Min.min (Int.toNat (DigT.s a')) (IntKind.bits IntKind.u64)))])) 10) False) False) False) False)))) := by kernel_rfl
/-! What is divided, moved -/
theorem scale_eq {A B T T' : Nat} (h : T' * T = 18446744073709551616) : (A * T + B / T') * 18446744073709551616 + B * T % 18446744073709551616 = (A * 18446744073709551616 + B) * T := by
  rw [← h, Nat.mul_mod_mul_right, Nat.add_mul, Nat.add_mul, ← Nat.mul_assoc (B / T') T' T]
  have hb : B / T' * T' + B % T' = B := by rw [Nat.mul_comm]; exact Nat.div_add_mod B T'
  have h1 : B / T' * T' * T + B % T' * T = B * T := by rw [← Nat.add_mul, hb]
  have e : A * T * (T' * T) = A * (T' * T) * T := Nat.mul_right_comm _ _ _
  omega
theorem pow_split {s : Nat} (hs : s ≤ 63) : 2 ^ (64 - s) * 2 ^ s = 18446744073709551616 := by
  rw [← Nat.pow_add, show 64 - s + s = 64 by omega]
theorem top_lt {A B Y T T' : Nat} (h : T' * T = 18446744073709551616) (hA : A < Y) (hB : B < 18446744073709551616) : B / T' < T ∧ A * T + B / T' < Y * T := by
  have h1 : B / T' < T := Nat.div_lt_of_lt_mul (by rw [h]; exact hB)
  have h2 : (A + 1) * T ≤ Y * T := Nat.mul_le_mul_right _ hA
  rw [Nat.add_mul] at h2
  exact ⟨h1, by omega⟩
theorem div64_plain {A B Y T T' : Nat} (h : T' * T = 18446744073709551616) (hY : 0 < Y) :
    ((((A * T + B / T') * 4294967296 + B * T % 18446744073709551616 / 4294967296) / (Y * T)) * 4294967296 + (((A * T + B / T') * 4294967296 + B * T % 18446744073709551616 / 4294967296) % (Y * T) * 4294967296 + B * T % 18446744073709551616 % 4294967296) / (Y * T) = (A * 18446744073709551616 + B) / Y) ∧
    ((((A * T + B / T') * 4294967296 + B * T % 18446744073709551616 / 4294967296) % (Y * T) * 4294967296 + B * T % 18446744073709551616 % 4294967296) % (Y * T) / T = (A * 18446744073709551616 + B) % Y) := by
  have hT : 0 < T := Nat.pos_of_ne_zero fun h0 => by rw [h0, Nat.mul_zero] at h; exact absurd h (by decide)
  obtain ⟨e1, e2⟩ := two_digits (u := A * T + B / T') (y := Y * T) (a := B * T % 18446744073709551616 / 4294967296) (b := B * T % 18446744073709551616 % 4294967296) (Nat.mul_pos hY hT)
  rw [← e1, ← e2]
  have e : (A * T + B / T') * 18446744073709551616 + B * T % 18446744073709551616 / 4294967296 * 4294967296 + B * T % 18446744073709551616 % 4294967296 = (A * 18446744073709551616 + B) * T := by
    rw [← scale_eq (A := A) (B := B) h, Nat.add_assoc, Nat.div_add_mod']
  rw [e, Nat.mul_div_mul_right _ _ hT, Nat.mul_mod_mul_right]
  exact ⟨rfl, Nat.mul_div_cancel _ hT⟩
/-! The words, told plainly -/
theorem m1 {s : Nat} (hs : s ≤ 63) : Min.min (Int.toNat (IntKind.wrap .u64 (Int.ofNat s))) (IntKind.bits .u64) = s := by
  have : IntKind.wrap .u64 (Int.ofNat s) = (s : Int) := wrapN (by omega)
  rw [this]
  show min s 64 = s
  omega
theorem m2 {s : Nat} (hs : s ≤ 63) : Min.min (Int.toNat (IntKind.wrap .u64 ((64 : Int) - IntKind.wrap .u64 (Int.ofNat s)))) (IntKind.bits .u64) = 64 - s := by
  have : IntKind.wrap .u64 (Int.ofNat s) = (s : Int) := wrapN (by omega)
  rw [this, wrap_u64']
  show min (Int.toNat (((64 : Int) - s) % 18446744073709551616)) 64 = 64 - s
  omega
theorem m3 {s : Nat} (hs : s ≤ 63) : decide ((0 : Int) ≤ IntKind.wrap .u64 ((64 : Int) - IntKind.wrap .u64 (Int.ofNat s))) = true := by
  have : IntKind.wrap .u64 (Int.ofNat s) = (s : Int) := wrapN (by omega)
  rw [this, wrap_u64']
  exact decide_eq_true (by omega)
theorem m4 {s : Nat} (hs : s < 18446744073709551616) : Int.ofNat (s % Int.natAbs ((2 : Int) ^ IntKind.bits .u64)) = (s : Int) := by
  show ((s % 18446744073709551616 : Nat) : Int) = s
  omega
theorem cast_shl (X s : Nat) : (X : Int) * (2 : Int) ^ s = ((X * 2 ^ s : Nat) : Int) := by
  rw [Int.natCast_mul, Int.natCast_pow]
  rfl
theorem sh_in {X s : Nat} (h : X * 2 ^ s < 18446744073709551616) : IntKind.wrap .u64 ((X : Int) * (2 : Int) ^ s) = ((X * 2 ^ s : Nat) : Int) := by
  rw [cast_shl, wrapN h]
theorem sh_out (X s : Nat) : IntKind.wrap .u64 ((X : Int) * (2 : Int) ^ s) = ((X * 2 ^ s % 18446744073709551616 : Nat) : Int) := by
  rw [cast_shl, wrap_u64']
  exact (Int.natCast_emod _ _).symm
theorem fd32 (X : Nat) : Int.fdiv (X : Int) (4294967296 : Int) = ((X / 4294967296 : Nat) : Int) := by
  rw [Int.fdiv_eq_ediv_of_nonneg _ (by decide)]
  exact (Int.natCast_ediv _ _).symm
theorem fdT (X s : Nat) : Int.fdiv (X : Int) ((2 : Int) ^ s) = ((X / 2 ^ s : Nat) : Int) := by
  rw [Int.fdiv_eq_ediv_of_nonneg _ (Int.le_of_lt (Int.pow_pos (by decide))), Int.natCast_ediv, Int.natCast_pow]
  rfl
theorem and32 {X : Nat} (h : X < 18446744073709551616) : BitVec.toNat (BitVec.ofInt (IntKind.bits .u64) (X : Int) &&& BitVec.ofInt (IntKind.bits .u64) (4294967295 : Int)) = X % 4294967296 := by
  show (BitVec.ofInt 64 (X : Int) &&& BitVec.ofInt 64 ((4294967295 : Nat) : Int)).toNat = _
  rw [BitVec.toNat_and, BitVec.ofInt_natCast, BitVec.ofInt_natCast, BitVec.toNat_ofNat, BitVec.toNat_ofNat, Nat.mod_eq_of_lt h, Nat.mod_eq_of_lt (by decide)]
  exact Nat.and_two_pow_sub_one_eq_mod X 32
theorem orT {A V s : Nat} (hV : V < 2 ^ s) (h : A * 2 ^ s + V < 18446744073709551616) : BitVec.toNat (BitVec.ofInt (IntKind.bits .u64) ((A * 2 ^ s : Nat) : Int) ||| BitVec.ofInt (IntKind.bits .u64) (V : Int)) = A * 2 ^ s + V := by
  show (BitVec.ofInt 64 ((A * 2 ^ s : Nat) : Int) ||| BitVec.ofInt 64 (V : Int)).toNat = _
  rw [BitVec.toNat_or, BitVec.ofInt_natCast, BitVec.ofInt_natCast, BitVec.toNat_ofNat, BitVec.toNat_ofNat, Nat.mod_eq_of_lt (by omega), Nat.mod_eq_of_lt (by omega), ← Nat.shiftLeft_eq]
  exact (Nat.shiftLeft_add_eq_or_of_lt hV A).symm
theorem qdiv {U k : Nat} (h : U < 18446744073709551616) : IntKind.wrap .u64 (Int.tdiv (U : Int) (k : Int)) = ((U / k : Nat) : Int) := by
  rw [← Int.ofNat_tdiv, wrapN (Nat.lt_of_le_of_lt (Nat.div_le_self _ _) h)]
theorem qrest {U k : Nat} (h : U < 18446744073709551616) : IntKind.wrap .u64 ((U : Int) - IntKind.wrap .u64 (((U / k : Nat) : Int) * (k : Int))) = ((U % k : Nat) : Int) := by
  have h1 : U / k * k + U % k = U := by rw [Nat.mul_comm]; exact Nat.div_add_mod U k
  have h2 : ((U / k : Nat) : Int) * (k : Int) = ((U / k * k : Nat) : Int) := (Int.natCast_mul _ _).symm
  rw [h2, wrapN (by omega), show (U : Int) - ((U / k * k : Nat) : Int) = ((U % k : Nat) : Int) by omega, wrapN (by omega)]
theorem left32 {U D Y : Nat} (hY : 0 < Y) (hY2 : Y < 18446744073709551616) : IntKind.wrap .u64 (IntKind.wrap .u64 (IntKind.wrap .u64 ((U : Int) * (4294967296 : Int)) + (D : Int)) - IntKind.wrap .u64 ((((U * 4294967296 + D) / Y : Nat) : Int) * (Y : Int))) = (((U * 4294967296 + D) % Y : Nat) : Int) := by
  have h1 : (U * 4294967296 + D) / Y * Y + (U * 4294967296 + D) % Y = U * 4294967296 + D := by rw [Nat.mul_comm]; exact Nat.div_add_mod _ Y
  have h2 : (((U * 4294967296 + D) / Y : Nat) : Int) * (Y : Int) = (((U * 4294967296 + D) / Y * Y : Nat) : Int) := (Int.natCast_mul _ _).symm
  have h3 := Nat.mod_lt (U * 4294967296 + D) hY
  simp only [h2, wrap_u64']
  omega
theorem both32 {p q : Nat} (hp : p < 4294967296) (hq : q < 4294967296) : IntKind.wrap .u64 (IntKind.wrap .u64 ((p : Int) * (4294967296 : Int)) + (q : Int)) = ((p * 4294967296 + q : Nat) : Int) := by
  simp only [wrap_u64']
  omega
def isD64 (A B Y : Nat) (u : Value) : Prop := u = .tuple #[w64 ((A * 18446744073709551616 + B) / Y : Nat), w64 ((A * 18446744073709551616 + B) % Y : Nat)]
theorem dig_start {Y U D : Nat} (hY1 : 9223372036854775808 ≤ Y) (hY2 : Y < 18446744073709551616) (hU : U < Y) (hD : D < 4294967296) : pre Y U D ∧ inv Y U D (U / (Y / 4294967296)) (U % (Y / 4294967296)) := by
  refine ⟨⟨hY1, hY2, hU, hD⟩, by rw [Nat.mul_comm]; exact Nat.div_add_mod _ _, digit_le hD (by omega), digit_top hU hY1, ?_⟩
  have := Nat.mod_lt U (show 0 < Y / 4294967296 by omega)
  omega
theorem d64_hk (A B Y : Nat) (hA : A < Y) (hY : Y < 18446744073709551616) (hB : B < 18446744073709551616) : ReckA (envW rulesWD loopsG) 30 236 [.int .u64 (A : Int), .int .u64 (B : Int), .int .u64 (Y : Int)] (isD64 A B Y) := by
  have k : ∀ mw, Tryz.prog.globals.size ≤ mw → isD64 A B Y (.tuple #[w64 ((A * 18446744073709551616 + B) / Y : Nat), w64 ((A * 18446744073709551616 + B) % Y : Nat)]) ∧ Tryz.prog.globals.size ≤ mw := fun _ h => ⟨rfl, h⟩
  constructor
  rw [d64_tree]
  refine bsel_of (fun h => absurd (eq_of_beq h) (by omega)) (fun _ => bsel_of (fun h => absurd (of_decide_eq_true h) (by omega)) (fun _ => bsel_of (fun h0 => bsel_of (fun _ => bsel_of (fun _ => ?_) (fun h => ?_)) (fun h => ?_)) (fun h0 => ⟨⟨?_, ?_⟩, fun s hs h1 h2 => ?_⟩)))
  · have h0 : A = 0 := by have := eq_of_beq h0; omega
    subst h0
    have e1 := qdiv (k := Y) hB
    have e2 := Int.ofNat_tmod B Y
    have k := k 18446744073709551616 (Nat.le_of_ble_eq_true (by kernel_rfl))
    rw [Nat.zero_mul, Nat.zero_add] at k
    rw [e1, ← e2]
    exact k
  · exact absurd h (by simp; omega)
  · exact absurd h (by simp; omega)
  · show (0 : Int) < Y
    omega
  · show (Y : Int) < 18446744073709551616
    omega
  · have h1 : 9223372036854775808 ≤ Y * 2 ^ s := h1
    have h2 : Y * 2 ^ s < 18446744073709551616 := h2
    have hsp := pow_split hs
    obtain ⟨hV, hU⟩ := top_lt hsp hA hB
    have hAT : A * 2 ^ s < 18446744073709551616 := Nat.lt_of_le_of_lt (Nat.le_add_right _ _) (Nat.lt_trans hU h2)
    have hL : B * 2 ^ s % 18446744073709551616 < 18446744073709551616 := Nat.mod_lt _ (by decide)
    rw [m3 hs, m2 hs, m1 hs, m4 (by omega), sh_in h2, sh_in hAT, sh_out, fdT, orT hV (Nat.lt_trans hU h2), m4 (Nat.lt_trans hU h2), and32 h2, and32 hL, m4 (by omega), m4 (by omega), fd32, fd32]
    have hU2 : A * 2 ^ s + B / 2 ^ (64 - s) < 18446744073709551616 := Nat.lt_trans hU h2
    rw [wrapN hU2, qdiv hU2, qrest hU2]
    have hY0 : 0 < Y := by omega
    obtain ⟨r1, r2⟩ := div64_plain (A := A) (B := B) hsp hY0
    rw [← r1, ← r2] at k
    generalize hS : isD64 A B Y = S at k ⊢
    clear hAT hV hsp
    revert hU hU2 k
    generalize A * 2 ^ s + B / 2 ^ (64 - s) = U
    generalize B * 2 ^ s % 18446744073709551616 = L at hL ⊢
    generalize Y * 2 ^ s = Z at h1 h2 ⊢
    intro hU hU2 k
    have hZ : 0 < Z := by omega
    have hD : L / 4294967296 < 4294967296 := by omega
    have hE : L % 4294967296 < 4294967296 := by omega
    have hU1 := Nat.mod_lt (U * 4294967296 + L / 4294967296) hZ
    have hQ1 : (U * 4294967296 + L / 4294967296) / Z < 4294967296 := digit_lt hU hD
    have hQ2 := digit_lt (d := L % 4294967296) hU1 hE
    have hU1' := Nat.lt_trans hU1 h2
    refine bsel_of (fun _ => bsel_of (fun _ => ?_) (fun h => absurd h (by simp; omega))) (fun h => nomatch h)
    refine ⟨Z, s, U, L / 4294967296, L % 4294967296, ⟨rfl⟩, U / (Z / 4294967296), ⟨Z, s, (Z / 4294967296 : Nat), (Z % 4294967296 : Nat), U, (L / 4294967296 : Nat), (L % 4294967296 : Nat), (U / (Z / 4294967296) : Nat), (U % (Z / 4294967296) : Nat)⟩, ⟨⟨⟨rfl, rfl, rfl, rfl, rfl, rfl, rfl⟩, (dig_start h1 h2 hU hD).1, _, _, rfl, rfl, (dig_start h1 h2 hU hD).2, rfl⟩, by kernel_rfl, LoopS.At.quick [] rfl rfl (by kernel_rfl) rfl (by kernel_rfl) rfl rfl rfl⟩, fun ⟨y, s', b, c, u, d, e, q, r⟩ hO => ?_⟩
    obtain ⟨⟨q1, q2, q3, q4, q5, q6, q7⟩, q8⟩ := hO
    simp only at q1 q2 q3 q4 q5 q6 q7 q8
    subst q1 q2 q3 q4 q5 q6 q7 q8
    dsimp only
    rw [left32 hZ h2, qdiv hU1', qrest hU1']
    refine bsel_of (fun _ => ?_) (fun h => absurd h (by simp; omega))
    refine ⟨Z, s, L % 4294967296, (U * 4294967296 + L / 4294967296) / Z, (U * 4294967296 + L / 4294967296) % Z, ⟨rfl⟩, _, ⟨Z, s, (Z / 4294967296 : Nat), (Z % 4294967296 : Nat), (L % 4294967296 : Nat), ((U * 4294967296 + L / 4294967296) / Z : Nat), _, _, _⟩, ⟨⟨⟨rfl, rfl, rfl, rfl, rfl, rfl, rfl⟩, (dig_start h1 h2 hU1 hE).1, _, _, rfl, rfl, (dig_start h1 h2 hU1 hE).2, rfl⟩, by kernel_rfl, LoopS.At.quick [] rfl rfl (by kernel_rfl) rfl (by kernel_rfl) rfl rfl rfl⟩, fun ⟨y, s', b, c, e, q, r, u, p⟩ hO => ?_⟩
    obtain ⟨⟨q1, q2, q3, q4, q5, q6, q7⟩, q8⟩ := hO
    simp only at q1 q2 q3 q4 q5 q6 q7 q8
    subst q1 q2 q3 q4 q5 q6 q7 q8
    dsimp only
    have m5 : Min.min (Int.toNat (s : Int)) (IntKind.bits .u64) = s := by
      show min s 64 = s
      omega
    rw [left32 hZ h2, both32 hQ1 hQ2, m5, fdT]
    exact bsel_of (fun _ => k 10 (Nat.le_refl _)) (fun h => absurd h (by simp))
/-! The contracts -/
theorem lz_spec {x : Nat} (h0 : 0 < x) (h : x < 18446744073709551616) : ∃ s, s ≤ 63 ∧ Lib.bitLen x + s = 64 ∧ 9223372036854775808 ≤ x * 2 ^ s ∧ x * 2 ^ s < 18446744073709551616 := by
  have hk1 : 2 ^ x.log2 ≤ x := Nat.log2_self_le (by omega)
  have hk2 : x < 2 ^ (x.log2 + 1) := Nat.lt_log2_self
  generalize x.log2 = k at hk1 hk2
  have hk : k < 64 := (Nat.pow_lt_pow_iff_right (a := 2) (by decide)).1 (Nat.lt_of_le_of_lt hk1 h)
  have hd : x / 2 ^ k = 1 := Nat.div_eq_of_lt_le (by omega) (by rw [Nat.pow_succ] at hk2; omega)
  have hb := Lib.bitLen_shift k x hk1 h
  rw [hd] at hb
  have h1 : Lib.bitLen 1 = 1 := by decide
  refine ⟨63 - k, by omega, by omega, ?_, ?_⟩
  · have := Nat.mul_le_mul_right (2 ^ (63 - k)) hk1
    rw [← Nat.pow_add, show k + (63 - k) = 63 by omega] at this
    exact this
  · have := Nat.mul_lt_mul_of_pos_right hk2 (Nat.pow_pos (n := 63 - k) (show 0 < 2 by decide))
    rw [← Nat.pow_add, show k + 1 + (63 - k) = 64 by omega] at this
    exact this
theorem lz_ok {base : World} : RuleOk Tryz.prog base 269 ruleLz := ruleOkA fun args T K hT hK => by
  split at hT
  · rename_i x
    cases hT
    obtain ⟨⟨h0, h1⟩, hK⟩ := hK
    obtain ⟨X, rfl⟩ := Int.eq_ofNat_of_zero_le (Int.le_of_lt h0)
    obtain ⟨s, hs, hb, h2, h3⟩ := lz_spec (x := X) (by omega) (by omega)
    refine ⟨_, hK s hs h2 h3, totA_contract (args := [.int .u64 (X : Int)]) (fn := Tryz.f269) Tryz.func269 (by kernel_rfl) (List.forall_mem_cons.2 ⟨by kernel_rfl, fun _ h => nomatch h⟩) (by kernel_rfl) fun w => (Tryz.bits_LeadingZeros64 (X : Int) w (by omega) (by omega)).mono fun e w' ⟨he, hw⟩ => ⟨he.trans ?_, hw⟩⟩
    have : (64 - (Lib.bitLen (X : Int).toNat : Int)) = Int.ofNat s := by
      show (64 - (Lib.bitLen X : Int)) = (s : Int)
      omega
    rw [this]
  · cases hT
theorem rulesWD_ok (base : World) : ∀ x ∈ rulesWD, RuleOk Tryz.prog base x.1 x.2 := List.forall_mem_cons.2 ⟨lz_ok, rules0_ok base⟩
theorem digT1_ok {E : Env} (hP : E.P = Tryz.prog) (hW : E.weak = true) {base : World} : LoopOk E base digT1 := fun c s K ⟨_, _, _, _, _, h⟩ =>
  loopT_ok (E := envW rulesWD []) hP hW (envW_ok (rulesWD_ok base)) (findL_ok (l := []) rfl fun _ h => nomatch h) (by kernel_rfl) (by kernel_rfl) (dig1_rounds _ _ _ _ _) h
theorem digT2_ok {E : Env} (hP : E.P = Tryz.prog) (hW : E.weak = true) {base : World} : LoopOk E base digT2 := fun c s K ⟨_, _, _, _, _, h⟩ =>
  loopT_ok (E := envW rulesWD []) hP hW (envW_ok (rulesWD_ok base)) (findL_ok (l := []) rfl fun _ h => nomatch h) (by kernel_rfl) (by kernel_rfl) (dig2_rounds _ _ _ _ _) h
theorem loopsG_ok {E : Env} (hP : E.P = Tryz.prog) (hW : E.weak = true) (base : World) : ∀ x ∈ loopsG, LoopOk E base x.2 := List.forall_mem_cons.2 ⟨digT1_ok hP hW, List.forall_mem_cons.2 ⟨digT2_ok hP hW, fun _ h => nomatch h⟩⟩
theorem d64_tot {base : World} {A B Y : Nat} (hA : A < Y) (hY : Y < 18446744073709551616) (hB : B < 18446744073709551616) : ∃ v, isD64 A B Y v ∧ TotA base 236 [.int .u64 (A : Int), .int .u64 (B : Int), .int .u64 (Y : Int)] v :=
  totA_of (S := isD64 A B Y) (envW_ok (rulesWD_ok base)) (findL_ok rfl (loopsG_ok rfl rfl base)) rfl (d64_hk A B Y hA hY hB) (fun v hv => by rw [show v = _ from hv]; kernel_rfl)
    (List.forall_mem_cons.2 ⟨by kernel_rfl, List.forall_mem_cons.2 ⟨by kernel_rfl, List.forall_mem_cons.2 ⟨by kernel_rfl, fun _ h => nomatch h⟩⟩⟩)
def ruleDiv64 : Rule := ruleA fun args => match args with
  | [.int .u64 a, .int .u64 b, .int .u64 y] => some fun K => (u64 a ∧ u64 b ∧ u64 y ∧ a < y) ∧ ∀ q r : Int, u64 q → 0 ≤ r → r < y → q * y + r = a * 18446744073709551616 + b → K (.tuple #[w64 q, w64 r])
  | _ => none
theorem div64_ok {base : World} : RuleOk Tryz.prog base 236 ruleDiv64 := ruleOkA fun args T K hT hK => by
  split at hT
  · cases hT
    obtain ⟨⟨⟨a0, a1⟩, ⟨b0, b1⟩, ⟨y0, y1⟩, hlt⟩, hK⟩ := hK
    obtain ⟨A, rfl⟩ := Int.eq_ofNat_of_zero_le a0
    obtain ⟨B, rfl⟩ := Int.eq_ofNat_of_zero_le b0
    obtain ⟨Y, rfl⟩ := Int.eq_ofNat_of_zero_le y0
    have hA : A < Y := by omega
    have hB : B < 18446744073709551616 := by omega
    obtain ⟨v, rfl, ht⟩ := d64_tot (base := base) hA (by omega) hB
    have hY : 0 < Y := by omega
    refine ⟨_, hK _ _ ?_ ?_ ?_ ?_, ht⟩
    · have : (A * 18446744073709551616 + B) / Y < 18446744073709551616 := Nat.div_lt_of_lt_mul (by
        have := Nat.mul_le_mul_right 18446744073709551616 (show A + 1 ≤ Y from hA)
        omega)
      exact ⟨Int.natCast_nonneg _, Int.ofNat_lt.2 this⟩
    · exact Int.natCast_nonneg _
    · exact Int.ofNat_lt.2 (Nat.mod_lt _ hY)
    · have e := Nat.div_add_mod' (A * 18446744073709551616 + B) Y
      have : (((A * 18446744073709551616 + B) / Y : Nat) : Int) * (Y : Int) = (((A * 18446744073709551616 + B) / Y * Y : Nat) : Int) := (Int.natCast_mul _ _).symm
      rw [this]
      omega
  · cases hT
def ruleMul64 : Rule := ruleA fun args => match args with
  | [.int .u64 x, .int .u64 y] => some fun K => (u64 x ∧ u64 y) ∧ ∀ h l : Int, u64 h → u64 l → K (.tuple #[w64 h, w64 l])
  | _ => none
theorem mul64_ok {base : World} : RuleOk Tryz.prog base 259 ruleMul64 := ruleOkA fun args T K hT hK => by
  split at hT
  · cases hT
    obtain ⟨⟨⟨a0, a1⟩, ⟨b0, b1⟩⟩, hK⟩ := hK
    obtain ⟨A, rfl⟩ := Int.eq_ofNat_of_zero_le a0
    obtain ⟨B, rfl⟩ := Int.eq_ofNat_of_zero_le b0
    have hA : A < 18446744073709551616 := by omega
    have hB : B < 18446744073709551616 := by omega
    have hm : A * B < 18446744073709551616 * 18446744073709551616 := Nat.mul_lt_mul'' hA hB
    have hd : A * B / 18446744073709551616 < 18446744073709551616 := Nat.div_lt_of_lt_mul hm
    refine ⟨_, hK ((A * B / 18446744073709551616 : Nat) : Int) ((A * B % 18446744073709551616 : Nat) : Int) ⟨by omega, by omega⟩ ⟨by omega, by omega⟩, totA_contract (args := [.int .u64 (A : Int), .int .u64 (B : Int)]) (fn := Tryz.f259) Tryz.func259 (by kernel_rfl) (List.forall_mem_cons.2 ⟨by kernel_rfl, List.forall_mem_cons.2 ⟨by kernel_rfl, fun _ h => nomatch h⟩⟩) (by kernel_rfl) fun w => Tryz.bits_Mul64 A B hA hB w⟩
  · cases hT
end Go.Proofs.YthmogphlnjpakaaGreatDoor

namespace Go.Proofs.YthmogphlnjpakaaGreatDoor
open Go Go.Pe Go.RowKit
def ruleCmp : Rule := ruleA fun args => match args with
  | [.agg ⟨[.int .u64 h, .int .u64 l]⟩, .agg ⟨[.int .u64 p, .int .u64 q]⟩] => some fun K => (u64 h ∧ u64 l ∧ u64 p ∧ u64 q) ∧ ∀ c : Int, (c = -1 ∧ wV h l < wV p q ∨ c = 0 ∧ wV h l = wV p q ∨ c = 1 ∧ wV p q < wV h l) → K (.int .i64 c)
  | _ => none
def ruleWSub : Rule := ruleA fun args => match args with
  | [.agg ⟨[.int .u64 h, .int .u64 l]⟩, .agg ⟨[.int .u64 p, .int .u64 q]⟩] => some fun K => (u64 h ∧ u64 l ∧ u64 p ∧ u64 q) ∧ ∀ x y c : Int, u64 x → u64 y → wV x y = (wV h l - wV p q) % 340282366920938463463374607431768211456 → K (.tuple #[wU x y, .int .u64 c])
  | _ => none
def ruleShl : Rule := ruleA fun args => match args with
  | [.agg ⟨[.int .u64 h, .int .u64 l]⟩, .agg ⟨[.int .u64 p, .int .u64 q]⟩, .int .u64 z] => some fun K => (z = 0 ∧ u64 h ∧ u64 l ∧ u64 p ∧ u64 q) ∧ ∀ x y z w : Int, u64 x → u64 y → u64 z → u64 w → w % 2 = 0 → wV x y = (2 * wV h l + p / 9223372036854775808) % 340282366920938463463374607431768211456 → K (.tuple #[wU x y, wU z w])
  | _ => none
def rulesW1 : List (Nat × Rule) := (218, ruleCmp) :: (289, ruleWSub) :: (288, ruleShl) :: rules0
structure DivS where
  (a b c d e f k p q r s : Int)
def cel (h l : Int) : List (Option Value) := [some (.int .u64 h), some (.int .u64 l)]
def blkU (h l : Int) : Blk := { cells := cel h l, elem := 86, own := true, room := 0, iter := none }
def ptr (k : Nat) : Value := .pointer (some ⟨k, 0, none⟩)
def divL : LoopS DivS where
  fn := 266
  keys := [5, 6, 7, 9, 10, 20]
  kv x := [ptr 12, ptr 13, ptr 14, ptr 15, ptr 16, .int .i64 x.k]
  hp x := [(16, blkU x.c x.d), (15, blkU x.a x.b), (14, blkU 0 0), (13, blkU 0 0), (12, blkU x.e x.f), (11, blkU x.r x.s), (10, blkU x.p x.q)]
  lo := 17
  nx := 17
  mw := 10
  size := 52
theorem round_tree (P : Exit → Bool → List Value → Heap → Nat → Nat → Nat → FuncId → List (FuncId × List Value) → Prop) (a b c d e f k p q r s : Int) :
 codeK (envW rulesW1 []) (funcK (envW rulesW1 []) 30) (loopOf Tryz.prog 266 5) (divL.st (DivS.mk a b c d e f k p q r s)) (divL.look P) =
 (bsel (decide (DivS.k (DivS.mk a b c d e f k p q r s) < (128 : Int))) ((Int.ofNat 0 = Int.ofNat 0 ∧ u64 a ∧ u64 b ∧ u64 c ∧ u64 d) ∧ ∀ (x y z w : Int), u64 x → u64 y → u64 z → u64 w → w % (2 : Int) = Int.ofNat 0 → wV x y = ((2 : Int) * wV (DivS.a (DivS.mk a b c d e f k p q r s)) (DivS.b (DivS.mk a b c d e f k p q r s)) + DivS.c (DivS.mk a b c d e f k p q r s) / (9223372036854775808 : Int)) % (340282366920938463463374607431768211456 : Int) → bsel (Int.fdiv (DivS.a (DivS.mk a b c d e f k p q r s)) ((9223372036854775808 : Int)) == (1 : Int)) ((u64 x ∧ u64 y ∧ u64 e ∧ u64 f) ∧ ∀ (x_1 y_1 _ : Int), u64 x_1 → u64 y_1 → wV x_1 y_1 = (wV x y - wV (DivS.e (DivS.mk a b c d e f k p q r s)) (DivS.f (DivS.mk a b c d e f k p q r s))) % (340282366920938463463374607431768211456 : Int) → P Go.Exit.normal true [.pointer (some (Addr.mk 12 0 none)), .pointer (some (Addr.mk 13 0 none)), .pointer (some (Addr.mk 14 0 none)), .pointer (some (Addr.mk 15 0 none)), .pointer (some (Addr.mk 16 0 none)), .int .i64 (IntKind.wrap .i64 (k + Int.ofNat 1))] [(16, Blk.mk [some (Value.int .u64 z), some (Value.int .u64 (IntKind.wrap .u64 (Int.ofNat (BitVec.toNat (BitVec.ofInt (IntKind.bits IntKind.u64) w ||| BitVec.ofInt (IntKind.bits IntKind.u64) (1 : Int))))))] 86 true 0 none false), (15, Blk.mk [some (Value.int .u64 x_1), some (Value.int .u64 y_1)] 86 true 0 none false), (14, Blk.mk [some (Value.int .u64 (Int.ofNat 0)), some (Value.int .u64 (Int.ofNat 0))] 86 true 0 none false), (13, Blk.mk [some (Value.int .u64 (Int.ofNat 0)), some (Value.int .u64 (Int.ofNat 0))] 86 true 0 none false), (12, Blk.mk [some (Value.int .u64 e), some (Value.int .u64 f)] 86 true 0 none false), (11, Blk.mk [some (Value.int .u64 r), some (Value.int .u64 s)] 86 true 0 none false), (10, Blk.mk [some (Value.int .u64 p), some (Value.int .u64 q)] 86 true 0 none false)] 17 10 52 266 []) ((u64 x ∧ u64 y ∧ u64 e ∧ u64 f) ∧ ∀ (c_1 : Int), c_1 = Int.negSucc 0 ∧ wV x y < wV (DivS.e (DivS.mk a b c d e f k p q r s)) (DivS.f (DivS.mk a b c d e f k p q r s)) ∨ c_1 = Int.ofNat 0 ∧ wV x y = wV (DivS.e (DivS.mk a b c d e f k p q r s)) (DivS.f (DivS.mk a b c d e f k p q r s)) ∨ c_1 = Int.ofNat 1 ∧ wV (DivS.e (DivS.mk a b c d e f k p q r s)) (DivS.f (DivS.mk a b c d e f k p q r s)) < wV x y → bsel (decide (c_1 ≥ (0 : Int))) ((u64 x ∧ u64 y ∧ u64 e ∧ u64 f) ∧ ∀ (x_1 y_1 _ : Int), u64 x_1 → u64 y_1 → wV x_1 y_1 = (wV x y - wV (DivS.e (DivS.mk a b c d e f k p q r s)) (DivS.f (DivS.mk a b c d e f k p q r s))) % (340282366920938463463374607431768211456 : Int) → P Go.Exit.normal true [.pointer (some (Addr.mk 12 0 none)), .pointer (some (Addr.mk 13 0 none)), .pointer (some (Addr.mk 14 0 none)), .pointer (some (Addr.mk 15 0 none)), .pointer (some (Addr.mk 16 0 none)), .int .i64 (IntKind.wrap .i64 (k + Int.ofNat 1))] [(16, Blk.mk [some (Value.int .u64 z), some (Value.int .u64 (IntKind.wrap .u64 (Int.ofNat (BitVec.toNat (BitVec.ofInt (IntKind.bits IntKind.u64) w ||| BitVec.ofInt (IntKind.bits IntKind.u64) (1 : Int))))))] 86 true 0 none false), (15, Blk.mk [some (Value.int .u64 x_1), some (Value.int .u64 y_1)] 86 true 0 none false), (14, Blk.mk [some (Value.int .u64 (Int.ofNat 0)), some (Value.int .u64 (Int.ofNat 0))] 86 true 0 none false), (13, Blk.mk [some (Value.int .u64 (Int.ofNat 0)), some (Value.int .u64 (Int.ofNat 0))] 86 true 0 none false), (12, Blk.mk [some (Value.int .u64 e), some (Value.int .u64 f)] 86 true 0 none false), (11, Blk.mk [some (Value.int .u64 r), some (Value.int .u64 s)] 86 true 0 none false), (10, Blk.mk [some (Value.int .u64 p), some (Value.int .u64 q)] 86 true 0 none false)] 17 10 52 266 []) (P Go.Exit.normal true [.pointer (some (Addr.mk 12 0 none)), .pointer (some (Addr.mk 13 0 none)), .pointer (some (Addr.mk 14 0 none)), .pointer (some (Addr.mk 15 0 none)), .pointer (some (Addr.mk 16 0 none)), .int .i64 (IntKind.wrap .i64 (k + Int.ofNat 1))] [(16, Blk.mk [some (Value.int .u64 z), some (Value.int .u64 w)] 86 true 0 none false), (15, Blk.mk [some (Value.int .u64 x), some (Value.int .u64 y)] 86 true 0 none false), (14, Blk.mk [some (Value.int .u64 (Int.ofNat 0)), some (Value.int .u64 (Int.ofNat 0))] 86 true 0 none false), (13, Blk.mk [some (Value.int .u64 (Int.ofNat 0)), some (Value.int .u64 (Int.ofNat 0))] 86 true 0 none false), (12, Blk.mk [some (Value.int .u64 e), some (Value.int .u64 f)] 86 true 0 none false), (11, Blk.mk [some (Value.int .u64 r), some (Value.int .u64 s)] 86 true 0 none false), (10, Blk.mk [some (Value.int .u64 p), some (Value.int .u64 q)] 86 true 0 none false)] 17 10 52 266 []))) (P (Go.Exit.exit 0) true [.pointer (some (Addr.mk 12 0 none)), .pointer (some (Addr.mk 13 0 none)), .pointer (some (Addr.mk 14 0 none)), .pointer (some (Addr.mk 15 0 none)), .pointer (some (Addr.mk 16 0 none)), .int .i64 k] [(16, Blk.mk [some (Value.int .u64 c), some (Value.int .u64 d)] 86 true 0 none false), (15, Blk.mk [some (Value.int .u64 a), some (Value.int .u64 b)] 86 true 0 none false), (14, Blk.mk [some (Value.int .u64 (Int.ofNat 0)), some (Value.int .u64 (Int.ofNat 0))] 86 true 0 none false), (13, Blk.mk [some (Value.int .u64 (Int.ofNat 0)), some (Value.int .u64 (Int.ofNat 0))] 86 true 0 none false), (12, Blk.mk [some (Value.int .u64 e), some (Value.int .u64 f)] 86 true 0 none false), (11, Blk.mk [some (Value.int .u64 r), some (Value.int .u64 s)] 86 true 0 none false), (10, Blk.mk [some (Value.int .u64 p), some (Value.int .u64 q)] 86 true 0 none false)] 17 10 52 266 [])) := by kernel_rfl
def divI (e f : Int) (n : Nat) (x : DivS) : Prop := (x.e = e ∧ x.f = f ∧ u64 x.a ∧ u64 x.b ∧ u64 x.c ∧ u64 x.d ∧ u64 e ∧ u64 f) ∧ wV x.a x.b < wV e f ∧ 0 ≤ x.k ∧ x.k ≤ 128 ∧ n = 128 - x.k.toNat
def divO (e f : Int) (x : DivS) : Prop := u64 x.a ∧ u64 x.b ∧ u64 x.c ∧ u64 x.d ∧ wV x.a x.b < wV e f
theorem wrap_i64s {x : Int} (h : 0 ≤ x) (h2 : x < 9223372036854775808) : IntKind.wrap .i64 x = x := by
  have h : IntKind.wrap .i64 x = if x % 18446744073709551616 ≥ 9223372036854775808 then x % 18446744073709551616 - 18446744073709551616 else x % 18446744073709551616 := by
    simp [IntKind.wrap, IntKind.bits, IntKind.signed]
  rw [h]
  split <;> omega
theorem div_round (e0 f0 : Int) (n : Nat) (a b c d e f k p q r s : Int) (hI : divI e0 f0 n ⟨a, b, c, d, e, f, k, p, q, r, s⟩) :
    Hush (codeK (envW rulesW1 []) (funcK (envW rulesW1 []) 30) (loopOf Tryz.prog 266 5) (divL.st ⟨a, b, c, d, e, f, k, p, q, r, s⟩) (divL.look (divL.To (divI e0 f0) (divO e0 f0) (fun _ => False) 0 n))) := by
  constructor
  rw [round_tree]
  obtain ⟨⟨he, hf, h1, h2, h3, h4, h5, h6⟩, hlt, k0, k1, hn⟩ := hI
  simp only at he hf h1 h2 h3 h4 hlt k0 k1 hn
  subst he hf
  refine bsel_of (fun hk => ?_) (fun hk => ?_)
  · have hk : k < 128 := of_decide_eq_true hk
    have hkw : IntKind.wrap .i64 (k + Int.ofNat 1) = k + 1 := wrap_i64s (by show 0 ≤ k + 1; omega) (by show k + 1 < _; omega)
    refine ⟨⟨rfl, h1, h2, h3, h4⟩, fun x y z w hx hy hz hw hpar hval => ?_⟩
    have hpar : w % 2 = 0 := hpar
    have hor := or_one hw hpar
    have hw1 : u64 (w + 1) := by unfold u64 at *; omega
    have hval : wV x y = (2 * wV a b + c / 9223372036854775808) % 340282366920938463463374607431768211456 := hval
    have hfd : Int.fdiv a 9223372036854775808 = a / 9223372036854775808 := Int.fdiv_eq_ediv_of_nonneg _ (by decide)
    have u1 : u64 a := h1
    unfold u64 at h1 h2 h3 h5 h6 hx hy
    refine bsel_of (fun ho => ⟨⟨by unfold u64; omega, by unfold u64; omega, by unfold u64; omega, by unfold u64; omega⟩, fun x1 y1 c1 hx1 hy1 hv1 => ?_⟩) (fun ho => ⟨⟨by unfold u64; omega, by unfold u64; omega, by unfold u64; omega, by unfold u64; omega⟩, fun c1 hc =>
      bsel_of (fun hb => ⟨⟨by unfold u64; omega, by unfold u64; omega, by unfold u64; omega, by unfold u64; omega⟩, fun x1 y1 c2 hx1 hy1 hv1 => ?_⟩) (fun hb => ?_)⟩)
    · have ho : Int.fdiv a 9223372036854775808 = 1 := by simpa using ho
      have hv1 : wV x1 y1 = (wV x y - wV e f) % 340282366920938463463374607431768211456 := hv1
      rw [hor, hkw]
      refine ⟨n - 1, ⟨x1, y1, z, w + 1, e, f, k + 1, p, q, r, s⟩, by omega, ⟨⟨rfl, rfl, hx1, hy1, hz, hw1, by unfold u64; omega, by unfold u64; omega⟩, ?_, by show 0 ≤ k + 1; omega, by show k + 1 ≤ 128; omega, by show n - 1 = 128 - (k + 1).toNat; omega⟩, LoopS.At.quick [] rfl rfl (by kernel_rfl) rfl (by kernel_rfl) rfl rfl rfl⟩
      simp only [wV] at *
      omega
    · have ho : ¬ Int.fdiv a 9223372036854775808 = 1 := by simpa using ho
      have hv1 : wV x1 y1 = (wV x y - wV e f) % 340282366920938463463374607431768211456 := hv1
      have hb : c1 ≥ 0 := of_decide_eq_true hb
      have hc : c1 = -1 ∧ wV x y < wV e f ∨ c1 = 0 ∧ wV x y = wV e f ∨ c1 = 1 ∧ wV e f < wV x y := hc
      rw [hor, hkw]
      refine ⟨n - 1, ⟨x1, y1, z, w + 1, e, f, k + 1, p, q, r, s⟩, by omega, ⟨⟨rfl, rfl, hx1, hy1, hz, hw1, by unfold u64; omega, by unfold u64; omega⟩, ?_, by show 0 ≤ k + 1; omega, by show k + 1 ≤ 128; omega, by show n - 1 = 128 - (k + 1).toNat; omega⟩, LoopS.At.quick [] rfl rfl (by kernel_rfl) rfl (by kernel_rfl) rfl rfl rfl⟩
      unfold u64 at hx1 hy1
      simp only [wV] at *
      omega
    · have hb : ¬ c1 ≥ 0 := of_decide_eq_false hb
      have hc : c1 = -1 ∧ wV x y < wV e f ∨ c1 = 0 ∧ wV x y = wV e f ∨ c1 = 1 ∧ wV e f < wV x y := hc
      rw [hkw]
      refine ⟨n - 1, ⟨x, y, z, w, e, f, k + 1, p, q, r, s⟩, by omega, ⟨⟨rfl, rfl, by unfold u64; omega, by unfold u64; omega, hz, hw, by unfold u64; omega, by unfold u64; omega⟩, by show wV x y < wV e f; omega, by show 0 ≤ k + 1; omega, by show k + 1 ≤ 128; omega, by show n - 1 = 128 - (k + 1).toNat; omega⟩, LoopS.At.quick [] rfl rfl (by kernel_rfl) rfl (by kernel_rfl) rfl rfl rfl⟩
  · exact ⟨rfl, ⟨a, b, c, d, e, f, k, p, q, r, s⟩, ⟨h1, h2, h3, h4, hlt⟩, LoopS.At.quick [] rfl rfl (by kernel_rfl) rfl (by kernel_rfl) rfl rfl rfl⟩
theorem div_rounds (e0 f0 : Int) : Rounds (envW rulesW1 []) 30 (loopOf Tryz.prog 266 5) divL (divI e0 f0) (divO e0 f0) (fun _ => False) 0 :=
  ⟨fun n x hI => div_round e0 f0 n x.a x.b x.c x.d x.e x.f x.k x.p x.q x.r x.s hI⟩
def divT : LoopW := fun c s K => ∃ e f, loopT (loopOf Tryz.prog 266 5) divL (divI e f) (divO e f) 0 c s K
def loopsD : List ((Nat × Nat) × LoopW) := [((266, 5), divT)]
def isDiv (a b e f : Int) (u : Value) : Prop := (wV e f ≤ wV a b ∧ u = .tuple #[wU 0 0, wU 0 0, .bool false]) ∨
  (wV a b < wV e f ∧ ∃ x y z w, u = .tuple #[wU x y, wU z w, .bool true] ∧ u64 x ∧ u64 y ∧ u64 z ∧ u64 w ∧ wV z w < wV e f)
theorem div_hk_tree (K : Value → Nat → Prop) (a b c d e f : Int) :
 funcK (envW rulesW1 loopsD) 30 266 [wU a b, wU c d, wU e f] [] Tryz.prog.globals.size (fun u _ _ mw => K u mw) =
 ((u64 a ∧ u64 b ∧ u64 e ∧ u64 f) ∧ ∀ (c_1 : Int), c_1 = Int.negSucc 0 ∧ wV a b < wV e f ∨ c_1 = Int.ofNat 0 ∧ wV a b = wV e f ∨ c_1 = Int.ofNat 1 ∧ wV e f < wV a b → bsel (decide (c_1 ≥ (0 : Int))) (K (.tuple (Array.mk [.agg (Array.mk [.int .u64 (Int.ofNat 0), .int .u64 (Int.ofNat 0)]), .agg (Array.mk [.int .u64 (Int.ofNat 0), .int .u64 (Int.ofNat 0)]), .bool false])) 13) (∃ (x : Int), ∃ (x_1 : Int), Is (loopOf Go.Proofs.Tryz.prog 266 5) (loopOf Go.Proofs.Tryz.prog 266 5) ∧ ∃ (x_2 : Nat), ∃ (x_3 : DivS), (divI x x_1 x_2 x_3 ∧ true = true ∧ LoopS.At divL x_3 true [.pointer (some (Addr.mk 12 0 none)), .pointer (some (Addr.mk 13 0 none)), .pointer (some (Addr.mk 14 0 none)), .pointer (some (Addr.mk 15 0 none)), .pointer (some (Addr.mk 16 0 none)), .int .i64 (Int.ofNat 0)] [(16, Blk.mk [some (Value.int .u64 c), some (Value.int .u64 d)] 86 true 0 none false), (15, Blk.mk [some (Value.int .u64 a), some (Value.int .u64 b)] 86 true 0 none false), (14, Blk.mk [some (Value.int .u64 (Int.ofNat 0)), some (Value.int .u64 (Int.ofNat 0))] 86 true 0 none false), (13, Blk.mk [some (Value.int .u64 (Int.ofNat 0)), some (Value.int .u64 (Int.ofNat 0))] 86 true 0 none false), (12, Blk.mk [some (Value.int .u64 e), some (Value.int .u64 f)] 86 true 0 none false), (11, Blk.mk [some (Value.int .u64 c), some (Value.int .u64 d)] 86 true 0 none false), (10, Blk.mk [some (Value.int .u64 a), some (Value.int .u64 b)] 86 true 0 none false)] 17 15 52 266 []) ∧ ∀ (a' : DivS), divO x x_1 a' → K (.tuple (Array.mk [.agg (Array.mk [.int .u64 (DivS.c a'), .int .u64 (DivS.d a')]), .agg (Array.mk [.int .u64 (DivS.a a'), .int .u64 (DivS.b a')]), .bool true])) 10)) := by kernel_rfl
theorem div_hk (a b c d e f : Int) (h1 : u64 a) (h2 : u64 b) (h3 : u64 c) (h4 : u64 d) (h5 : u64 e) (h6 : u64 f) : ReckA (envW rulesW1 loopsD) 30 266 [wU a b, wU c d, wU e f] (isDiv a b e f) := by
  constructor
  rw [div_hk_tree fun u mw => (isDiv a b e f) u ∧ Tryz.prog.globals.size ≤ mw]
  refine ⟨⟨h1, h2, h5, h6⟩, fun k hk => bsel_of (fun hb => ?_) (fun hb => ?_)⟩
  · have hb : k ≥ 0 := of_decide_eq_true hb
    have hk : k = -1 ∧ wV a b < wV e f ∨ k = 0 ∧ wV a b = wV e f ∨ k = 1 ∧ wV e f < wV a b := hk
    exact ⟨.inl ⟨by omega, rfl⟩, Nat.le_of_ble_eq_true (by kernel_rfl)⟩
  · have hb : ¬ k ≥ 0 := of_decide_eq_false hb
    have hk : k = -1 ∧ wV a b < wV e f ∨ k = 0 ∧ wV a b = wV e f ∨ k = 1 ∧ wV e f < wV a b := hk
    have hlt : wV a b < wV e f := by omega
    refine ⟨e, f, ⟨rfl⟩, 128, ⟨a, b, c, d, e, f, 0, a, b, c, d⟩, ⟨⟨⟨rfl, rfl, h1, h2, h3, h4, h5, h6⟩, hlt, Int.le_refl _, by show (0 : Int) ≤ 128; decide, rfl⟩, by kernel_rfl, LoopS.At.quick [] rfl rfl (by kernel_rfl) rfl (by kernel_rfl) rfl rfl rfl⟩, fun x ⟨q1, q2, q3, q4, q5⟩ => ⟨.inr ⟨hlt, _, _, _, _, rfl, q3, q4, q1, q2, q5⟩, Nat.le_of_ble_eq_true (by kernel_rfl)⟩⟩
end Go.Proofs.YthmogphlnjpakaaGreatDoor
