/-
  Calls told for every heap; bits.LeadingZeros64, bits.Mul64 by the shelf; numbers of 128 bits: compared, taken from one another, doubled.
-/
import Derived.Test.YtdbjbmdaekgbhaaGreatDoorEaA
import Derived.Test.YtdbjbmdaekgbhaaGreatDoorPeP1
import Derived.Test.YtdbjbmdaekgbhaaGreatDoorSh
namespace Go.Proofs.YtdbjbmdaekgbhaaGreatDoor
open Go Go.Pe Go.RowKit

/-- A call of plain values returns this plain value, whatever the heap, and touches nothing. -/
def TotA (base : World) (f : FuncId) (args : List Value) (v : Value) : Prop := ∀ E : Env, E.P = Tryz.prog → ∀ (h : Heap) (n : Nat), FuncSem E base f args h n v h n big

/-- The evaluator comes to a value of a kind, over no blocks. -/
structure ReckA (E : Env) (d : Nat) (f : FuncId) (args : List Value) (S : Value → Prop) : Prop where
  out : funcK E d f args [] Tryz.prog.globals.size (fun u _ _ mw => S u ∧ Tryz.prog.globals.size ≤ mw)

theorem totA_of {E : Env} {base : World} (hE : EnvOk E base) (hL : LoopsOk E base) (hP : E.P = Tryz.prog) {d : Nat} {f : FuncId} {args : List Value} {S : Value → Prop} (hk : ReckA E d f args S)
    (hp : ∀ v, S v → pureV 6 v = true) (ha : ∀ x ∈ args, pureV 6 x = true) : ∃ v, S v ∧ TotA base f args v := by
  obtain ⟨u, h', n', mw, ⟨hS, hmw⟩, hs⟩ := funcK_sound hE hL d f args [] Tryz.prog.globals.size _ hk.out
  exact ⟨u, hS, fun E' hE' h n => (hs.anywhere hmw (hp u hS) ha (hwf_empty _) (by rw [hP]; exact Nat.le_refl _) (Sub.nil h) n).env (hE'.trans hP.symm)⟩

/-- A rule by the arguments alone, whatever the heap. -/
abbrev ARule := List Value → Option ((Value → Prop) → Prop)
def ruleA (R : ARule) : Rule := fun args h n => match R args with
  | some T => some fun K => T fun v => K v h n big
  | none => none
theorem ruleOkA {base : World} {f : FuncId} {R : ARule} (H : ∀ args T K, R args = some T → T K → ∃ v, K v ∧ TotA base f args v) : RuleOk Tryz.prog base f (ruleA R) := by
  intro E hE args h n T K hT hK
  unfold ruleA at hT
  split at hT
  · rename_i T' hR
    cases hT
    obtain ⟨v, hv, htot⟩ := H args T' _ hR hK
    exact ⟨v, h, n, big, hv, htot E hE h n⟩
  · cases hT

/-- A contract of the shelf, told for every heap. -/
theorem totA_contract {base : World} {f : FuncId} {fn : Func} (hf : Tryz.prog.funcs[f]? = some fn) (hb : fn.body.isSome = true) {args : List Value} (ha : ∀ x ∈ args, pureV 6 x = true) {v : Value} (hv : pureV 6 v = true)
    (H : ∀ w : World, Calls Tryz.prog f args.toArray w fun e w' => e = .returned v ∧ w' = w) : TotA base f args v := fun E hP h n => by
  have hE' : EnvOk (env []) base := env_ok (rules := []) (fun _ h => by cases h)
  exact (FuncSem.ofContract (E := env []) hE' (fn := fn) hf hb ha hv fun w _ => (H w).mono fun e w' ⟨he, hw⟩ => ⟨he, by rw [hw]; exact Below.refl _ _⟩).env hP

/-! A word; a number of 128 bits -/

def u64 (x : Int) : Prop := 0 ≤ x ∧ x < 18446744073709551616
def wU (h l : Int) : Value := .agg ⟨[.int .u64 h, .int .u64 l]⟩
def wV (h l : Int) : Int := h * 18446744073709551616 + l

theorem wrap_u64' (x : Int) : IntKind.wrap .u64 x = x % 18446744073709551616 := by
  simp [IntKind.wrap, IntKind.bits, IntKind.signed]

def tEqs : List TypeId := [24]
theorem tEqs_ok : ∀ t ∈ tEqs, Tryz.prog.eqGuardType Tryz.prog.depth t = false := by
  unfold tEqs
  exact List.forall_mem_cons.2 ⟨by kernel_rfl, fun _ h => nomatch h⟩

/-- The environment of these numbers. -/
noncomputable def envW (rules : List (Nat × Rule)) (loops : List ((Nat × Nat) × LoopW)) : Env :=
  { P := Tryz.prog, isBool := bools, oracle := findR rules, eqAgg := eqA (env []) tEqs, loops := 0, loopP := findL loops, guess := fun _ _ => none, strF := strAt, weak := true }
theorem envW_ok {rules : List (Nat × Rule)} {loops : List ((Nat × Nat) × LoopW)} {base : World} (hr : ∀ x ∈ rules, RuleOk Tryz.prog base x.1 x.2) : EnvOk (envW rules loops) base :=
  envOk_of (E := envW rules loops) rfl rfl mixed_ok plain_ok hr fun t a b r h μ κ w => eqA_sound (E := env []) tEqs_ok t a b r h μ κ w

theorem or_bit {a b : Int} (ha : 0 ≤ a) (ha2 : a < 18446744073709551616) (he : a % 2 = 0) (hb : b = 0 ∨ b = 1) : IntKind.wrap .u64 (Int.ofNat (BitVec.toNat (BitVec.ofInt (IntKind.bits .u64) a ||| BitVec.ofInt (IntKind.bits .u64) b))) = a + b := by
  obtain ⟨A, rfl⟩ := Int.eq_ofNat_of_zero_le ha
  obtain ⟨B, rfl⟩ : ∃ B : Nat, b = B := by rcases hb with rfl | rfl; exact ⟨0, rfl⟩; exact ⟨1, rfl⟩
  have hB : B < 2 := by omega
  have hA : A < 18446744073709551616 := by omega
  have e : A = (A / 2) <<< 1 := by rw [Nat.shiftLeft_eq]; omega
  have h1 : (BitVec.ofInt 64 (A : Int) ||| BitVec.ofInt 64 (B : Int)).toNat = A + B := by
    rw [BitVec.toNat_or, BitVec.ofInt_natCast, BitVec.ofInt_natCast, BitVec.toNat_ofNat, BitVec.toNat_ofNat, Nat.mod_eq_of_lt (by omega), Nat.mod_eq_of_lt (by omega)]
    have := Nat.shiftLeft_add_eq_or_of_lt (i := 1) (b := B) (by omega) (A / 2)
    rw [← e] at this
    exact this.symm
  show IntKind.wrap .u64 (((BitVec.ofInt 64 (A : Int) ||| BitVec.ofInt 64 (B : Int)).toNat : Nat) : Int) = _
  rw [h1, wrap_u64']
  omega

/-- A word doubled, and the highest bit of another one. -/
theorem shl_or {a b : Int} (hb : u64 b) : IntKind.wrap .u64 (Int.ofNat (BitVec.toNat (BitVec.ofInt (IntKind.bits .u64) (IntKind.wrap .u64 (a * 2)) ||| BitVec.ofInt (IntKind.bits .u64) (Int.fdiv b 9223372036854775808)))) = 2 * a % 18446744073709551616 + b / 9223372036854775808 := by
  unfold u64 at hb
  have e : Int.fdiv b 9223372036854775808 = b / 9223372036854775808 := Int.fdiv_eq_ediv_of_nonneg _ (by decide)
  rw [e, or_bit (by rw [wrap_u64']; omega) (by rw [wrap_u64']; omega) (by rw [wrap_u64']; omega) (by omega), wrap_u64']
  omega
theorem shl_or0 {a : Int} : IntKind.wrap .u64 (Int.ofNat (BitVec.toNat (BitVec.ofInt (IntKind.bits .u64) (IntKind.wrap .u64 (a * 2)) ||| BitVec.ofInt (IntKind.bits .u64) (0 : Int)))) = 2 * a % 18446744073709551616 := by
  rw [or_bit (by rw [wrap_u64']; omega) (by rw [wrap_u64']; omega) (by rw [wrap_u64']; omega) (.inl rfl), wrap_u64']
  omega
/-- An even word, and 1 more. -/
theorem or_one {a : Int} (ha : u64 a) (he : a % 2 = 0) : IntKind.wrap .u64 (Int.ofNat (BitVec.toNat (BitVec.ofInt (IntKind.bits .u64) a ||| BitVec.ofInt (IntKind.bits .u64) (1 : Int)))) = a + 1 := or_bit ha.1 ha.2 he (.inr rfl)

def isCmp (h l p q : Int) (u : Value) : Prop := ∃ c : Int, u = .int .i64 c ∧ (c = -1 ∧ wV h l < wV p q ∨ c = 0 ∧ wV h l = wV p q ∨ c = 1 ∧ wV p q < wV h l)
def isSub (h l p q : Int) (u : Value) : Prop := ∃ x y c, u = .tuple #[wU x y, .int .u64 c] ∧ u64 x ∧ u64 y ∧ wV x y = (wV h l - wV p q) % 340282366920938463463374607431768211456
def isShl (h l p q : Int) (u : Value) : Prop := ∃ x y z w, u = .tuple #[wU x y, wU z w] ∧ u64 x ∧ u64 y ∧ u64 z ∧ u64 w ∧ w % 2 = 0 ∧ wV x y = (2 * wV h l + p / 9223372036854775808) % 340282366920938463463374607431768211456
theorem cmp_hk_tree (K : Value → Nat → Prop) (h l p q : Int) :
 funcK (envW rules0 []) 30 169 [wU h l, wU p q] [] Tryz.prog.globals.size (fun u _ _ mw => K u mw) =
 (bsel (decide (h < p)) (K (Value.int .i64 (Int.negSucc 0)) 18446744073709551616) (bsel (h == p) (bsel (decide (l < q)) (K (Value.int .i64 (Int.negSucc 0)) 18446744073709551616) (bsel (h == p && (l == q && true)) (K (Value.int .i64 (Int.ofNat 0)) 18446744073709551616) (K (Value.int .i64 (Int.ofNat 1)) 18446744073709551616))) (bsel (h == p && (l == q && true)) (K (Value.int .i64 (Int.ofNat 0)) 18446744073709551616) (K (Value.int .i64 (Int.ofNat 1)) 18446744073709551616)))) := by kernel_rfl
theorem cmp_hk (h l p q : Int) (h1 : u64 h) (h2 : u64 l) (h3 : u64 p) (h4 : u64 q) : ReckA (envW rules0 []) 30 169 [wU h l, wU p q] (isCmp h l p q) := by
  constructor
  rw [cmp_hk_tree fun u mw => (isCmp h l p q) u ∧ Tryz.prog.globals.size ≤ mw]
  unfold u64 at h1 h2 h3 h4
  repeat' (refine bsel_of (fun _ => ?_) (fun _ => ?_))
  all_goals simp only [Bool.and_true, Bool.and_eq_true, Bool.and_eq_false_iff, beq_iff_eq, beq_eq_false_iff_ne, ne_eq, decide_eq_true_eq, decide_eq_false_iff_not] at *
  all_goals first
    | exact ⟨⟨-1, rfl, .inl ⟨rfl, by unfold wV; omega⟩⟩, Nat.le_of_ble_eq_true (by kernel_rfl)⟩
    | exact ⟨⟨0, rfl, .inr (.inl ⟨rfl, by unfold wV; omega⟩)⟩, Nat.le_of_ble_eq_true (by kernel_rfl)⟩
    | exact ⟨⟨1, rfl, .inr (.inr ⟨rfl, by unfold wV; omega⟩)⟩, Nat.le_of_ble_eq_true (by kernel_rfl)⟩
    | (exfalso; omega)
theorem sub_hk_tree (K : Value → Nat → Prop) (h l p q : Int) :
 funcK (envW rules0 []) 30 171 [wU h l, wU p q] [] Tryz.prog.globals.size (fun u _ _ mw => K u mw) =
 (bsel (decide ((0 : Int) ≤ l) && decide (l < (18446744073709551616 : Int)) && decide ((0 : Int) ≤ q) && decide (q < (18446744073709551616 : Int)) && decide ((0 : Int) ≤ (0 : Int)) && decide ((0 : Int) ≤ (1 : Int))) (bsel (decide ((0 : Int) ≤ h) && decide (h < (18446744073709551616 : Int)) && decide ((0 : Int) ≤ p) && decide (p < (18446744073709551616 : Int)) && decide ((0 : Int) ≤ (match decide (l < q + (0 : Int)) with | true => (1 : Int) | false => (0 : Int))) && decide (((match decide (l < q + (0 : Int)) with | true => (1 : Int) | false => (0 : Int))) ≤ (1 : Int))) (K (Value.tuple (Array.mk [Value.agg (Array.mk [Value.int .u64 ((h - p - (match decide (l < q + (0 : Int)) with | true => (1 : Int) | false => (0 : Int))) % (18446744073709551616 : Int)), Value.int .u64 ((l - q - (0 : Int)) % (18446744073709551616 : Int))]), Value.int .u64 ((match decide (h < p + (match decide (l < q + (0 : Int)) with | true => (1 : Int) | false => (0 : Int))) with | true => (1 : Int) | false => (0 : Int)))])) 12) False) False) := by kernel_rfl
theorem sub_hk (h l p q : Int) (h1 : u64 h) (h2 : u64 l) (h3 : u64 p) (h4 : u64 q) : ReckA (envW rules0 []) 30 171 [wU h l, wU p q] (isSub h l p q) := by
  constructor
  rw [sub_hk_tree fun u mw => (isSub h l p q) u ∧ Tryz.prog.globals.size ≤ mw]
  unfold u64 at h1 h2 h3 h4
  unfold isSub
  by_cases hc : l < q + 0
  · simp only [hc, decide_true]
    refine bsel_of (fun _ => bsel_of (fun _ => ⟨⟨_, _, _, rfl, by unfold u64; omega, by unfold u64; omega, by unfold wV; omega⟩, Nat.le_of_ble_eq_true (by kernel_rfl)⟩) (fun hb => ?_)) (fun hb => ?_) <;> (exfalso; simp only [Bool.and_eq_false_iff, decide_eq_false_iff_not] at hb; omega)
  · simp only [hc, decide_false]
    refine bsel_of (fun _ => bsel_of (fun _ => ⟨⟨_, _, _, rfl, by unfold u64; omega, by unfold u64; omega, by unfold wV; omega⟩, Nat.le_of_ble_eq_true (by kernel_rfl)⟩) (fun hb => ?_)) (fun hb => ?_) <;> (exfalso; simp only [Bool.and_eq_false_iff, decide_eq_false_iff_not] at hb; omega)
theorem shl_hk_tree (K : Value → Nat → Prop) (h l p q : Int) :
 funcK (envW rules0 []) 30 170 [wU h l, wU p q, .int .u64 0] [] Tryz.prog.globals.size (fun u _ _ mw => K u mw) =
 (K (Value.tuple (Array.mk [Value.agg (Array.mk [Value.int .u64 (IntKind.wrap .u64 (Int.ofNat (BitVec.toNat (BitVec.ofInt (IntKind.bits IntKind.u64) (IntKind.wrap .u64 (h * (2 : Int))) ||| BitVec.ofInt (IntKind.bits IntKind.u64) (Int.fdiv l ((9223372036854775808 : Int))))))), Value.int .u64 (IntKind.wrap .u64 (Int.ofNat (BitVec.toNat (BitVec.ofInt (IntKind.bits IntKind.u64) (IntKind.wrap .u64 (l * (2 : Int))) ||| BitVec.ofInt (IntKind.bits IntKind.u64) (Int.fdiv p ((9223372036854775808 : Int)))))))]), Value.agg (Array.mk [Value.int .u64 (IntKind.wrap .u64 (Int.ofNat (BitVec.toNat (BitVec.ofInt (IntKind.bits IntKind.u64) (IntKind.wrap .u64 (p * (2 : Int))) ||| BitVec.ofInt (IntKind.bits IntKind.u64) (Int.fdiv q ((9223372036854775808 : Int))))))), Value.int .u64 (IntKind.wrap .u64 (Int.ofNat (BitVec.toNat (BitVec.ofInt (IntKind.bits IntKind.u64) (IntKind.wrap .u64 (q * (2 : Int))) ||| BitVec.ofInt (IntKind.bits IntKind.u64) (0 : Int)))))])])) 12) := by kernel_rfl
theorem shl_hk (h l p q : Int) (h1 : u64 h) (h2 : u64 l) (h3 : u64 p) (h4 : u64 q) : ReckA (envW rules0 []) 30 170 [wU h l, wU p q, .int .u64 0] (isShl h l p q) := by
  constructor
  rw [shl_hk_tree fun u mw => (isShl h l p q) u ∧ Tryz.prog.globals.size ≤ mw]
  rw [shl_or h2, shl_or h3, shl_or h4, shl_or0]
  unfold u64 at h1 h2 h3 h4
  refine ⟨⟨_, _, _, _, rfl, ?_, ?_, ?_, ?_, ?_, ?_⟩, Nat.le_of_ble_eq_true (by kernel_rfl)⟩ <;> first | (unfold u64; omega) | (unfold wV; omega) | omega

end Go.Proofs.YtdbjbmdaekgbhaaGreatDoor
