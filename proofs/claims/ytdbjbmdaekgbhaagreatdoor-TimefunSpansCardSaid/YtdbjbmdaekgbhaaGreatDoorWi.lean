/-
  How many digits a number of 128 bits has; powers of ten; products.
-/
import Derived.Test.YtdbjbmdaekgbhaaGreatDoorWh
namespace Go.Proofs.YtdbjbmdaekgbhaaGreatDoor
open Go Go.Pe Go.RowKit

/-! Digits, where there is no high half: at most 39 -/

def dzI (c d : Int) (n : Nat) (x : DgS) : Prop := x.a = 0 ∧ x.b = 0 ∧ x.c = c ∧ x.d = d ∧ x.n = 0 ∧ u64 c ∧ u64 d ∧ n = 0
def dzO (c d : Int) (x : DgS) : Prop := x.a = 0 ∧ x.b = 0 ∧ x.c = c ∧ x.d = d ∧ x.n = 0
def dzI2 (n : Nat) (x : DgS) : Prop := (u64 x.a ∧ u64 x.b ∧ u64 x.c ∧ u64 x.d) ∧ (∃ k : Nat, k ≤ 39 ∧ x.n = 39 - (k : Int) ∧ wV x.c x.d < 10 ^ k) ∧ n = (wV x.c x.d).toNat
def dzO2 (x : DgS) : Prop := 0 ≤ x.n ∧ x.n ≤ 39

theorem dz1_round (c0 d0 : Int) (n : Nat) (a b c d m : Int) (hI : dzI c0 d0 n ⟨a, b, c, d, m⟩) :
    Hush (codeK (envW rulesWF []) (funcK (envW rulesWF []) 30) (loopOf Tryz.prog 218 2) (dgL1.st ⟨a, b, c, d, m⟩) (dgL1.look (dgL1.To (dzI c0 d0) (dzO c0 d0) (fun _ => False) 0 n))) := by
  constructor
  rw [dg1_tree]
  obtain ⟨h1, h2, h3, h4, h5, h6, h7, hn⟩ := hI
  simp only at h1 h2 h3 h4 h5
  subst h1 h2 h3 h4 h5
  exact ⟨⟨u64_lit rfl, u64_lit rfl⟩, bsel_of (fun _ => ⟨rfl, ⟨0, 0, c, d, 0⟩, ⟨rfl, rfl, rfl, rfl, rfl⟩, LoopS.At.quick [] rfl rfl (by kernel_rfl) rfl (by kernel_rfl) rfl rfl rfl⟩) (fun h => absurd h (by simp))⟩

theorem ten_step {k : Nat} {v w r : Int} (h : v < 10 ^ k) (hv : 0 < v) (e : w * 10 + r = v) (hr : 0 ≤ r) (hw : 0 ≤ w) : ∃ j : Nat, k = j + 1 ∧ w < 10 ^ j := by
  cases k with
  | zero => rw [Int.pow_zero] at h; omega
  | succ j =>
    rw [Int.pow_succ] at h
    exact ⟨j, rfl, by omega⟩

theorem dz2_round (n : Nat) (a b c d m : Int) (hI : dzI2 n ⟨a, b, c, d, m⟩) :
    Hush (codeK (envW rulesWF []) (funcK (envW rulesWF []) 30) (loopOf Tryz.prog 218 5) (dgL1.st ⟨a, b, c, d, m⟩) (dgL1.look (dgL1.To dzI2 dzO2 (fun _ => False) 2 n))) := by
  constructor
  rw [dg2_tree]
  obtain ⟨⟨h1, h2, h3, h4⟩, ⟨k, hk, h5, h6⟩, hn⟩ := hI
  simp only at h1 h2 h3 h4 h5 h6 hn
  refine ⟨⟨h3, h4⟩, bsel_of (fun hz => ?_) (fun hz => ?_)⟩
  · exact ⟨rfl, ⟨a, b, c, d, m⟩, ⟨by show 0 ≤ m; omega, by show m ≤ 39; omega⟩, LoopS.At.quick [] rfl rfl (by kernel_rfl) rfl (by kernel_rfl) rfl rfl rfl⟩
  · refine ⟨⟨u64_lit rfl, u64_lit rfl, h3, h4, u64_lit rfl, by decide⟩, fun e f g h r k1 k2 k3 k4 k5 k6 => ?_⟩
    have k6 : wW e f g h * 10 + r = wW 0 0 c d := k6
    have hab : ¬ (c = 0 ∧ d = 0) := fun ⟨ha, hb⟩ => by simp [ha, hb] at hz
    have hv : 0 < wV c d := by
      unfold u64 at *
      unfold wV
      omega
    have e0 : wW 0 0 c d = wV c d := by
      unfold wW wV
      omega
    rw [e0] at k6
    have hle : wV g h ≤ wW e f g h := by
      unfold u64 at *
      unfold wW wV
      omega
    have hr : 0 ≤ r := k5.1
    have hq : 0 ≤ wV g h := by
      unfold u64 at *
      unfold wV
      omega
    obtain ⟨j, hj, hw⟩ := ten_step h6 hv k6 hr (Int.le_trans hq hle)
    have hm : IntKind.wrap .i64 (m + 1) = 39 - (j : Int) := by
      rw [wrap_i64r (by unfold i64; omega)]
      omega
    have hlt : (wV g h).toNat < n := by omega
    refine ⟨(wV g h).toNat, ⟨a, b, g, h, IntKind.wrap .i64 (m + 1)⟩, hlt, ⟨⟨h1, h2, k3, k4⟩, ⟨j, by omega, hm, Int.lt_of_le_of_lt hle hw⟩, rfl⟩, LoopS.At.quick [] rfl rfl (by kernel_rfl) rfl (by kernel_rfl) rfl rfl rfl⟩

theorem dz1_rounds (c d : Int) : Rounds (envW rulesWF []) 30 (loopOf Tryz.prog 218 2) dgL1 (dzI c d) (dzO c d) (fun _ => False) 0 := ⟨fun n x hI => dz1_round c d n x.a x.b x.c x.d x.n hI⟩
theorem dz2_rounds : Rounds (envW rulesWF []) 30 (loopOf Tryz.prog 218 5) dgL1 dzI2 dzO2 (fun _ => False) 2 := ⟨fun n x hI => dz2_round n x.a x.b x.c x.d x.n hI⟩
def dzT1 : LoopW := fun c s K => ∃ x y, loopT (loopOf Tryz.prog 218 2) dgL1 (dzI x y) (dzO x y) 0 c s K
def dzT2 : LoopW := fun c s K => loopT (loopOf Tryz.prog 218 5) dgL1 dzI2 dzO2 2 c s K
def loopsZ : List ((Nat × Nat) × LoopW) := [((218, 2), dzT1), ((218, 5), dzT2)]
theorem dzT1_ok {E : Env} (hP : E.P = Tryz.prog) (hW : E.weak = true) {base : World} : LoopOk E base dzT1 := fun c s K ⟨x, y, h⟩ =>
  loopT_ok (E := envW rulesWF []) hP hW (envW_ok (rulesWF_ok base)) (findL_ok (l := []) rfl fun _ h => nomatch h) (by kernel_rfl) (by kernel_rfl) (dz1_rounds x y) h
theorem dzT2_ok {E : Env} (hP : E.P = Tryz.prog) (hW : E.weak = true) {base : World} : LoopOk E base dzT2 := fun c s K h =>
  loopT_ok (E := envW rulesWF []) hP hW (envW_ok (rulesWF_ok base)) (findL_ok (l := []) rfl fun _ h => nomatch h) (by kernel_rfl) (by kernel_rfl) dz2_rounds h
theorem loopsZ_ok {E : Env} (hP : E.P = Tryz.prog) (hW : E.weak = true) (base : World) : ∀ x ∈ loopsZ, LoopOk E base x.2 := List.forall_mem_cons.2 ⟨dzT1_ok hP hW, List.forall_mem_cons.2 ⟨dzT2_ok hP hW, fun _ h => nomatch h⟩⟩
theorem v_top {c d : Int} (h1 : u64 c) (h2 : u64 d) : wV c d < 10 ^ 39 := by
  unfold u64 at *
  unfold wV
  omega
def isDz (u : Value) : Prop := ∃ n, u = .int .i64 n ∧ 0 ≤ n ∧ n ≤ 39
theorem digits0_hk_tree (K : Value → Nat → Prop) (c d : Int) :
    funcK (envW rulesWF loopsZ) 30 218 [wU 0 0, wU c d] [] Tryz.prog.globals.size (fun u _ _ mw => K u mw) =
  (∃ (x : Int), ∃ (x_1 : Int), Is (loopOf Go.Proofs.Tryz.prog 218 2) (loopOf Go.Proofs.Tryz.prog 218 2) ∧ ∃ (x_2 : Nat), ∃ (x_3 : DgS), (dzI x x_1 x_2 x_3 ∧ Bool.true = Bool.true ∧ LoopS.At dgL1 x_3 Bool.true [Value.pointer (Option.some (Go.Addr.mk 10 0 Option.none)), Value.pointer (Option.some (Go.Addr.mk 11 0 Option.none)), Value.int IntKind.i64 (Int.ofNat 0)] [(11, Blk.mk [Option.some (Value.int IntKind.u64 c), Option.some (Value.int IntKind.u64 d)] 24 Bool.true 0 Option.none Bool.false), (10, Blk.mk [Option.some (Value.int IntKind.u64 (Int.ofNat 0)), Option.some (Value.int IntKind.u64 (Int.ofNat 0))] 24 Bool.true 0 Option.none Bool.false)] 12 18446744073709551616 33 218 []) ∧ ∀ (a' : DgS), dzO x x_1 a' → Is (loopOf Go.Proofs.Tryz.prog 218 5) (loopOf Go.Proofs.Tryz.prog 218 5) ∧ ∃ (x : Nat), ∃ (x_4 : DgS), (dzI2 x x_4 ∧ Bool.true = Bool.true ∧ LoopS.At dgL1 x_4 Bool.true [Value.pointer (Option.some (Go.Addr.mk 10 0 Option.none)), Value.pointer (Option.some (Go.Addr.mk 11 0 Option.none)), Value.int IntKind.i64 (DgS.n a')] [(11, Blk.mk [Option.some (Value.int IntKind.u64 (DgS.c a')), Option.some (Value.int IntKind.u64 (DgS.d a'))] 24 Bool.true 0 Option.none Bool.false), (10, Blk.mk [Option.some (Value.int IntKind.u64 (DgS.a a')), Option.some (Value.int IntKind.u64 (DgS.b a'))] 24 Bool.true 0 Option.none Bool.false)] 12 10 33 218 []) ∧ ∀ (a' : DgS), dzO2 a' → K (Value.int IntKind.i64 (DgS.n a')) 10) := by kernel_rfl
theorem digits0_hk (c d : Int) (h3 : u64 c) (h4 : u64 d) : ReckA (envW rulesWF loopsZ) 30 218 [wU 0 0, wU c d] (isDz) := by
  constructor
  rw [digits0_hk_tree fun u mw => (isDz) u ∧ Tryz.prog.globals.size ≤ mw]
  refine ⟨c, d, ⟨rfl⟩, 0, ⟨0, 0, c, d, 0⟩, ⟨⟨rfl, rfl, rfl, rfl, rfl, h3, h4, rfl⟩, by kernel_rfl, LoopS.At.quick [] rfl rfl (by kernel_rfl) rfl (by kernel_rfl) rfl rfl rfl⟩, fun ⟨a', b', c', d', n'⟩ ⟨q1, q2, q3, q4, q5⟩ => ?_⟩
  simp only at q1 q2 q3 q4 q5
  subst q1 q2 q3 q4 q5
  exact ⟨⟨rfl⟩, _, ⟨0, 0, c', d', 0⟩, ⟨⟨⟨u64_lit rfl, u64_lit rfl, h3, h4⟩, ⟨39, Nat.le_refl _, rfl, v_top h3 h4⟩, rfl⟩, by kernel_rfl, LoopS.At.quick [] rfl rfl (by kernel_rfl) rfl (by kernel_rfl) rfl rfl rfl⟩, fun ⟨_, _, _, _, n''⟩ ⟨q6, q7⟩ => ⟨⟨_, rfl, q6, q7⟩, Nat.le_refl _⟩⟩

/-- The rule, with the bound where there is no high half. -/
def ruleDigitsZ : Rule := ruleA fun args => match args with
  | [.agg ⟨[.int .u64 a, .int .u64 b]⟩, .agg ⟨[.int .u64 c, .int .u64 d]⟩] => some fun K => (a = 0 ∧ b = 0 ∧ u64 c ∧ u64 d) ∧ ∀ n, 0 ≤ n → n ≤ 39 → K (.int .i64 n)
  | _ => none
theorem digitsZ_ok {base : World} : RuleOk Tryz.prog base 218 ruleDigitsZ := ruleOkA fun args T K hT hK => by
  split at hT
  · cases hT
    obtain ⟨⟨rfl, rfl, h3, h4⟩, hK⟩ := hK
    obtain ⟨v, ⟨n, rfl, k1, k2⟩, ht⟩ := totA_of (envW_ok (rulesWF_ok base)) (findL_ok rfl (loopsZ_ok rfl rfl base)) rfl (digits0_hk _ _ h3 h4) (fun v ⟨_, hv, _⟩ => by subst hv; kernel_rfl) (List.forall_mem_cons.2 ⟨by kernel_rfl, List.forall_mem_cons.2 ⟨by kernel_rfl, fun _ h => nomatch h⟩⟩)
    exact ⟨_, hK n k1 k2, ht⟩
  · cases hT

/-! Powers of ten -/

structure TenS where
  (k i a b : Int)
def tenL : LoopS TenS where
  fn := 86
  keys := [2, 4, 13, 14]
  kv x := [ptr 10, ptr 12, .int .i64 x.k, .int .i64 x.i]
  hp x := [(12, blkU x.a x.b), (10, blkU 0 0)]
  lo := 13
  nx := 13
  mw := 10
  size := 23
theorem ten_tree (P : Exit → Bool → List Value → Heap → Nat → Nat → Nat → FuncId → List (FuncId × List Value) → Prop) (k i a b : Int) :
    codeK (envW rulesWF []) (funcK (envW rulesWF []) 30) (loopOf Tryz.prog 86 5) (tenL.st ⟨k, i, a, b⟩) (tenL.look P) =
  (bsel (decide (TenS.i (TenS.mk k i a b) < TenS.k (TenS.mk k i a b))) ((u64 a ∧ u64 b ∧ u64 (Int.ofNat 10)) ∧ ∀ (x y z : Int), u64 x → u64 y → u64 z → P Go.Exit.normal Bool.true [Value.pointer (Option.some (Go.Addr.mk 10 0 Option.none)), Value.pointer (Option.some (Go.Addr.mk 12 0 Option.none)), Value.int IntKind.i64 k, Value.int IntKind.i64 (IntKind.wrap IntKind.i64 (TenS.i (TenS.mk k i a b) + (1 : Int)))] [(12, Blk.mk [Option.some (Value.int IntKind.u64 y), Option.some (Value.int IntKind.u64 z)] 24 Bool.true 0 Option.none Bool.false), (10, Blk.mk [Option.some (Value.int IntKind.u64 (Int.ofNat 0)), Option.some (Value.int IntKind.u64 (Int.ofNat 0))] 24 Bool.true 0 Option.none Bool.false)] 13 10 23 86 []) (P (Go.Exit.exit 0) Bool.true [Value.pointer (Option.some (Go.Addr.mk 10 0 Option.none)), Value.pointer (Option.some (Go.Addr.mk 12 0 Option.none)), Value.int IntKind.i64 k, Value.int IntKind.i64 i] [(12, Blk.mk [Option.some (Value.int IntKind.u64 a), Option.some (Value.int IntKind.u64 b)] 24 Bool.true 0 Option.none Bool.false), (10, Blk.mk [Option.some (Value.int IntKind.u64 (Int.ofNat 0)), Option.some (Value.int IntKind.u64 (Int.ofNat 0))] 24 Bool.true 0 Option.none Bool.false)] 13 10 23 86 [])) := by kernel_rfl
def tenI (n : Nat) (x : TenS) : Prop := (u64 x.a ∧ u64 x.b) ∧ 0 ≤ x.i ∧ x.k ≤ 38 ∧ n = (x.k - x.i).toNat
def tenO (x : TenS) : Prop := u64 x.a ∧ u64 x.b
def tenT : LoopW := fun c s K => loopT (loopOf Tryz.prog 86 5) tenL tenI tenO 0 c s K
def loopsT : List ((Nat × Nat) × LoopW) := [((86, 5), tenT)]
theorem ten_round (n : Nat) (k i a b : Int) (hI : tenI n ⟨k, i, a, b⟩) :
    Hush (codeK (envW rulesWF []) (funcK (envW rulesWF []) 30) (loopOf Tryz.prog 86 5) (tenL.st ⟨k, i, a, b⟩) (tenL.look (tenL.To tenI tenO (fun _ => False) 0 n))) := by
  constructor
  rw [ten_tree]
  obtain ⟨⟨h1, h2⟩, h3, h4, hn⟩ := hI
  simp only at h1 h2 h3 h4 hn
  refine bsel_of (fun hlt => ⟨⟨h1, h2, u64_lit rfl⟩, fun x y z _ k2 k3 => ?_⟩) (fun _ => ?_)
  · have hlt : i < k := of_decide_eq_true hlt
    have hw : IntKind.wrap .i64 (i + 1) = i + 1 := wrap_i64r (by unfold i64; omega)
    have h0 : 0 ≤ IntKind.wrap .i64 (i + 1) := by
      rw [hw]
      omega
    have hl : (k - IntKind.wrap .i64 (i + 1)).toNat < n := by
      rw [hw]
      omega
    exact ⟨_, ⟨k, IntKind.wrap .i64 (i + 1), y, z⟩, hl, ⟨⟨k2, k3⟩, h0, h4, rfl⟩, LoopS.At.quick [] rfl rfl (by kernel_rfl) rfl (by kernel_rfl) rfl rfl rfl⟩
  · exact ⟨rfl, ⟨k, i, a, b⟩, ⟨h1, h2⟩, LoopS.At.quick [] rfl rfl (by kernel_rfl) rfl (by kernel_rfl) rfl rfl rfl⟩
theorem ten_rounds : Rounds (envW rulesWF []) 30 (loopOf Tryz.prog 86 5) tenL tenI tenO (fun _ => False) 0 := ⟨fun n x hI => ten_round n x.k x.i x.a x.b hI⟩
theorem tenT_ok {E : Env} (hP : E.P = Tryz.prog) (hW : E.weak = true) {base : World} : LoopOk E base tenT := fun c s K h =>
  loopT_ok (E := envW rulesWF []) hP hW (envW_ok (rulesWF_ok base)) (findL_ok (l := []) rfl fun _ h => nomatch h) (by kernel_rfl) (by kernel_rfl) ten_rounds h
theorem loopsT_ok {E : Env} (hP : E.P = Tryz.prog) (hW : E.weak = true) (base : World) : ∀ x ∈ loopsT, LoopOk E base x.2 := List.forall_mem_cons.2 ⟨tenT_ok hP hW, fun _ h => nomatch h⟩
def isTen (u : Value) : Prop := ∃ a b ok, u = .tuple #[wU a b, .bool ok] ∧ u64 a ∧ u64 b
theorem ten_hk_tree (K : Value → Nat → Prop) (k : Int) :
    funcK (envW rulesWF loopsT) 30 86 [.int .i64 k] [] Tryz.prog.globals.size (fun u _ _ mw => K u mw) =
  (bsel (decide (k < (0 : Int))) (K (Value.tuple (Array.mk [Value.agg (Array.mk [Value.int IntKind.u64 (Int.ofNat 0), Value.int IntKind.u64 (Int.ofNat 0)]), Value.bool Bool.false])) 10) (bsel (decide (k > (38 : Int))) (K (Value.tuple (Array.mk [Value.agg (Array.mk [Value.int IntKind.u64 (Int.ofNat 0), Value.int IntKind.u64 (Int.ofNat 0)]), Value.bool Bool.false])) 10) (Is (loopOf Go.Proofs.Tryz.prog 86 5) (loopOf Go.Proofs.Tryz.prog 86 5) ∧ ∃ (x : Nat), ∃ (x_1 : TenS), (tenI x x_1 ∧ Bool.true = Bool.true ∧ LoopS.At tenL x_1 Bool.true [Value.pointer (Option.some (Go.Addr.mk 10 0 Option.none)), Value.pointer (Option.some (Go.Addr.mk 12 0 Option.none)), Value.int IntKind.i64 k, Value.int IntKind.i64 (Int.ofNat 0)] [(12, Blk.mk [Option.some (Value.int IntKind.u64 (Int.ofNat 0)), Option.some (Value.int IntKind.u64 (Int.ofNat 1))] 24 Bool.true 0 Option.none Bool.false), (10, Blk.mk [Option.some (Value.int IntKind.u64 (Int.ofNat 0)), Option.some (Value.int IntKind.u64 (Int.ofNat 0))] 24 Bool.true 0 Option.none Bool.false)] 13 11 23 86 []) ∧ ∀ (a' : TenS), tenO a' → K (Value.tuple (Array.mk [Value.agg (Array.mk [Value.int IntKind.u64 (TenS.a a'), Value.int IntKind.u64 (TenS.b a')]), Value.bool Bool.true])) 10))) := by kernel_rfl
theorem ten_hk (k : Int) (h1 : i64 k) : ReckA (envW rulesWF loopsT) 30 86 [.int .i64 k] (isTen) := by
  constructor
  rw [ten_hk_tree fun u mw => (isTen) u ∧ Tryz.prog.globals.size ≤ mw]
  refine bsel_of (fun _ => ⟨⟨_, _, _, rfl, u64_lit rfl, u64_lit rfl⟩, Nat.le_of_ble_eq_true (by kernel_rfl)⟩) (fun _ => bsel_of (fun _ => ⟨⟨_, _, _, rfl, u64_lit rfl, u64_lit rfl⟩, Nat.le_of_ble_eq_true (by kernel_rfl)⟩) (fun hk => ?_))
  have hk : ¬ k > 38 := of_decide_eq_false hk
  exact ⟨⟨rfl⟩, _, ⟨k, 0, 0, 1⟩, ⟨⟨⟨u64_lit rfl, u64_lit rfl⟩, Int.le_refl _, by show k ≤ 38; omega, rfl⟩, by kernel_rfl, LoopS.At.quick [] rfl rfl (by kernel_rfl) rfl (by kernel_rfl) rfl rfl rfl⟩, fun ⟨_, _, a', b'⟩ ⟨q1, q2⟩ => ⟨⟨_, _, _, rfl, q1, q2⟩, Nat.le_of_ble_eq_true (by kernel_rfl)⟩⟩

def ruleTen : Rule := ruleA fun args => match args with
  | [.int .i64 k] => some fun K => i64 k ∧ ∀ a b ok, u64 a → u64 b → K (.tuple #[wU a b, .bool ok])
  | _ => none
theorem ten_ok {base : World} : RuleOk Tryz.prog base 86 ruleTen := ruleOkA fun args T K hT hK => by
  split at hT
  · cases hT
    obtain ⟨h1, hK⟩ := hK
    obtain ⟨v, ⟨a, b, ok, rfl, k1, k2⟩, ht⟩ := totA_of (envW_ok (rulesWF_ok base)) (findL_ok rfl (loopsT_ok rfl rfl base)) rfl (ten_hk _ h1) (fun v ⟨_, _, _, hv, _⟩ => by subst hv; kernel_rfl) (List.forall_mem_cons.2 ⟨by kernel_rfl, fun _ h => nomatch h⟩)
    exact ⟨_, hK a b ok k1 k2, ht⟩
  · cases hT

/-- The rules so far. -/
def rulesJ : List (Nat × Rule) := (177, ruleFit) :: (86, ruleTen) :: (219, ruleCut) :: (218, ruleDigitsZ) :: rulesWF
theorem rulesJ_ok (base : World) : ∀ x ∈ rulesJ, RuleOk Tryz.prog base x.1 x.2 := List.forall_mem_cons.2 ⟨fit_ok, List.forall_mem_cons.2 ⟨ten_ok, List.forall_mem_cons.2 ⟨cut_ok, List.forall_mem_cons.2 ⟨digitsZ_ok, rulesWF_ok base⟩⟩⟩⟩

theorem dmul_hk_tree (K : Value → Nat → Prop) (n m : Bool) (a b e c d f : Int) :
    funcK (envK 6 rulesJ []) 30 98 [decC n a b e, decC m c d f] [] Tryz.prog.globals.size (fun u _ _ mw => K u mw) =
  ((u64 a ∧ u64 b ∧ u64 c ∧ u64 d) ∧ ∀ (x y z w : Int), u64 x → u64 y → u64 z → u64 w → bsel n (bsel m ((u64 x ∧ u64 y ∧ u64 z ∧ u64 w ∧ i64 (IntKind.wrap IntKind.i64 (e + f))) ∧ ∀ (n' : Bool) (a' b' e' : Int) (ok : Bool), u64 a' → u64 b' → i64 e' → bsel ok (K (Value.tuple (Array.mk [Value.agg (Array.mk [Value.bool n', Value.int IntKind.u64 a', Value.int IntKind.u64 b', Value.int IntKind.i64 e']), Value.bool Bool.true])) 12) (K (Value.tuple (Array.mk [Value.agg (Array.mk [Value.bool n', Value.int IntKind.u64 a', Value.int IntKind.u64 b', Value.int IntKind.i64 e']), Value.bool Bool.false])) 12)) ((u64 x ∧ u64 y ∧ u64 z ∧ u64 w ∧ i64 (IntKind.wrap IntKind.i64 (e + f))) ∧ ∀ (n' : Bool) (a' b' e' : Int) (ok : Bool), u64 a' → u64 b' → i64 e' → bsel ok (K (Value.tuple (Array.mk [Value.agg (Array.mk [Value.bool n', Value.int IntKind.u64 a', Value.int IntKind.u64 b', Value.int IntKind.i64 e']), Value.bool Bool.true])) 12) (K (Value.tuple (Array.mk [Value.agg (Array.mk [Value.bool n', Value.int IntKind.u64 a', Value.int IntKind.u64 b', Value.int IntKind.i64 e']), Value.bool Bool.false])) 12))) (bsel m ((u64 x ∧ u64 y ∧ u64 z ∧ u64 w ∧ i64 (IntKind.wrap IntKind.i64 (e + f))) ∧ ∀ (n' : Bool) (a' b' e' : Int) (ok : Bool), u64 a' → u64 b' → i64 e' → bsel ok (K (Value.tuple (Array.mk [Value.agg (Array.mk [Value.bool n', Value.int IntKind.u64 a', Value.int IntKind.u64 b', Value.int IntKind.i64 e']), Value.bool Bool.true])) 12) (K (Value.tuple (Array.mk [Value.agg (Array.mk [Value.bool n', Value.int IntKind.u64 a', Value.int IntKind.u64 b', Value.int IntKind.i64 e']), Value.bool Bool.false])) 12)) ((u64 x ∧ u64 y ∧ u64 z ∧ u64 w ∧ i64 (IntKind.wrap IntKind.i64 (e + f))) ∧ ∀ (n' : Bool) (a' b' e' : Int) (ok : Bool), u64 a' → u64 b' → i64 e' → bsel ok (K (Value.tuple (Array.mk [Value.agg (Array.mk [Value.bool n', Value.int IntKind.u64 a', Value.int IntKind.u64 b', Value.int IntKind.i64 e']), Value.bool Bool.true])) 12) (K (Value.tuple (Array.mk [Value.agg (Array.mk [Value.bool n', Value.int IntKind.u64 a', Value.int IntKind.u64 b', Value.int IntKind.i64 e']), Value.bool Bool.false])) 12)))) := by kernel_rfl
theorem dmul_hk (n m : Bool) (a b e c d f : Int) (h1 : u64 a) (h2 : u64 b) (h3 : i64 e) (h4 : u64 c) (h5 : u64 d) (h6 : i64 f) : ReckA (envK 6 rulesJ []) 30 98 [decC n a b e, decC m c d f] (isFit) := by
  constructor
  rw [dmul_hk_tree fun u mw => (isFit) u ∧ Tryz.prog.globals.size ≤ mw]
  refine ⟨⟨h1, h2, h4, h5⟩, fun x y z w k1 k2 k3 k4 => ?_⟩
  repeat' (first | exact ⟨⟨k1, k2, k3, k4, i64_wrap _⟩, fun n' a' b' e' ok q1 q2 q3 => bsel_of (fun _ => ⟨⟨_, _, _, _, _, rfl, q1, q2, q3⟩, Nat.le_of_ble_eq_true (by kernel_rfl)⟩) (fun _ => ⟨⟨_, _, _, _, _, rfl, q1, q2, q3⟩, Nat.le_of_ble_eq_true (by kernel_rfl)⟩)⟩ | refine bsel_of (fun _ => ?_) (fun _ => ?_))
end Go.Proofs.YtdbjbmdaekgbhaaGreatDoor
