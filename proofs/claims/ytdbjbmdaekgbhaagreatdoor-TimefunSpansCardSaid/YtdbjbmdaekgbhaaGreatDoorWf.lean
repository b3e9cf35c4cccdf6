/-
  How many digits a number of 256 bits has.
-/
import Derived.Test.YtdbjbmdaekgbhaaGreatDoorWe
namespace Go.Proofs.YtdbjbmdaekgbhaaGreatDoor
open Go Go.Pe Go.RowKit

def i64 (x : Int) : Prop := -9223372036854775808 ≤ x ∧ x < 9223372036854775808
theorem i64_zero : i64 0 := ⟨by decide, by decide⟩
theorem i64_wrap (x : Int) : i64 (IntKind.wrap .i64 x) := by
  have h : IntKind.wrap .i64 x = if x % 18446744073709551616 ≥ 9223372036854775808 then x % 18446744073709551616 - 18446744073709551616 else x % 18446744073709551616 := by
    simp [IntKind.wrap, IntKind.bits, IntKind.signed]
  rw [h]
  unfold i64
  split <;> omega

structure DgS where
  (a b c d n : Int)
def dgL1 : LoopS DgS where
  fn := 218
  keys := [2, 3, 5]
  kv x := [ptr 10, ptr 11, .int .i64 x.n]
  hp x := [(11, blkU x.c x.d), (10, blkU x.a x.b)]
  lo := 12
  nx := 12
  mw := 10
  size := 33
def dgI (n : Nat) (x : DgS) : Prop := (u64 x.a ∧ u64 x.b ∧ u64 x.c ∧ u64 x.d) ∧ i64 x.n ∧ n = (wW x.a x.b x.c x.d).toNat
def dgI2 (n : Nat) (x : DgS) : Prop := (u64 x.a ∧ u64 x.b ∧ u64 x.c ∧ u64 x.d) ∧ i64 x.n ∧ n = (wV x.c x.d).toNat
def dgO (x : DgS) : Prop := (u64 x.a ∧ u64 x.b ∧ u64 x.c ∧ u64 x.d) ∧ i64 x.n

theorem dg1_tree (P : Exit → Bool → List Value → Heap → Nat → Nat → Nat → FuncId → List (FuncId × List Value) → Prop) (a b c d n : Int) :
    codeK (envW rulesWF []) (funcK (envW rulesWF []) 30) (loopOf Tryz.prog 218 2) (dgL1.st ⟨a, b, c, d, n⟩) (dgL1.look P) =
  ((u64 a ∧ u64 b) ∧ bsel (DgS.a (DgS.mk a b c d n) == (0 : Int) && DgS.b (DgS.mk a b c d n) == (0 : Int)) (P (Go.Exit.exit 0) Bool.true [Value.pointer (Option.some (Go.Addr.mk 10 0 Option.none)), Value.pointer (Option.some (Go.Addr.mk 11 0 Option.none)), Value.int IntKind.i64 n] [(11, Blk.mk [Option.some (Value.int IntKind.u64 c), Option.some (Value.int IntKind.u64 d)] 24 Bool.true 0 Option.none Bool.false), (10, Blk.mk [Option.some (Value.int IntKind.u64 a), Option.some (Value.int IntKind.u64 b)] 24 Bool.true 0 Option.none Bool.false)] 12 10 33 218 []) ((u64 a ∧ u64 b ∧ u64 c ∧ u64 d ∧ u64 (Int.ofNat 10000000000000000000) ∧ Int.ofNat 0 < Int.ofNat 10000000000000000000) ∧ ∀ (e f g h r : Int), u64 e → u64 f → u64 g → u64 h → u64 r → wW e f g h * Int.ofNat 10000000000000000000 + r = wW (DgS.a (DgS.mk a b c d n)) (DgS.b (DgS.mk a b c d n)) (DgS.c (DgS.mk a b c d n)) (DgS.d (DgS.mk a b c d n)) → P Go.Exit.normal Bool.true [Value.pointer (Option.some (Go.Addr.mk 10 0 Option.none)), Value.pointer (Option.some (Go.Addr.mk 11 0 Option.none)), Value.int IntKind.i64 (IntKind.wrap IntKind.i64 (DgS.n (DgS.mk a b c d n) + (19 : Int)))] [(11, Blk.mk [Option.some (Value.int IntKind.u64 g), Option.some (Value.int IntKind.u64 h)] 24 Bool.true 0 Option.none Bool.false), (10, Blk.mk [Option.some (Value.int IntKind.u64 e), Option.some (Value.int IntKind.u64 f)] 24 Bool.true 0 Option.none Bool.false)] 12 10 33 218 [])) := by kernel_rfl
theorem dg2_tree (P : Exit → Bool → List Value → Heap → Nat → Nat → Nat → FuncId → List (FuncId × List Value) → Prop) (a b c d n : Int) :
    codeK (envW rulesWF []) (funcK (envW rulesWF []) 30) (loopOf Tryz.prog 218 5) (dgL1.st ⟨a, b, c, d, n⟩) (dgL1.look P) =
  ((u64 c ∧ u64 d) ∧ bsel (DgS.c (DgS.mk a b c d n) == (0 : Int) && DgS.d (DgS.mk a b c d n) == (0 : Int)) (P (Go.Exit.exit 2) Bool.true [Value.pointer (Option.some (Go.Addr.mk 10 0 Option.none)), Value.pointer (Option.some (Go.Addr.mk 11 0 Option.none)), Value.int IntKind.i64 n] [(11, Blk.mk [Option.some (Value.int IntKind.u64 c), Option.some (Value.int IntKind.u64 d)] 24 Bool.true 0 Option.none Bool.false), (10, Blk.mk [Option.some (Value.int IntKind.u64 a), Option.some (Value.int IntKind.u64 b)] 24 Bool.true 0 Option.none Bool.false)] 12 10 33 218 []) ((u64 (Int.ofNat 0) ∧ u64 (Int.ofNat 0) ∧ u64 c ∧ u64 d ∧ u64 (Int.ofNat 10) ∧ Int.ofNat 0 < Int.ofNat 10) ∧ ∀ (e f g h r : Int), u64 e → u64 f → u64 g → u64 h → u64 r → wW e f g h * Int.ofNat 10 + r = wW (0 : Int) (0 : Int) (DgS.c (DgS.mk a b c d n)) (DgS.d (DgS.mk a b c d n)) → P Go.Exit.normal Bool.true [Value.pointer (Option.some (Go.Addr.mk 10 0 Option.none)), Value.pointer (Option.some (Go.Addr.mk 11 0 Option.none)), Value.int IntKind.i64 (IntKind.wrap IntKind.i64 (DgS.n (DgS.mk a b c d n) + (1 : Int)))] [(11, Blk.mk [Option.some (Value.int IntKind.u64 g), Option.some (Value.int IntKind.u64 h)] 24 Bool.true 0 Option.none Bool.false), (10, Blk.mk [Option.some (Value.int IntKind.u64 a), Option.some (Value.int IntKind.u64 b)] 24 Bool.true 0 Option.none Bool.false)] 12 10 33 218 [])) := by kernel_rfl

theorem dg1_round (n : Nat) (a b c d m : Int) (hI : dgI n ⟨a, b, c, d, m⟩) :
    Hush (codeK (envW rulesWF []) (funcK (envW rulesWF []) 30) (loopOf Tryz.prog 218 2) (dgL1.st ⟨a, b, c, d, m⟩) (dgL1.look (dgL1.To dgI dgO (fun _ => False) 0 n))) := by
  constructor
  rw [dg1_tree]
  obtain ⟨⟨h1, h2, h3, h4⟩, h5, hn⟩ := hI
  simp only at h1 h2 h3 h4 h5 hn
  refine ⟨⟨h1, h2⟩, bsel_of (fun hz => ?_) (fun hz => ?_)⟩
  · exact ⟨rfl, ⟨a, b, c, d, m⟩, ⟨⟨h1, h2, h3, h4⟩, h5⟩, LoopS.At.quick [] rfl rfl (by kernel_rfl) rfl (by kernel_rfl) rfl rfl rfl⟩
  · refine ⟨⟨h1, h2, h3, h4, u64_lit rfl, by decide⟩, fun e f g h r k1 k2 k3 k4 k5 k6 => ?_⟩
    have k6 : wW e f g h * 10000000000000000000 + r = wW a b c d := k6
    refine ⟨(wW e f g h).toNat, ⟨e, f, g, h, _⟩, ?_, ⟨⟨k1, k2, k3, k4⟩, i64_wrap _, rfl⟩, LoopS.At.quick [] rfl rfl (by kernel_rfl) rfl (by kernel_rfl) rfl rfl rfl⟩
    have hab : ¬ (a = 0 ∧ b = 0) := fun ⟨ha, hb⟩ => by simp [ha, hb] at hz
    unfold u64 at *
    unfold wW wV at *
    omega

theorem dg2_round (n : Nat) (a b c d m : Int) (hI : dgI2 n ⟨a, b, c, d, m⟩) :
    Hush (codeK (envW rulesWF []) (funcK (envW rulesWF []) 30) (loopOf Tryz.prog 218 5) (dgL1.st ⟨a, b, c, d, m⟩) (dgL1.look (dgL1.To dgI2 dgO (fun _ => False) 2 n))) := by
  constructor
  rw [dg2_tree]
  obtain ⟨⟨h1, h2, h3, h4⟩, h5, hn⟩ := hI
  simp only at h1 h2 h3 h4 h5 hn
  refine ⟨⟨h3, h4⟩, bsel_of (fun hz => ?_) (fun hz => ?_)⟩
  · exact ⟨rfl, ⟨a, b, c, d, m⟩, ⟨⟨h1, h2, h3, h4⟩, h5⟩, LoopS.At.quick [] rfl rfl (by kernel_rfl) rfl (by kernel_rfl) rfl rfl rfl⟩
  · refine ⟨⟨u64_lit rfl, u64_lit rfl, h3, h4, u64_lit rfl, by decide⟩, fun e f g h r k1 k2 k3 k4 k5 k6 => ?_⟩
    have k6 : wW e f g h * 10 + r = wW 0 0 c d := k6
    refine ⟨(wV g h).toNat, ⟨a, b, g, h, _⟩, ?_, ⟨⟨h1, h2, k3, k4⟩, i64_wrap _, rfl⟩, LoopS.At.quick [] rfl rfl (by kernel_rfl) rfl (by kernel_rfl) rfl rfl rfl⟩
    have hab : ¬ (c = 0 ∧ d = 0) := fun ⟨ha, hb⟩ => by simp [ha, hb] at hz
    unfold u64 at *
    unfold wW wV at *
    omega

theorem dg1_rounds : Rounds (envW rulesWF []) 30 (loopOf Tryz.prog 218 2) dgL1 dgI dgO (fun _ => False) 0 := ⟨fun n x hI => dg1_round n x.a x.b x.c x.d x.n hI⟩
theorem dg2_rounds : Rounds (envW rulesWF []) 30 (loopOf Tryz.prog 218 5) dgL1 dgI2 dgO (fun _ => False) 2 := ⟨fun n x hI => dg2_round n x.a x.b x.c x.d x.n hI⟩
def dgT1 : LoopW := fun c s K => loopT (loopOf Tryz.prog 218 2) dgL1 dgI dgO 0 c s K
def dgT2 : LoopW := fun c s K => loopT (loopOf Tryz.prog 218 5) dgL1 dgI2 dgO 2 c s K
def loopsF : List ((Nat × Nat) × LoopW) := [((218, 2), dgT1), ((218, 5), dgT2)]
theorem dgT1_ok {E : Env} (hP : E.P = Tryz.prog) (hW : E.weak = true) {base : World} : LoopOk E base dgT1 := fun c s K h =>
  loopT_ok (E := envW rulesWF []) hP hW (envW_ok (rulesWF_ok base)) (findL_ok (l := []) rfl fun _ h => nomatch h) (by kernel_rfl) (by kernel_rfl) dg1_rounds h
theorem dgT2_ok {E : Env} (hP : E.P = Tryz.prog) (hW : E.weak = true) {base : World} : LoopOk E base dgT2 := fun c s K h =>
  loopT_ok (E := envW rulesWF []) hP hW (envW_ok (rulesWF_ok base)) (findL_ok (l := []) rfl fun _ h => nomatch h) (by kernel_rfl) (by kernel_rfl) dg2_rounds h
theorem loopsF_ok {E : Env} (hP : E.P = Tryz.prog) (hW : E.weak = true) (base : World) : ∀ x ∈ loopsF, LoopOk E base x.2 := List.forall_mem_cons.2 ⟨dgT1_ok hP hW, List.forall_mem_cons.2 ⟨dgT2_ok hP hW, fun _ h => nomatch h⟩⟩
def isI64 (u : Value) : Prop := ∃ n, u = .int .i64 n ∧ i64 n
theorem digits_hk_tree (K : Value → Nat → Prop) (a b c d : Int) :
    funcK (envW rulesWF loopsF) 30 218 [wU a b, wU c d] [] Tryz.prog.globals.size (fun u _ _ mw => K u mw) =
  (Is (loopOf Go.Proofs.Tryz.prog 218 2) (loopOf Go.Proofs.Tryz.prog 218 2) ∧ ∃ (x : Nat), ∃ (x_1 : DgS), (dgI x x_1 ∧ Bool.true = Bool.true ∧ LoopS.At dgL1 x_1 Bool.true [Value.pointer (Option.some (Go.Addr.mk 10 0 Option.none)), Value.pointer (Option.some (Go.Addr.mk 11 0 Option.none)), Value.int IntKind.i64 (Int.ofNat 0)] [(11, Blk.mk [Option.some (Value.int IntKind.u64 c), Option.some (Value.int IntKind.u64 d)] 24 Bool.true 0 Option.none Bool.false), (10, Blk.mk [Option.some (Value.int IntKind.u64 a), Option.some (Value.int IntKind.u64 b)] 24 Bool.true 0 Option.none Bool.false)] 12 18446744073709551616 33 218 []) ∧ ∀ (a' : DgS), dgO a' → Is (loopOf Go.Proofs.Tryz.prog 218 5) (loopOf Go.Proofs.Tryz.prog 218 5) ∧ ∃ (x : Nat), ∃ (x_2 : DgS), (dgI2 x x_2 ∧ Bool.true = Bool.true ∧ LoopS.At dgL1 x_2 Bool.true [Value.pointer (Option.some (Go.Addr.mk 10 0 Option.none)), Value.pointer (Option.some (Go.Addr.mk 11 0 Option.none)), Value.int IntKind.i64 (DgS.n a')] [(11, Blk.mk [Option.some (Value.int IntKind.u64 (DgS.c a')), Option.some (Value.int IntKind.u64 (DgS.d a'))] 24 Bool.true 0 Option.none Bool.false), (10, Blk.mk [Option.some (Value.int IntKind.u64 (DgS.a a')), Option.some (Value.int IntKind.u64 (DgS.b a'))] 24 Bool.true 0 Option.none Bool.false)] 12 10 33 218 []) ∧ ∀ (a' : DgS), dgO a' → K (Value.int IntKind.i64 (DgS.n a')) 10) := by kernel_rfl
theorem digits_hk (a b c d : Int) (h1 : u64 a) (h2 : u64 b) (h3 : u64 c) (h4 : u64 d) : ReckA (envW rulesWF loopsF) 30 218 [wU a b, wU c d] (isI64) := by
  constructor
  rw [digits_hk_tree fun u mw => (isI64) u ∧ Tryz.prog.globals.size ≤ mw]
  refine ⟨⟨rfl⟩, _, ⟨a, b, c, d, 0⟩, ⟨⟨⟨h1, h2, h3, h4⟩, i64_zero, rfl⟩, by kernel_rfl, LoopS.At.quick [] rfl rfl (by kernel_rfl) rfl (by kernel_rfl) rfl rfl rfl⟩, fun ⟨a', b', c', d', n'⟩ ⟨⟨q1, q2, q3, q4⟩, q5⟩ => ⟨⟨rfl⟩, _, ⟨a', b', c', d', n'⟩, ⟨⟨⟨q1, q2, q3, q4⟩, q5, rfl⟩, by kernel_rfl, LoopS.At.quick [] rfl rfl (by kernel_rfl) rfl (by kernel_rfl) rfl rfl rfl⟩, fun ⟨_, _, _, _, n''⟩ ⟨_, q6⟩ => ⟨⟨_, rfl, q6⟩, Nat.le_refl _⟩⟩⟩

def ruleDigits : Rule := ruleA fun args => match args with
  | [.agg ⟨[.int .u64 a, .int .u64 b]⟩, .agg ⟨[.int .u64 c, .int .u64 d]⟩] => some fun K => (u64 a ∧ u64 b ∧ u64 c ∧ u64 d) ∧ ∀ n, i64 n → K (.int .i64 n)
  | _ => none
theorem digits_ok {base : World} : RuleOk Tryz.prog base 218 ruleDigits := ruleOkA fun args T K hT hK => by
  split at hT
  · cases hT
    obtain ⟨⟨h1, h2, h3, h4⟩, hK⟩ := hK
    obtain ⟨v, ⟨n, rfl, k1⟩, ht⟩ := totA_of (envW_ok (rulesWF_ok base)) (findL_ok rfl (loopsF_ok rfl rfl base)) rfl (digits_hk _ _ _ _ h1 h2 h3 h4) (fun v ⟨_, hv, _⟩ => by subst hv; kernel_rfl) (List.forall_mem_cons.2 ⟨by kernel_rfl, List.forall_mem_cons.2 ⟨by kernel_rfl, fun _ h => nomatch h⟩⟩)
    exact ⟨_, hK n k1, ht⟩
  · cases hT

end Go.Proofs.YtdbjbmdaekgbhaaGreatDoor
