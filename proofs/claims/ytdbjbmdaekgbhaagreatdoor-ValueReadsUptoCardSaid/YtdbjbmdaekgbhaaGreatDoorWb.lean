/-
  Numbers of 256 bits by one of 128.
-/
import Derived.Test.YtdbjbmdaekgbhaaGreatDoorWa
namespace Go.Proofs.YtdbjbmdaekgbhaaGreatDoor
open Go Go.Pe Go.RowKit

def ruleCmp : Rule := ruleA fun args => match args with
  | [.agg ⟨[.int .u64 h, .int .u64 l]⟩, .agg ⟨[.int .u64 p, .int .u64 q]⟩] => some fun K => (u64 h ∧ u64 l ∧ u64 p ∧ u64 q) ∧ ∀ c : Int, (c = -1 ∧ wV h l < wV p q ∨ c = 0 ∧ wV h l = wV p q ∨ c = 1 ∧ wV p q < wV h l) → K (.int .i64 c)
  | _ => none
def ruleWSub : Rule := ruleA fun args => match args with
  | [.agg ⟨[.int .u64 h, .int .u64 l]⟩, .agg ⟨[.int .u64 p, .int .u64 q]⟩] => some fun K => (u64 h ∧ u64 l ∧ u64 p ∧ u64 q) ∧ ∀ x y c : Int, u64 x → u64 y → wV x y = (wV h l - wV p q) % 340282366920938463463374607431768211456 → K (.tuple #[wU x y, .int .u64 c])
  | _ => none
def ruleShl : Rule := ruleA fun args => match args with
  | [.agg ⟨[.int .u64 h, .int .u64 l]⟩, .agg ⟨[.int .u64 p, .int .u64 q]⟩, .int .u64 z] => some fun K => (z = 0 ∧ u64 h ∧ u64 l ∧ u64 p ∧ u64 q) ∧ ∀ x y z w : Int, u64 x → u64 y → u64 z → u64 w → w % 2 = 0 → wV x y = (2 * wV h l + p / 9223372036854775808) % 340282366920938463463374607431768211456 → K (.tuple #[wU x y, wU z w])
  | _ => none
def rulesW1 : List (Nat × Rule) := (169, ruleCmp) :: (171, ruleWSub) :: (170, ruleShl) :: rules0

/-- What stands in the division's loop: the rest, the quotient, the divisor, the round; what was handed over. -/
structure DivS where
  (a b c d e f k p q r s : Int)
def cel (h l : Int) : List (Option Value) := [some (.int .u64 h), some (.int .u64 l)]
def blkU (h l : Int) : Blk := { cells := cel h l, elem := 24, own := true, room := 0, iter := none }
def ptr (k : Nat) : Value := .pointer (some ⟨k, 0, none⟩)
def divL : LoopS DivS where
  fn := 87
  keys := [5, 6, 7, 9, 10, 20]
  kv x := [ptr 12, ptr 13, ptr 14, ptr 15, ptr 16, .int .i64 x.k]
  hp x := [(16, blkU x.c x.d), (15, blkU x.a x.b), (14, blkU 0 0), (13, blkU 0 0), (12, blkU x.e x.f), (11, blkU x.r x.s), (10, blkU x.p x.q)]
  lo := 17
  nx := 17
  mw := 10
  size := 52

theorem round_tree (P : Exit → Bool → List Value → Heap → Nat → Nat → Nat → FuncId → List (FuncId × List Value) → Prop) (a b c d e f k p q r s : Int) :
 codeK (envW rulesW1 []) (funcK (envW rulesW1 []) 30) (loopOf Tryz.prog 87 5) (divL.st (DivS.mk a b c d e f k p q r s)) (divL.look P) =
 (bsel (decide (DivS.k (DivS.mk a b c d e f k p q r s) < (128 : Int))) ((Int.ofNat 0 = Int.ofNat 0 ∧ u64 a ∧ u64 b ∧ u64 c ∧ u64 d) ∧ ∀ (x y z w : Int), u64 x → u64 y → u64 z → u64 w → w % (2 : Int) = Int.ofNat 0 → wV x y = ((2 : Int) * wV (DivS.a (DivS.mk a b c d e f k p q r s)) (DivS.b (DivS.mk a b c d e f k p q r s)) + DivS.c (DivS.mk a b c d e f k p q r s) / (9223372036854775808 : Int)) % (340282366920938463463374607431768211456 : Int) → bsel (Int.fdiv (DivS.a (DivS.mk a b c d e f k p q r s)) ((9223372036854775808 : Int)) == (1 : Int)) ((u64 x ∧ u64 y ∧ u64 e ∧ u64 f) ∧ ∀ (x_1 y_1 _ : Int), u64 x_1 → u64 y_1 → wV x_1 y_1 = (wV x y - wV (DivS.e (DivS.mk a b c d e f k p q r s)) (DivS.f (DivS.mk a b c d e f k p q r s))) % (340282366920938463463374607431768211456 : Int) → P Go.Exit.normal true [Value.pointer (some (Addr.mk 12 0 none)), Value.pointer (some (Addr.mk 13 0 none)), Value.pointer (some (Addr.mk 14 0 none)), Value.pointer (some (Addr.mk 15 0 none)), Value.pointer (some (Addr.mk 16 0 none)), Value.int .i64 (IntKind.wrap .i64 (k + Int.ofNat 1))] [(16, Blk.mk [some (Value.int .u64 z), some (Value.int .u64 (IntKind.wrap .u64 (Int.ofNat (BitVec.toNat (BitVec.ofInt (IntKind.bits IntKind.u64) w ||| BitVec.ofInt (IntKind.bits IntKind.u64) (1 : Int))))))] 24 true 0 none false), (15, Blk.mk [some (Value.int .u64 x_1), some (Value.int .u64 y_1)] 24 true 0 none false), (14, Blk.mk [some (Value.int .u64 (Int.ofNat 0)), some (Value.int .u64 (Int.ofNat 0))] 24 true 0 none false), (13, Blk.mk [some (Value.int .u64 (Int.ofNat 0)), some (Value.int .u64 (Int.ofNat 0))] 24 true 0 none false), (12, Blk.mk [some (Value.int .u64 e), some (Value.int .u64 f)] 24 true 0 none false), (11, Blk.mk [some (Value.int .u64 r), some (Value.int .u64 s)] 24 true 0 none false), (10, Blk.mk [some (Value.int .u64 p), some (Value.int .u64 q)] 24 true 0 none false)] 17 10 52 87 []) ((u64 x ∧ u64 y ∧ u64 e ∧ u64 f) ∧ ∀ (c_1 : Int), c_1 = Int.negSucc 0 ∧ wV x y < wV (DivS.e (DivS.mk a b c d e f k p q r s)) (DivS.f (DivS.mk a b c d e f k p q r s)) ∨ c_1 = Int.ofNat 0 ∧ wV x y = wV (DivS.e (DivS.mk a b c d e f k p q r s)) (DivS.f (DivS.mk a b c d e f k p q r s)) ∨ c_1 = Int.ofNat 1 ∧ wV (DivS.e (DivS.mk a b c d e f k p q r s)) (DivS.f (DivS.mk a b c d e f k p q r s)) < wV x y → bsel (decide (c_1 ≥ (0 : Int))) ((u64 x ∧ u64 y ∧ u64 e ∧ u64 f) ∧ ∀ (x_1 y_1 _ : Int), u64 x_1 → u64 y_1 → wV x_1 y_1 = (wV x y - wV (DivS.e (DivS.mk a b c d e f k p q r s)) (DivS.f (DivS.mk a b c d e f k p q r s))) % (340282366920938463463374607431768211456 : Int) → P Go.Exit.normal true [Value.pointer (some (Addr.mk 12 0 none)), Value.pointer (some (Addr.mk 13 0 none)), Value.pointer (some (Addr.mk 14 0 none)), Value.pointer (some (Addr.mk 15 0 none)), Value.pointer (some (Addr.mk 16 0 none)), Value.int .i64 (IntKind.wrap .i64 (k + Int.ofNat 1))] [(16, Blk.mk [some (Value.int .u64 z), some (Value.int .u64 (IntKind.wrap .u64 (Int.ofNat (BitVec.toNat (BitVec.ofInt (IntKind.bits IntKind.u64) w ||| BitVec.ofInt (IntKind.bits IntKind.u64) (1 : Int))))))] 24 true 0 none false), (15, Blk.mk [some (Value.int .u64 x_1), some (Value.int .u64 y_1)] 24 true 0 none false), (14, Blk.mk [some (Value.int .u64 (Int.ofNat 0)), some (Value.int .u64 (Int.ofNat 0))] 24 true 0 none false), (13, Blk.mk [some (Value.int .u64 (Int.ofNat 0)), some (Value.int .u64 (Int.ofNat 0))] 24 true 0 none false), (12, Blk.mk [some (Value.int .u64 e), some (Value.int .u64 f)] 24 true 0 none false), (11, Blk.mk [some (Value.int .u64 r), some (Value.int .u64 s)] 24 true 0 none false), (10, Blk.mk [some (Value.int .u64 p), some (Value.int .u64 q)] 24 true 0 none false)] 17 10 52 87 []) (P Go.Exit.normal true [Value.pointer (some (Addr.mk 12 0 none)), Value.pointer (some (Addr.mk 13 0 none)), Value.pointer (some (Addr.mk 14 0 none)), Value.pointer (some (Addr.mk 15 0 none)), Value.pointer (some (Addr.mk 16 0 none)), Value.int .i64 (IntKind.wrap .i64 (k + Int.ofNat 1))] [(16, Blk.mk [some (Value.int .u64 z), some (Value.int .u64 w)] 24 true 0 none false), (15, Blk.mk [some (Value.int .u64 x), some (Value.int .u64 y)] 24 true 0 none false), (14, Blk.mk [some (Value.int .u64 (Int.ofNat 0)), some (Value.int .u64 (Int.ofNat 0))] 24 true 0 none false), (13, Blk.mk [some (Value.int .u64 (Int.ofNat 0)), some (Value.int .u64 (Int.ofNat 0))] 24 true 0 none false), (12, Blk.mk [some (Value.int .u64 e), some (Value.int .u64 f)] 24 true 0 none false), (11, Blk.mk [some (Value.int .u64 r), some (Value.int .u64 s)] 24 true 0 none false), (10, Blk.mk [some (Value.int .u64 p), some (Value.int .u64 q)] 24 true 0 none false)] 17 10 52 87 []))) (P (Go.Exit.exit 0) true [Value.pointer (some (Addr.mk 12 0 none)), Value.pointer (some (Addr.mk 13 0 none)), Value.pointer (some (Addr.mk 14 0 none)), Value.pointer (some (Addr.mk 15 0 none)), Value.pointer (some (Addr.mk 16 0 none)), Value.int .i64 k] [(16, Blk.mk [some (Value.int .u64 c), some (Value.int .u64 d)] 24 true 0 none false), (15, Blk.mk [some (Value.int .u64 a), some (Value.int .u64 b)] 24 true 0 none false), (14, Blk.mk [some (Value.int .u64 (Int.ofNat 0)), some (Value.int .u64 (Int.ofNat 0))] 24 true 0 none false), (13, Blk.mk [some (Value.int .u64 (Int.ofNat 0)), some (Value.int .u64 (Int.ofNat 0))] 24 true 0 none false), (12, Blk.mk [some (Value.int .u64 e), some (Value.int .u64 f)] 24 true 0 none false), (11, Blk.mk [some (Value.int .u64 r), some (Value.int .u64 s)] 24 true 0 none false), (10, Blk.mk [some (Value.int .u64 p), some (Value.int .u64 q)] 24 true 0 none false)] 17 10 52 87 [])) := by kernel_rfl

def divI (e f : Int) (n : Nat) (x : DivS) : Prop := (x.e = e ∧ x.f = f ∧ u64 x.a ∧ u64 x.b ∧ u64 x.c ∧ u64 x.d ∧ u64 e ∧ u64 f) ∧ wV x.a x.b < wV e f ∧ 0 ≤ x.k ∧ x.k ≤ 128 ∧ n = 128 - x.k.toNat
def divO (e f : Int) (x : DivS) : Prop := u64 x.a ∧ u64 x.b ∧ u64 x.c ∧ u64 x.d ∧ wV x.a x.b < wV e f

theorem wrap_i64s {x : Int} (h : 0 ≤ x) (h2 : x < 9223372036854775808) : IntKind.wrap .i64 x = x := by
  have h : IntKind.wrap .i64 x = if x % 18446744073709551616 ≥ 9223372036854775808 then x % 18446744073709551616 - 18446744073709551616 else x % 18446744073709551616 := by
    simp [IntKind.wrap, IntKind.bits, IntKind.signed]
  rw [h]
  split <;> omega

theorem div_round (e0 f0 : Int) (n : Nat) (a b c d e f k p q r s : Int) (hI : divI e0 f0 n ⟨a, b, c, d, e, f, k, p, q, r, s⟩) :
    Hush (codeK (envW rulesW1 []) (funcK (envW rulesW1 []) 30) (loopOf Tryz.prog 87 5) (divL.st ⟨a, b, c, d, e, f, k, p, q, r, s⟩) (divL.look (divL.To (divI e0 f0) (divO e0 f0) (fun _ => False) 0 n))) := by
  constructor
  rw [round_tree]
  obtain ⟨⟨he, hf, h1, h2, h3, h4, h5, h6⟩, hlt, k0, k1, hn⟩ := hI
  simp only at he hf h1 h2 h3 h4 hlt k0 k1 hn
  subst he hf
  refine bsel_of (fun hk => ?_) (fun hk => ?_)
  · have hk : k < 128 := of_decide_eq_true hk
    have hkw : IntKind.wrap .i64 (k + Int.ofNat 1) = k + 1 := wrap_i64s (by show 0 ≤ k + 1; omega) (by show k + 1 < _; omega)
    refine ⟨⟨rfl, h1, h2, h3, h4⟩, fun x y z w hx hy hz hw hpar hval => ?_⟩
    have hpar : w % 2 = 0 := hpar
    have hor := or_one hw hpar
    have hw1 : u64 (w + 1) := by unfold u64 at *; omega
    have hval : wV x y = (2 * wV a b + c / 9223372036854775808) % 340282366920938463463374607431768211456 := hval
    have hfd : Int.fdiv a 9223372036854775808 = a / 9223372036854775808 := Int.fdiv_eq_ediv_of_nonneg _ (by decide)
    have u1 : u64 a := h1
    unfold u64 at h1 h2 h3 h5 h6 hx hy
    refine bsel_of (fun ho => ⟨⟨by unfold u64; omega, by unfold u64; omega, by unfold u64; omega, by unfold u64; omega⟩, fun x1 y1 c1 hx1 hy1 hv1 => ?_⟩) (fun ho => ⟨⟨by unfold u64; omega, by unfold u64; omega, by unfold u64; omega, by unfold u64; omega⟩, fun c1 hc =>
      bsel_of (fun hb => ⟨⟨by unfold u64; omega, by unfold u64; omega, by unfold u64; omega, by unfold u64; omega⟩, fun x1 y1 c2 hx1 hy1 hv1 => ?_⟩) (fun hb => ?_)⟩)
    · have ho : Int.fdiv a 9223372036854775808 = 1 := by simpa using ho
      have hv1 : wV x1 y1 = (wV x y - wV e f) % 340282366920938463463374607431768211456 := hv1
      rw [hor, hkw]
      refine ⟨n - 1, ⟨x1, y1, z, w + 1, e, f, k + 1, p, q, r, s⟩, by omega, ⟨⟨rfl, rfl, hx1, hy1, hz, hw1, by unfold u64; omega, by unfold u64; omega⟩, ?_, by show 0 ≤ k + 1; omega, by show k + 1 ≤ 128; omega, by show n - 1 = 128 - (k + 1).toNat; omega⟩, LoopS.At.quick [] rfl rfl (by kernel_rfl) rfl (by kernel_rfl) rfl rfl rfl⟩
      simp only [wV] at *
      omega
    · have ho : ¬ Int.fdiv a 9223372036854775808 = 1 := by simpa using ho
      have hv1 : wV x1 y1 = (wV x y - wV e f) % 340282366920938463463374607431768211456 := hv1
      have hb : c1 ≥ 0 := of_decide_eq_true hb
      have hc : c1 = -1 ∧ wV x y < wV e f ∨ c1 = 0 ∧ wV x y = wV e f ∨ c1 = 1 ∧ wV e f < wV x y := hc
      rw [hor, hkw]
      refine ⟨n - 1, ⟨x1, y1, z, w + 1, e, f, k + 1, p, q, r, s⟩, by omega, ⟨⟨rfl, rfl, hx1, hy1, hz, hw1, by unfold u64; omega, by unfold u64; omega⟩, ?_, by show 0 ≤ k + 1; omega, by show k + 1 ≤ 128; omega, by show n - 1 = 128 - (k + 1).toNat; omega⟩, LoopS.At.quick [] rfl rfl (by kernel_rfl) rfl (by kernel_rfl) rfl rfl rfl⟩
      unfold u64 at hx1 hy1
      simp only [wV] at *
      omega
    · have hb : ¬ c1 ≥ 0 := of_decide_eq_false hb
      have hc : c1 = -1 ∧ wV x y < wV e f ∨ c1 = 0 ∧ wV x y = wV e f ∨ c1 = 1 ∧ wV e f < wV x y := hc
      rw [hkw]
      refine ⟨n - 1, ⟨x, y, z, w, e, f, k + 1, p, q, r, s⟩, by omega, ⟨⟨rfl, rfl, by unfold u64; omega, by unfold u64; omega, hz, hw, by unfold u64; omega, by unfold u64; omega⟩, by show wV x y < wV e f; omega, by show 0 ≤ k + 1; omega, by show k + 1 ≤ 128; omega, by show n - 1 = 128 - (k + 1).toNat; omega⟩, LoopS.At.quick [] rfl rfl (by kernel_rfl) rfl (by kernel_rfl) rfl rfl rfl⟩
  · exact ⟨rfl, ⟨a, b, c, d, e, f, k, p, q, r, s⟩, ⟨h1, h2, h3, h4, hlt⟩, LoopS.At.quick [] rfl rfl (by kernel_rfl) rfl (by kernel_rfl) rfl rfl rfl⟩

theorem div_rounds (e0 f0 : Int) : Rounds (envW rulesW1 []) 30 (loopOf Tryz.prog 87 5) divL (divI e0 f0) (divO e0 f0) (fun _ => False) 0 :=
  ⟨fun n x hI => div_round e0 f0 n x.a x.b x.c x.d x.e x.f x.k x.p x.q x.r x.s hI⟩

/-- The division's loop. -/
def divT : LoopW := fun c s K => ∃ e f, loopT (loopOf Tryz.prog 87 5) divL (divI e f) (divO e f) 0 c s K
def loopsD : List ((Nat × Nat) × LoopW) := [((87, 5), divT)]

def isDiv (a b e f : Int) (u : Value) : Prop := (wV e f ≤ wV a b ∧ u = .tuple #[wU 0 0, wU 0 0, .bool false]) ∨
  (wV a b < wV e f ∧ ∃ x y z w, u = .tuple #[wU x y, wU z w, .bool true] ∧ u64 x ∧ u64 y ∧ u64 z ∧ u64 w ∧ wV z w < wV e f)
theorem div_hk_tree (K : Value → Nat → Prop) (a b c d e f : Int) :
 funcK (envW rulesW1 loopsD) 30 87 [wU a b, wU c d, wU e f] [] Tryz.prog.globals.size (fun u _ _ mw => K u mw) =
 ((u64 a ∧ u64 b ∧ u64 e ∧ u64 f) ∧ ∀ (c_1 : Int), c_1 = Int.negSucc 0 ∧ wV a b < wV e f ∨ c_1 = Int.ofNat 0 ∧ wV a b = wV e f ∨ c_1 = Int.ofNat 1 ∧ wV e f < wV a b → bsel (decide (c_1 ≥ (0 : Int))) (K (Value.tuple (Array.mk [Value.agg (Array.mk [Value.int .u64 (Int.ofNat 0), Value.int .u64 (Int.ofNat 0)]), Value.agg (Array.mk [Value.int .u64 (Int.ofNat 0), Value.int .u64 (Int.ofNat 0)]), Value.bool false])) 13) (∃ (x : Int), ∃ (x_1 : Int), Is (loopOf Go.Proofs.Tryz.prog 87 5) (loopOf Go.Proofs.Tryz.prog 87 5) ∧ ∃ (x_2 : Nat), ∃ (x_3 : DivS), (divI x x_1 x_2 x_3 ∧ true = true ∧ LoopS.At divL x_3 true [Value.pointer (some (Addr.mk 12 0 none)), Value.pointer (some (Addr.mk 13 0 none)), Value.pointer (some (Addr.mk 14 0 none)), Value.pointer (some (Addr.mk 15 0 none)), Value.pointer (some (Addr.mk 16 0 none)), Value.int .i64 (Int.ofNat 0)] [(16, Blk.mk [some (Value.int .u64 c), some (Value.int .u64 d)] 24 true 0 none false), (15, Blk.mk [some (Value.int .u64 a), some (Value.int .u64 b)] 24 true 0 none false), (14, Blk.mk [some (Value.int .u64 (Int.ofNat 0)), some (Value.int .u64 (Int.ofNat 0))] 24 true 0 none false), (13, Blk.mk [some (Value.int .u64 (Int.ofNat 0)), some (Value.int .u64 (Int.ofNat 0))] 24 true 0 none false), (12, Blk.mk [some (Value.int .u64 e), some (Value.int .u64 f)] 24 true 0 none false), (11, Blk.mk [some (Value.int .u64 c), some (Value.int .u64 d)] 24 true 0 none false), (10, Blk.mk [some (Value.int .u64 a), some (Value.int .u64 b)] 24 true 0 none false)] 17 15 52 87 []) ∧ ∀ (a' : DivS), divO x x_1 a' → K (Value.tuple (Array.mk [Value.agg (Array.mk [Value.int .u64 (DivS.c a'), Value.int .u64 (DivS.d a')]), Value.agg (Array.mk [Value.int .u64 (DivS.a a'), Value.int .u64 (DivS.b a')]), Value.bool true])) 10)) := by kernel_rfl
theorem div_hk (a b c d e f : Int) (h1 : u64 a) (h2 : u64 b) (h3 : u64 c) (h4 : u64 d) (h5 : u64 e) (h6 : u64 f) : ReckA (envW rulesW1 loopsD) 30 87 [wU a b, wU c d, wU e f] (isDiv a b e f) := by
  constructor
  rw [div_hk_tree fun u mw => (isDiv a b e f) u ∧ Tryz.prog.globals.size ≤ mw]
  refine ⟨⟨h1, h2, h5, h6⟩, fun k hk => bsel_of (fun hb => ?_) (fun hb => ?_)⟩
  · have hb : k ≥ 0 := of_decide_eq_true hb
    have hk : k = -1 ∧ wV a b < wV e f ∨ k = 0 ∧ wV a b = wV e f ∨ k = 1 ∧ wV e f < wV a b := hk
    exact ⟨.inl ⟨by omega, rfl⟩, Nat.le_of_ble_eq_true (by kernel_rfl)⟩
  · have hb : ¬ k ≥ 0 := of_decide_eq_false hb
    have hk : k = -1 ∧ wV a b < wV e f ∨ k = 0 ∧ wV a b = wV e f ∨ k = 1 ∧ wV e f < wV a b := hk
    have hlt : wV a b < wV e f := by omega
    refine ⟨e, f, ⟨rfl⟩, 128, ⟨a, b, c, d, e, f, 0, a, b, c, d⟩, ⟨⟨⟨rfl, rfl, h1, h2, h3, h4, h5, h6⟩, hlt, Int.le_refl _, by show (0 : Int) ≤ 128; decide, rfl⟩, by kernel_rfl, LoopS.At.quick [] rfl rfl (by kernel_rfl) rfl (by kernel_rfl) rfl rfl rfl⟩, fun x ⟨q1, q2, q3, q4, q5⟩ => ⟨.inr ⟨hlt, _, _, _, _, rfl, q3, q4, q1, q2, q5⟩, Nat.le_of_ble_eq_true (by kernel_rfl)⟩⟩

end Go.Proofs.YtdbjbmdaekgbhaaGreatDoor
