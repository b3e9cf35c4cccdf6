/-
  A number of 128 bits as a text.
-/
import Derived.Test.YtdbjbmdaekgbhaaGreatDoorWk
namespace Go.Proofs.YtdbjbmdaekgbhaaGreatDoor
open Go Go.Pe Go.RowKit

theorem u8_wrap (x : Int) : 0 ≤ IntKind.wrap .u8 x ∧ IntKind.wrap .u8 x < 256 := by
  have h : IntKind.wrap .u8 x = x % 256 := by simp [IntKind.wrap, IntKind.bits, IntKind.signed]
  rw [h]
  omega
def blkC (e : TypeId) (c : List (Option Value)) : Blk := { cells := c, elem := e, own := true, room := 0, iter := none, sym := true }
def blkY (l : List UInt8) : Blk := blkC 245 (bytesC l)
theorem bytesAre_nil (c : List (Option Value)) (i : Nat) : bytesAre c i [] := by
  unfold bytesAre
  cases h : c.drop i with
  | nil => rfl
  | cons x l => cases x <;> rfl
theorem v_top40 {c d : Int} (h1 : u64 c) (h2 : u64 d) : wV c d < 10 ^ 40 := by
  unfold u64 at *
  unfold wV
  omega
structure utxS where
  (h l : Int) (cs : List UInt8) (k : Int)
noncomputable def utxL : LoopS utxS where
  fn := 132
  keys := [1, 3, 4]
  kv := fun ⟨h, l, cs, k⟩ => [ptr 10, ptr 11, .int .i64 k]
  hp := fun ⟨h, l, cs, k⟩ => [(11, blkY cs), (10, blkU h l)]
  lo := 12
  nx := 12
  mw := 10
  size := 33
theorem utx_tree (P : Exit → Bool → List Value → Heap → Nat → Nat → Nat → FuncId → List (FuncId × List Value) → Prop) (h l : Int) (cs : List UInt8) (k : Int) :
    codeK (envW rulesSc []) (funcK (envW rulesSc []) 30) (loopOf Tryz.prog 132 5) (utxL.st ⟨h, l, cs, k⟩) (utxL.look P) =
  ((u64 h ∧ u64 l) ∧ bsel (h == (0 : Int) && l == (0 : Int)) (P (Go.Exit.exit 0) Bool.true [Value.pointer (Option.some (Go.Addr.mk 10 0 Option.none)), Value.pointer (Option.some (Go.Addr.mk 11 0 Option.none)), Value.int IntKind.i64 k] [(11, Blk.mk (bytesC cs) 245 Bool.true 0 Option.none Bool.true), (10, Blk.mk [Option.some (Value.int IntKind.u64 h), Option.some (Value.int IntKind.u64 l)] 24 Bool.true 0 Option.none Bool.false)] 12 10 33 132 []) ((u64 (Int.ofNat 0) ∧ u64 (Int.ofNat 0) ∧ u64 h ∧ u64 l ∧ u64 (Int.ofNat 10) ∧ Int.ofNat 0 < Int.ofNat 10) ∧ ∀ (e f g h_1 r : Int), u64 e → u64 f → u64 g → u64 h_1 → u64 r → wW e f g h_1 * Int.ofNat 10 + r = wW (0 : Int) (0 : Int) h l → bsel (decide ((0 : Int) ≤ IntKind.wrap IntKind.i64 (k - (1 : Int))) && decide (IntKind.wrap IntKind.i64 (k - (1 : Int)) < ↑40)) (((List.all [Value.int IntKind.u8 (IntKind.wrap IntKind.u8 (IntKind.wrap IntKind.u64 ((48 : Int) + r)))] fun (x : Go.Value) => Value.oneCell' x) = Bool.true ∧ 0 + Int.toNat (IntKind.wrap IntKind.i64 (k - (1 : Int))) * 1 + 1 ≤ List.length (bytesC cs)) ∧ P Go.Exit.normal Bool.true [Value.pointer (Option.some (Go.Addr.mk 10 0 Option.none)), Value.pointer (Option.some (Go.Addr.mk 11 0 Option.none)), Value.int IntKind.i64 (IntKind.wrap IntKind.i64 (k - (1 : Int)))] [(13, Blk.mk [Option.some (Value.int IntKind.u64 g), Option.some (Value.int IntKind.u64 h_1)] 24 Bool.true 0 Option.none Bool.false), (12, Blk.mk [Option.some (Value.int IntKind.u64 e), Option.some (Value.int IntKind.u64 f)] 24 Bool.true 0 Option.none Bool.false), (11, Blk.mk (putC (bytesC cs) (0 + Int.toNat (IntKind.wrap IntKind.i64 (k - (1 : Int))) * 1) [Value.int IntKind.u8 (IntKind.wrap IntKind.u8 (IntKind.wrap IntKind.u64 ((48 : Int) + r)))]) 245 Bool.true 0 Option.none Bool.true), (10, Blk.mk [Option.some (Value.int IntKind.u64 g), Option.some (Value.int IntKind.u64 h_1)] 24 Bool.true 0 Option.none Bool.false)] 14 10 33 132 []) False)) := by kernel_rfl
def utxI (n : Nat) (x : utxS) : Prop := (u64 x.h ∧ u64 x.l) ∧ x.cs.length = 40 ∧ (∃ k : Nat, k ≤ 40 ∧ x.k = (k : Int) ∧ wV x.h x.l < 10 ^ k) ∧ n = (wV x.h x.l).toNat
def utxO (x : utxS) : Prop := x.cs.length = 40 ∧ 0 ≤ x.k ∧ x.k ≤ 40
theorem utx_round (n0 : Nat) (h l : Int) (cs : List UInt8) (k : Int) (hI : utxI n0 ⟨h, l, cs, k⟩) :
    Hush (codeK (envW rulesSc []) (funcK (envW rulesSc []) 30) (loopOf Tryz.prog 132 5) (utxL.st ⟨h, l, cs, k⟩) (utxL.look (utxL.To utxI utxO (fun _ => False) 0 n0))) := by
  constructor
  rw [utx_tree]
  obtain ⟨⟨h1, h2⟩, h3, ⟨j, hj, h4, h5⟩, hn⟩ := hI
  try simp only at *
  refine ⟨⟨h1, h2⟩, bsel_of (fun _ => ⟨rfl, ⟨h, l, cs, k⟩, ⟨h3, by show 0 ≤ k; omega, by show k ≤ 40; omega⟩, LoopS.At.each [] rfl (HIn.s (by kernel_rfl) (rfl) (bytesC_pure _) (HIn.c (by kernel_rfl) rfl .n)) (by kernel_rfl) rfl (by kernel_rfl) rfl rfl rfl⟩) (fun hz => ⟨⟨u64_lit rfl, u64_lit rfl, h1, h2, u64_lit rfl, by decide⟩, fun e f g h' r k1 k2 k3 k4 k5 k6 => ?_⟩)⟩
  have k6 : wW e f g h' * 10 + r = wW 0 0 h l := k6
  have hab : ¬ (h = 0 ∧ l = 0) := fun ⟨ha, hb⟩ => by simp [ha, hb] at hz
  have hv : 0 < wV h l := by
    unfold u64 at *
    unfold wV
    omega
  have e0 : wW 0 0 h l = wV h l := by
    unfold wW wV
    omega
  rw [e0] at k6
  have hle : wV g h' ≤ wW e f g h' := by
    unfold u64 at *
    unfold wW wV
    omega
  have hr : 0 ≤ r := k5.1
  have hq : 0 ≤ wV g h' := by
    unfold u64 at *
    unfold wV
    omega
  obtain ⟨i, hi, hw⟩ := ten_step h5 hv k6 hr (Int.le_trans hq hle)
  have hm : IntKind.wrap .i64 (k - 1) = (i : Int) := by
    rw [wrap_i64r (by unfold i64; omega)]
    omega
  rw [hm]
  have hlt : (wV g h').toNat < n0 := by omega
  have hlen : 0 + Int.toNat (i : Int) * 1 + 1 ≤ List.length (bytesC cs) := by
    rw [bytesC_length, h3, Int.toNat_natCast]
    omega
  obtain ⟨cs', e1, e2⟩ := putC_bytes cs (0 + Int.toNat (i : Int) * 1) (x := IntKind.wrap .u8 (IntKind.wrap .u64 (48 + r))) (u8_wrap _).1 (u8_wrap _).2 (by rw [bytesC_length] at hlen; omega)
  exact bsel_of (fun _ => ⟨⟨rfl, hlen⟩, (wV g h').toNat, ⟨g, h', cs', (i : Int)⟩, hlt, ⟨⟨k3, k4⟩, e2.trans h3, ⟨i, by omega, rfl, Int.lt_of_le_of_lt hle hw⟩, rfl⟩, LoopS.At.each [] rfl (HIn.s (by kernel_rfl) (congrArg (fun c => some (plainB (blkC 245 c))) e1) (bytesC_pure _) (HIn.c (by kernel_rfl) rfl .n)) (by kernel_rfl) rfl (by kernel_rfl) rfl rfl rfl⟩) (fun hb => absurd hb (by simp; omega))
theorem utx_rounds : Rounds (envW rulesSc []) 30 (loopOf Tryz.prog 132 5) utxL utxI utxO (fun _ => False) 0 := ⟨fun n x hI => utx_round n x.h x.l x.cs x.k hI⟩
def utxT : LoopW := fun c s K => loopT (loopOf Tryz.prog 132 5) utxL utxI utxO 0 c s K
theorem utxT_ok {E : Env} (hP : E.P = Tryz.prog) (hW : E.weak = true) {base : World} : LoopOk E base utxT := fun c s K h =>
  loopT_ok (E := envW rulesSc []) hP hW (envW_ok (rulesSc_ok base)) (findL_ok (l := []) rfl fun _ h => nomatch h) (by kernel_rfl) (by kernel_rfl) utx_rounds h
def loopsUt : List ((Nat × Nat) × LoopW) := [((132, 5), utxT)]
theorem loopsUt_ok {E : Env} (hP : E.P = Tryz.prog) (hW : E.weak = true) (base : World) : ∀ x ∈ loopsUt, LoopOk E base x.2 := List.forall_mem_cons.2 ⟨utxT_ok hP hW, fun _ h => nomatch h⟩
def isUtext (a b : Int) (u : Value) : Prop := ∃ (s : ByteArray), u = .string s ∧ (strLen s ≤ 40)
theorem utext_hk_tree (K : Value → Nat → Prop) (a b : Int) :
    funcK (envW rulesSc loopsUt) 30 132 [.agg ⟨[.int .u64 a, .int .u64 b]⟩] [] Tryz.prog.globals.size (fun u _ _ mw => K u mw) =
  ((u64 a ∧ u64 b) ∧ bsel (a == (0 : Int) && b == (0 : Int)) (K (Value.string (ByteArray.mk #[(48 : UInt8)])) 18446744073709551616) (Is (loopOf Go.Proofs.Tryz.prog 132 5) (loopOf Go.Proofs.Tryz.prog 132 5) ∧ ∃ (x : Nat), ∃ (x_1 : utxS), (utxI x x_1 ∧ Bool.true = Bool.true ∧ LoopS.At utxL x_1 Bool.true [Value.pointer (Option.some (Go.Addr.mk 10 0 Option.none)), Value.pointer (Option.some (Go.Addr.mk 11 0 Option.none)), Value.int IntKind.i64 (Int.ofNat 40)] [(11, Blk.mk [Option.some (Value.int IntKind.u8 (Int.ofNat 0)), Option.some (Value.int IntKind.u8 (Int.ofNat 0)), Option.some (Value.int IntKind.u8 (Int.ofNat 0)), Option.some (Value.int IntKind.u8 (Int.ofNat 0)), Option.some (Value.int IntKind.u8 (Int.ofNat 0)), Option.some (Value.int IntKind.u8 (Int.ofNat 0)), Option.some (Value.int IntKind.u8 (Int.ofNat 0)), Option.some (Value.int IntKind.u8 (Int.ofNat 0)), Option.some (Value.int IntKind.u8 (Int.ofNat 0)), Option.some (Value.int IntKind.u8 (Int.ofNat 0)), Option.some (Value.int IntKind.u8 (Int.ofNat 0)), Option.some (Value.int IntKind.u8 (Int.ofNat 0)), Option.some (Value.int IntKind.u8 (Int.ofNat 0)), Option.some (Value.int IntKind.u8 (Int.ofNat 0)), Option.some (Value.int IntKind.u8 (Int.ofNat 0)), Option.some (Value.int IntKind.u8 (Int.ofNat 0)), Option.some (Value.int IntKind.u8 (Int.ofNat 0)), Option.some (Value.int IntKind.u8 (Int.ofNat 0)), Option.some (Value.int IntKind.u8 (Int.ofNat 0)), Option.some (Value.int IntKind.u8 (Int.ofNat 0)), Option.some (Value.int IntKind.u8 (Int.ofNat 0)), Option.some (Value.int IntKind.u8 (Int.ofNat 0)), Option.some (Value.int IntKind.u8 (Int.ofNat 0)), Option.some (Value.int IntKind.u8 (Int.ofNat 0)), Option.some (Value.int IntKind.u8 (Int.ofNat 0)), Option.some (Value.int IntKind.u8 (Int.ofNat 0)), Option.some (Value.int IntKind.u8 (Int.ofNat 0)), Option.some (Value.int IntKind.u8 (Int.ofNat 0)), Option.some (Value.int IntKind.u8 (Int.ofNat 0)), Option.some (Value.int IntKind.u8 (Int.ofNat 0)), Option.some (Value.int IntKind.u8 (Int.ofNat 0)), Option.some (Value.int IntKind.u8 (Int.ofNat 0)), Option.some (Value.int IntKind.u8 (Int.ofNat 0)), Option.some (Value.int IntKind.u8 (Int.ofNat 0)), Option.some (Value.int IntKind.u8 (Int.ofNat 0)), Option.some (Value.int IntKind.u8 (Int.ofNat 0)), Option.some (Value.int IntKind.u8 (Int.ofNat 0)), Option.some (Value.int IntKind.u8 (Int.ofNat 0)), Option.some (Value.int IntKind.u8 (Int.ofNat 0)), Option.some (Value.int IntKind.u8 (Int.ofNat 0))] 245 Bool.true 0 Option.none Bool.false), (10, Blk.mk [Option.some (Value.int IntKind.u64 a), Option.some (Value.int IntKind.u64 b)] 24 Bool.true 0 Option.none Bool.false)] 12 18446744073709551616 33 132 []) ∧ ∀ (a' : utxS), utxO a' → bsel (decide ((0 : Int) ≤ a'.4) && decide (a'.4 ≤ ↑40)) (bsel (Nat.beq 40 (Int.toNat a'.4)) (∃ (x : List UInt8), (List.length x = 40 - Int.toNat a'.4 ∧ bytesAre (bytesC a'.3) 0 x) ∧ K (Value.string (ByteArray.mk (List.toArray x))) 10) (∃ (x : List UInt8), (List.length x = 40 - Int.toNat a'.4 ∧ bytesAre (bytesC a'.3) (0 + Int.toNat a'.4 * 1) x) ∧ K (Value.string (ByteArray.mk (List.toArray x))) 10)) False)) := by kernel_rfl
theorem utext_hk (a b : Int) (h1 : u64 a) (h2 : u64 b) : ReckA (envW rulesSc loopsUt) 30 132 [.agg ⟨[.int .u64 a, .int .u64 b]⟩] (isUtext a b) := by
  constructor
  rw [utext_hk_tree fun u mw => (isUtext a b) u ∧ Tryz.prog.globals.size ≤ mw]
  refine ⟨⟨h1, h2⟩, bsel_of (fun _ => ⟨⟨_, rfl, by decide⟩, Nat.le_of_ble_eq_true (by kernel_rfl)⟩) (fun _ => ⟨⟨rfl⟩, _, ⟨a, b, List.replicate 40 0, 40⟩, ⟨⟨⟨h1, h2⟩, rfl, ⟨40, Nat.le_refl _, rfl, v_top40 h1 h2⟩, rfl⟩, by kernel_rfl, LoopS.At.each [] rfl (HIn.s (by kernel_rfl) (rfl) (bytesC_pure _) (HIn.c (by kernel_rfl) rfl .n)) (by kernel_rfl) rfl (by kernel_rfl) rfl rfl rfl⟩, fun ⟨h', l', cs', k'⟩ ⟨q1, q2, q3⟩ => bsel_of (fun _ => bsel_of (fun hb => ⟨[], ⟨?_, bytesAre_nil _ _⟩, ⟨_, rfl, by decide⟩, Nat.le_of_ble_eq_true (by kernel_rfl)⟩) (fun _ => ⟨cs'.drop k'.toNat, ⟨?_, ?_⟩, ⟨_, rfl, ?_⟩, Nat.le_of_ble_eq_true (by kernel_rfl)⟩)) (fun hb => absurd hb ?_)⟩)⟩
  · have hb : 40 = k'.toNat := beq_true hb
    show 0 = 40 - k'.toNat
    omega
  · simp only at q1
    rw [List.length_drop, q1]
  · have := bytesAre_drop cs' k'.toNat
    simpa using this
  · simp only at q1
    show (List.drop k'.toNat cs').length ≤ 40
    rw [List.length_drop, q1]
    omega
  · simp only at q2 q3
    simp
    omega
def ruleUtext : Rule := ruleA fun args => match args with
  | [.agg ⟨[.int .u64 a, .int .u64 b]⟩] => some fun K => (u64 a ∧ u64 b) ∧ ∀ (s : ByteArray), strLen s ≤ 40 → K (.string s)
  | _ => none
theorem utext_ok {base : World} : RuleOk Tryz.prog base 132 ruleUtext := ruleOkA fun args T K hT hK => by
  split at hT
  · cases hT
    obtain ⟨⟨h1, h2⟩, hK⟩ := hK
    obtain ⟨v, ⟨r0, rfl, hf⟩, ht⟩ := totA_of (base := base) (envW_ok (rulesSc_ok base)) (findL_ok rfl (loopsUt_ok rfl rfl base)) rfl (utext_hk _ _ h1 h2) (fun v ⟨_, hv, _⟩ => by subst hv; kernel_rfl) (List.forall_mem_cons.2 ⟨by kernel_rfl, fun _ h => nomatch h⟩)
    exact ⟨_, hK r0 hf, ht⟩
  · cases hT
end Go.Proofs.YtdbjbmdaekgbhaaGreatDoor
