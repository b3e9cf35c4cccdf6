/-
  Numbers rounded to places; a number as a whole number.
  A number of 128 bits as a text.
  A decimal number as a text.
-/
import Derived.Test.YtdbjbmdaekgbhaaGreatDoorWj
import Derived.Test.YtdbjbmdaekgbhaaGreatDoorEr

namespace Go.Proofs.YtdbjbmdaekgbhaaGreatDoor
open Go Go.Pe Go.RowKit

def isDmayb (n : Bool) (a b e : Int) (u : Value) : Prop := ∃ (ok : Bool), u = .bool ok ∧ (True)
theorem dmayb_hk_tree (K : Value → Nat → Prop) (n : Bool) (a b e : Int) :
 funcK (envW rulesRa []) 30 89 [.agg ⟨[.bool n, .int .u64 a, .int .u64 b, .int .i64 e]⟩] [] Tryz.prog.globals.size (fun u _ _ mw => K u mw) =
 ((u64 a ∧ u64 b ∧ u64 (Int.ofNat 542101086242752) ∧ u64 (Int.ofNat 4003012203950112768)) ∧ ∀ (c : Int), c = Int.negSucc 0 ∧ wV a b < Int.ofNat 10000000000000000000000000000000000 ∨ c = Int.ofNat 0 ∧ wV a b = Int.ofNat 10000000000000000000000000000000000 ∨ c = Int.ofNat 1 ∧ Int.ofNat 10000000000000000000000000000000000 < wV a b → bsel (decide (c < (0 : Int))) (bsel (decide (e ≥ (-6176 : Int))) (bsel (decide (e ≤ (6111 : Int))) (bsel n ((u64 a ∧ u64 b) ∧ bsel (a == (0 : Int) && b == (0 : Int)) (K (Value.bool false) 18446744073709551616) (K (Value.bool true) 18446744073709551616)) (K (Value.bool true) 18446744073709551616)) (K (Value.bool false) 18446744073709551616)) (K (Value.bool false) 18446744073709551616)) (K (Value.bool false) 18446744073709551616)) := by kernel_rfl
theorem dmayb_hk (n : Bool) (a b e : Int) (h1 : u64 a) (h2 : u64 b) : ReckA (envW rulesRa []) 30 89 [.agg ⟨[.bool n, .int .u64 a, .int .u64 b, .int .i64 e]⟩] (isDmayb n a b e) := by
  constructor
  rw [dmayb_hk_tree fun u mw => (isDmayb n a b e) u ∧ Tryz.prog.globals.size ≤ mw]
  refine ⟨⟨h1, h2, u64_lit rfl, u64_lit rfl⟩, fun c _ => ?_⟩
  repeat' (first | exact ⟨⟨_, rfl, trivial⟩, Nat.le_of_ble_eq_true (by kernel_rfl)⟩ | refine ⟨⟨h1, h2⟩, ?_⟩ | refine bsel_of (fun _ => ?_) (fun _ => ?_))
def ruleDmayb : Rule := ruleA fun args => match args with
  | [.agg ⟨[.bool n, .int .u64 a, .int .u64 b, .int .i64 e]⟩] => some fun K => (u64 a ∧ u64 b) ∧ ∀ (ok : Bool), K (.bool ok)
  | _ => none
theorem dmayb_ok {base : World} : RuleOk Tryz.prog base 89 ruleDmayb := ruleOkA fun args T K hT hK => by
  split at hT
  · cases hT
    obtain ⟨⟨h1, h2⟩, hK⟩ := hK
    obtain ⟨v, ⟨r0, rfl, hf⟩, ht⟩ := totA_of (base := base) (envW_ok (rulesRa_ok base)) (findL_ok (l := []) rfl fun _ h => nomatch h) rfl (dmayb_hk _ _ _ _ h1 h2) (fun v ⟨_, hv, _⟩ => by subst hv; kernel_rfl) (List.forall_mem_cons.2 ⟨by kernel_rfl, fun _ h => nomatch h⟩)
    exact ⟨_, hK r0, ht⟩
  · cases hT
def rulesMb : List (Nat × Rule) := (89, ruleDmayb) :: (101, ruleQdiv) :: rulesRa
theorem rulesMb_ok (base : World) : ∀ x ∈ rulesMb, RuleOk Tryz.prog base x.1 x.2 := List.forall_mem_cons.2 ⟨dmayb_ok, List.forall_mem_cons.2 ⟨qdiv_ok, rulesRa_ok base⟩⟩
def isScale (n : Bool) (a b e mode : Int) (u : Value) : Prop := ∃ (n' : Bool) (a' b' e' : Int) (ok : Bool), u = .tuple #[decC n' a' b' e', .bool ok] ∧ (u64 a' ∧ u64 b' ∧ i64 e')
theorem scale_hk_tree (K : Value → Nat → Prop) (n : Bool) (a b e mode : Int) :
 funcK (envW rulesMb []) 30 220 [.agg ⟨[.bool n, .int .u64 a, .int .u64 b, .int .i64 e]⟩, .int .i64 0, .int .i64 mode] [] Tryz.prog.globals.size (fun u _ _ mw => K u mw) =
 (bsel (decide (mode < (1 : Int))) (K (Value.tuple (Array.mk [Value.agg (Array.mk [Value.bool false, Value.int .u64 (Int.ofNat 0), Value.int .u64 (Int.ofNat 0), Value.int .i64 (Int.ofNat 0)]), Value.bool false])) 11) (bsel (decide (mode > (7 : Int))) (K (Value.tuple (Array.mk [Value.agg (Array.mk [Value.bool false, Value.int .u64 (Int.ofNat 0), Value.int .u64 (Int.ofNat 0), Value.int .i64 (Int.ofNat 0)]), Value.bool false])) 11) (bsel (decide (IntKind.wrap .i64 (IntKind.wrap .i64 ((0 : Int) - (0 : Int)) - e) ≥ (0 : Int))) (bsel n ((u64 (Int.ofNat 0) ∧ u64 (Int.ofNat 0) ∧ u64 a ∧ u64 b ∧ i64 e ∧ i64 (IntKind.wrap .i64 (IntKind.wrap .i64 ((0 : Int) - (0 : Int)) - e))) ∧ ∀ (n' : Bool) (a' b' c' d' e' : Int) (m' : Bool), u64 a' → u64 b' → u64 c' → u64 d' → i64 e' → bsel n' ((u64 c' ∧ u64 d') ∧ bsel (c' == (0 : Int) && d' == (0 : Int)) ((u64 c' ∧ u64 d') ∧ ∀ (ok : Bool), bsel ok (K (Value.tuple (Array.mk [Value.agg (Array.mk [Value.bool false, Value.int .u64 c', Value.int .u64 d', Value.int .i64 (Int.ofNat 0)]), Value.bool true])) 11) (K (Value.tuple (Array.mk [Value.agg (Array.mk [Value.bool false, Value.int .u64 c', Value.int .u64 d', Value.int .i64 (Int.ofNat 0)]), Value.bool false])) 11)) ((u64 c' ∧ u64 d') ∧ ∀ (ok : Bool), bsel ok (K (Value.tuple (Array.mk [Value.agg (Array.mk [Value.bool true, Value.int .u64 c', Value.int .u64 d', Value.int .i64 (Int.ofNat 0)]), Value.bool true])) 11) (K (Value.tuple (Array.mk [Value.agg (Array.mk [Value.bool true, Value.int .u64 c', Value.int .u64 d', Value.int .i64 (Int.ofNat 0)]), Value.bool false])) 11))) ((u64 c' ∧ u64 d') ∧ ∀ (ok : Bool), bsel ok (K (Value.tuple (Array.mk [Value.agg (Array.mk [Value.bool false, Value.int .u64 c', Value.int .u64 d', Value.int .i64 (Int.ofNat 0)]), Value.bool true])) 11) (K (Value.tuple (Array.mk [Value.agg (Array.mk [Value.bool false, Value.int .u64 c', Value.int .u64 d', Value.int .i64 (Int.ofNat 0)]), Value.bool false])) 11))) ((u64 (Int.ofNat 0) ∧ u64 (Int.ofNat 0) ∧ u64 a ∧ u64 b ∧ i64 e ∧ i64 (IntKind.wrap .i64 (IntKind.wrap .i64 ((0 : Int) - (0 : Int)) - e))) ∧ ∀ (n' : Bool) (a' b' c' d' e' : Int) (m' : Bool), u64 a' → u64 b' → u64 c' → u64 d' → i64 e' → bsel n' ((u64 c' ∧ u64 d') ∧ bsel (c' == (0 : Int) && d' == (0 : Int)) ((u64 c' ∧ u64 d') ∧ ∀ (ok : Bool), bsel ok (K (Value.tuple (Array.mk [Value.agg (Array.mk [Value.bool false, Value.int .u64 c', Value.int .u64 d', Value.int .i64 (Int.ofNat 0)]), Value.bool true])) 11) (K (Value.tuple (Array.mk [Value.agg (Array.mk [Value.bool false, Value.int .u64 c', Value.int .u64 d', Value.int .i64 (Int.ofNat 0)]), Value.bool false])) 11)) ((u64 c' ∧ u64 d') ∧ ∀ (ok : Bool), bsel ok (K (Value.tuple (Array.mk [Value.agg (Array.mk [Value.bool true, Value.int .u64 c', Value.int .u64 d', Value.int .i64 (Int.ofNat 0)]), Value.bool true])) 11) (K (Value.tuple (Array.mk [Value.agg (Array.mk [Value.bool true, Value.int .u64 c', Value.int .u64 d', Value.int .i64 (Int.ofNat 0)]), Value.bool false])) 11))) ((u64 c' ∧ u64 d') ∧ ∀ (ok : Bool), bsel ok (K (Value.tuple (Array.mk [Value.agg (Array.mk [Value.bool false, Value.int .u64 c', Value.int .u64 d', Value.int .i64 (Int.ofNat 0)]), Value.bool true])) 11) (K (Value.tuple (Array.mk [Value.agg (Array.mk [Value.bool false, Value.int .u64 c', Value.int .u64 d', Value.int .i64 (Int.ofNat 0)]), Value.bool false])) 11)))) (bsel n ((u64 a ∧ u64 b) ∧ bsel (a == (0 : Int) && b == (0 : Int)) (K (Value.tuple (Array.mk [Value.agg (Array.mk [Value.bool true, Value.int .u64 a, Value.int .u64 b, Value.int .i64 (Int.ofNat 0)]), Value.bool true])) 11) (bsel (decide (IntKind.wrap .i64 ((0 : Int) - IntKind.wrap .i64 (IntKind.wrap .i64 ((0 : Int) - (0 : Int)) - e)) > (34 : Int))) (K (Value.tuple (Array.mk [Value.agg (Array.mk [Value.bool false, Value.int .u64 (Int.ofNat 0), Value.int .u64 (Int.ofNat 0), Value.int .i64 (Int.ofNat 0)]), Value.bool false])) 11) (i64 (IntKind.wrap .i64 ((0 : Int) - IntKind.wrap .i64 (IntKind.wrap .i64 ((0 : Int) - (0 : Int)) - e))) ∧ ∀ (a_1 b_1 : Int) (ok : Bool), u64 a_1 → u64 b_1 → bsel ok ((u64 a ∧ u64 b ∧ u64 a_1 ∧ u64 b_1) ∧ ∀ (x y z w : Int), u64 x → u64 y → u64 z → u64 w → (u64 x ∧ u64 y) ∧ bsel (x == (0 : Int) && y == (0 : Int)) ((u64 z ∧ u64 w) ∧ ∀ (ok : Bool), bsel ok (K (Value.tuple (Array.mk [Value.agg (Array.mk [Value.bool true, Value.int .u64 z, Value.int .u64 w, Value.int .i64 (Int.ofNat 0)]), Value.bool true])) 11) (K (Value.tuple (Array.mk [Value.agg (Array.mk [Value.bool false, Value.int .u64 (Int.ofNat 0), Value.int .u64 (Int.ofNat 0), Value.int .i64 (Int.ofNat 0)]), Value.bool false])) 11)) (K (Value.tuple (Array.mk [Value.agg (Array.mk [Value.bool false, Value.int .u64 (Int.ofNat 0), Value.int .u64 (Int.ofNat 0), Value.int .i64 (Int.ofNat 0)]), Value.bool false])) 11)) ((u64 a ∧ u64 b ∧ u64 a_1 ∧ u64 b_1) ∧ ∀ (x y z w : Int), u64 x → u64 y → u64 z → u64 w → (u64 x ∧ u64 y) ∧ bsel (x == (0 : Int) && y == (0 : Int)) ((u64 z ∧ u64 w) ∧ ∀ (ok : Bool), bsel ok (K (Value.tuple (Array.mk [Value.agg (Array.mk [Value.bool true, Value.int .u64 z, Value.int .u64 w, Value.int .i64 (Int.ofNat 0)]), Value.bool true])) 11) (K (Value.tuple (Array.mk [Value.agg (Array.mk [Value.bool false, Value.int .u64 (Int.ofNat 0), Value.int .u64 (Int.ofNat 0), Value.int .i64 (Int.ofNat 0)]), Value.bool false])) 11)) (K (Value.tuple (Array.mk [Value.agg (Array.mk [Value.bool false, Value.int .u64 (Int.ofNat 0), Value.int .u64 (Int.ofNat 0), Value.int .i64 (Int.ofNat 0)]), Value.bool false])) 11))))) ((u64 a ∧ u64 b) ∧ bsel (a == (0 : Int) && b == (0 : Int)) (K (Value.tuple (Array.mk [Value.agg (Array.mk [Value.bool false, Value.int .u64 a, Value.int .u64 b, Value.int .i64 (Int.ofNat 0)]), Value.bool true])) 11) (bsel (decide (IntKind.wrap .i64 ((0 : Int) - IntKind.wrap .i64 (IntKind.wrap .i64 ((0 : Int) - (0 : Int)) - e)) > (34 : Int))) (K (Value.tuple (Array.mk [Value.agg (Array.mk [Value.bool false, Value.int .u64 (Int.ofNat 0), Value.int .u64 (Int.ofNat 0), Value.int .i64 (Int.ofNat 0)]), Value.bool false])) 11) (i64 (IntKind.wrap .i64 ((0 : Int) - IntKind.wrap .i64 (IntKind.wrap .i64 ((0 : Int) - (0 : Int)) - e))) ∧ ∀ (a_1 b_1 : Int) (ok : Bool), u64 a_1 → u64 b_1 → bsel ok ((u64 a ∧ u64 b ∧ u64 a_1 ∧ u64 b_1) ∧ ∀ (x y z w : Int), u64 x → u64 y → u64 z → u64 w → (u64 x ∧ u64 y) ∧ bsel (x == (0 : Int) && y == (0 : Int)) ((u64 z ∧ u64 w) ∧ ∀ (ok : Bool), bsel ok (K (Value.tuple (Array.mk [Value.agg (Array.mk [Value.bool false, Value.int .u64 z, Value.int .u64 w, Value.int .i64 (Int.ofNat 0)]), Value.bool true])) 11) (K (Value.tuple (Array.mk [Value.agg (Array.mk [Value.bool false, Value.int .u64 (Int.ofNat 0), Value.int .u64 (Int.ofNat 0), Value.int .i64 (Int.ofNat 0)]), Value.bool false])) 11)) (K (Value.tuple (Array.mk [Value.agg (Array.mk [Value.bool false, Value.int .u64 (Int.ofNat 0), Value.int .u64 (Int.ofNat 0), Value.int .i64 (Int.ofNat 0)]), Value.bool false])) 11)) ((u64 a ∧ u64 b ∧ u64 a_1 ∧ u64 b_1) ∧ ∀ (x y z w : Int), u64 x → u64 y → u64 z → u64 w → (u64 x ∧ u64 y) ∧ bsel (x == (0 : Int) && y == (0 : Int)) ((u64 z ∧ u64 w) ∧ ∀ (ok : Bool), bsel ok (K (Value.tuple (Array.mk [Value.agg (Array.mk [Value.bool false, Value.int .u64 z, Value.int .u64 w, Value.int .i64 (Int.ofNat 0)]), Value.bool true])) 11) (K (Value.tuple (Array.mk [Value.agg (Array.mk [Value.bool false, Value.int .u64 (Int.ofNat 0), Value.int .u64 (Int.ofNat 0), Value.int .i64 (Int.ofNat 0)]), Value.bool false])) 11)) (K (Value.tuple (Array.mk [Value.agg (Array.mk [Value.bool false, Value.int .u64 (Int.ofNat 0), Value.int .u64 (Int.ofNat 0), Value.int .i64 (Int.ofNat 0)]), Value.bool false])) 11))))))))) := by kernel_rfl
theorem scale_hk (n : Bool) (a b e mode : Int) (h1 : u64 a) (h2 : u64 b) (h3 : i64 e) (h4 : i64 mode) : ReckA (envW rulesMb []) 30 220 [.agg ⟨[.bool n, .int .u64 a, .int .u64 b, .int .i64 e]⟩, .int .i64 0, .int .i64 mode] (isScale n a b e mode) := by
  constructor
  rw [scale_hk_tree fun u mw => (isScale n a b e mode) u ∧ Tryz.prog.globals.size ≤ mw]
  repeat' (first | exact ⟨⟨_, _, _, _, _, rfl, by (first | assumption | exact u64_lit rfl), by (first | assumption | exact u64_lit rfl), by (first | assumption | exact i64_lit rfl | (repeat' (first | assumption | exact i64_wrap _ | exact i64_lit rfl | refine i64_pick ?_ ?_)))⟩, Nat.le_of_ble_eq_true (by kernel_rfl)⟩ | refine bsel_of (fun _ => ?_) (fun _ => ?_) | refine And.intro (by (repeat' (first | assumption | exact u64_lit rfl | exact i64_lit rfl | exact i64_wrap _ | exact u64_wrap _ | exact rfl | exact trivial | refine And.intro ?_ ?_ | refine i64_pick ?_ ?_ | refine u64_pick ?_ ?_ | decide))) ?_ | intro _)
def ruleScale : Rule := ruleA fun args => match args with
  | [.agg ⟨[.bool n, .int .u64 a, .int .u64 b, .int .i64 e]⟩, .int .i64 0, .int .i64 mode] => some fun K => (u64 a ∧ u64 b ∧ i64 e ∧ i64 mode) ∧ ∀ (n' : Bool) (a' b' e' : Int) (ok : Bool), u64 a' → u64 b' → i64 e' → K (.tuple #[decC n' a' b' e', .bool ok])
  | _ => none
theorem scale_ok {base : World} : RuleOk Tryz.prog base 220 ruleScale := ruleOkA fun args T K hT hK => by
  split at hT
  · cases hT
    obtain ⟨⟨h1, h2, h3, h4⟩, hK⟩ := hK
    obtain ⟨v, ⟨r0, r1, r2, r3, r4, rfl, hf⟩, ht⟩ := totA_of (base := base) (envW_ok (rulesMb_ok base)) (findL_ok (l := []) rfl fun _ h => nomatch h) rfl (scale_hk _ _ _ _ _ h1 h2 h3 h4) (fun v ⟨_, _, _, _, _, hv, _⟩ => by subst hv; kernel_rfl) (List.forall_mem_cons.2 ⟨by kernel_rfl, List.forall_mem_cons.2 ⟨by kernel_rfl, List.forall_mem_cons.2 ⟨by kernel_rfl, fun _ h => nomatch h⟩⟩⟩)
    exact ⟨_, hK r0 r1 r2 r3 r4 hf.1 hf.2.1 hf.2.2, ht⟩
  · cases hT
def blkD (n : Bool) (a b e : Int) : Blk := { cells := [some (.bool n), some (w64 a), some (w64 b), some (.int .i64 e)], elem := 28, own := true, room := 0, iter := none }
structure dwaS where
  (m0 : Bool) (a0 b0 e0 : Int) (n : Bool) (a b e : Int)
noncomputable def dwaL : LoopS dwaS where
  fn := 148
  keys := [1, 2, 3, 4]
  kv := fun ⟨m0, a0, b0, e0, n, a, b, e⟩ => [ptr 10, .int .i64 0, .bool false, ptr 11]
  hp := fun ⟨m0, a0, b0, e0, n, a, b, e⟩ => [(11, blkD n a b e), (10, blkD m0 a0 b0 e0)]
  lo := 12
  nx := 12
  mw := 10
  size := 98
theorem dwa_tree (P : Exit → Bool → List Value → Heap → Nat → Nat → Nat → FuncId → List (FuncId × List Value) → Prop) (m0 : Bool) (a0 b0 e0 : Int) (n : Bool) (a b e : Int) :
 codeK (envW rulesMb []) (funcK (envW rulesMb []) 30) (loopOf Tryz.prog 148 2) (dwaL.st ⟨m0, a0, b0, e0, n, a, b, e⟩) (dwaL.look P) =
 (bsel (decide (e < (0 : Int))) ((u64 a ∧ u64 b) ∧ bsel (a == (0 : Int) && b == (0 : Int)) (P (Go.Exit.exit 0) true [Value.pointer (some (Addr.mk 10 0 none)), Value.int .i64 (Int.ofNat 0), Value.bool false, Value.pointer (some (Addr.mk 11 0 none))] [(11, Blk.mk [some (Value.bool n), some (Value.int .u64 a), some (Value.int .u64 b), some (Value.int .i64 e)] 28 true 0 none false), (10, Blk.mk [some (Value.bool m0), some (Value.int .u64 a0), some (Value.int .u64 b0), some (Value.int .i64 e0)] 28 true 0 none false)] 13 10 98 148 []) ((u64 (Int.ofNat 0) ∧ u64 (Int.ofNat 0) ∧ u64 a ∧ u64 b ∧ u64 (Int.ofNat 10) ∧ Int.ofNat 0 < Int.ofNat 10) ∧ ∀ (e_1 f g h r : Int), u64 e_1 → u64 f → u64 g → u64 h → u64 r → wW e_1 f g h * Int.ofNat 10 + r = wW (0 : Int) (0 : Int) a b → bsel (r != (0 : Int)) (P Go.Exit.ret true [Value.pointer (some (Addr.mk 10 0 none)), Value.int .i64 (Int.ofNat 0), Value.bool false, Value.pointer (some (Addr.mk 11 0 none))] [(14, Blk.mk [some (Value.int .u64 g), some (Value.int .u64 h)] 24 true 0 none false), (13, Blk.mk [some (Value.int .u64 e_1), some (Value.int .u64 f)] 24 true 0 none false), (11, Blk.mk [some (Value.bool n), some (Value.int .u64 a), some (Value.int .u64 b), some (Value.int .i64 e)] 28 true 0 none false), (10, Blk.mk [some (Value.bool m0), some (Value.int .u64 a0), some (Value.int .u64 b0), some (Value.int .i64 e0)] 28 true 0 none false)] 15 10 98 148 []) (P Go.Exit.normal true [Value.pointer (some (Addr.mk 10 0 none)), Value.int .i64 (Int.ofNat 0), Value.bool false, Value.pointer (some (Addr.mk 11 0 none))] [(14, Blk.mk [some (Value.int .u64 g), some (Value.int .u64 h)] 24 true 0 none false), (13, Blk.mk [some (Value.int .u64 e_1), some (Value.int .u64 f)] 24 true 0 none false), (11, Blk.mk [some (Value.bool n), some (Value.int .u64 g), some (Value.int .u64 h), some (Value.int .i64 (IntKind.wrap .i64 (e + (1 : Int))))] 28 true 0 none false), (10, Blk.mk [some (Value.bool m0), some (Value.int .u64 a0), some (Value.int .u64 b0), some (Value.int .i64 e0)] 28 true 0 none false)] 15 10 98 148 []))) (P (Go.Exit.exit 0) true [Value.pointer (some (Addr.mk 10 0 none)), Value.int .i64 (Int.ofNat 0), Value.bool false, Value.pointer (some (Addr.mk 11 0 none))] [(11, Blk.mk [some (Value.bool n), some (Value.int .u64 a), some (Value.int .u64 b), some (Value.int .i64 e)] 28 true 0 none false), (10, Blk.mk [some (Value.bool m0), some (Value.int .u64 a0), some (Value.int .u64 b0), some (Value.int .i64 e0)] 28 true 0 none false)] 12 10 98 148 [])) := by kernel_rfl
def dwaI (k : Nat) (x : dwaS) : Prop := (u64 x.a ∧ u64 x.b) ∧ i64 x.e ∧ k = (-x.e).toNat
def dwaO (x : dwaS) : Prop := (u64 x.a ∧ u64 x.b) ∧ i64 x.e
def dwaR (_ : dwaS) : Prop := True
theorem dwa_round  (n0 : Nat) (m0 : Bool) (a0 b0 e0 : Int) (n : Bool) (a b e : Int) (hI : dwaI n0 ⟨m0, a0, b0, e0, n, a, b, e⟩) :
    Hush (codeK (envW rulesMb []) (funcK (envW rulesMb []) 30) (loopOf Tryz.prog 148 2) (dwaL.st ⟨m0, a0, b0, e0, n, a, b, e⟩) (dwaL.look (dwaL.To dwaI dwaO dwaR 0 n0))) := by
  constructor
  rw [dwa_tree]
  obtain ⟨⟨h1, h2⟩, h3, hn⟩ := hI
  try simp only at *
  have hx : dwaO ⟨m0, a0, b0, e0, n, a, b, e⟩ := ⟨⟨h1, h2⟩, h3⟩
  refine bsel_of (fun he => ⟨⟨h1, h2⟩, bsel_of (fun _ => ⟨rfl, _, hx, LoopS.At.quick [] rfl rfl (by kernel_rfl) rfl (by kernel_rfl) rfl rfl rfl⟩) (fun _ => ⟨⟨u64_lit rfl, u64_lit rfl, h1, h2, u64_lit rfl, by decide⟩, fun _ _ g h r _ _ k3 k4 _ _ => bsel_of (fun _ => ⟨⟨m0, a0, b0, e0, n, a, b, e⟩, trivial, LoopS.At.quick [] rfl rfl (by kernel_rfl) rfl (by kernel_rfl) rfl rfl rfl⟩) (fun _ => ⟨_, ⟨m0, a0, b0, e0, n, g, h, _⟩, ?_, ⟨⟨k3, k4⟩, i64_wrap _, rfl⟩, LoopS.At.quick [] rfl rfl (by kernel_rfl) rfl (by kernel_rfl) rfl rfl rfl⟩)⟩)⟩) (fun _ => ⟨rfl, _, hx, LoopS.At.quick [] rfl rfl (by kernel_rfl) rfl (by kernel_rfl) rfl rfl rfl⟩)
  have he : e < 0 := of_decide_eq_true he
  have hw : IntKind.wrap .i64 (e + 1) = e + 1 := wrap_i64r (by unfold i64 at *; omega)
  show (-(IntKind.wrap .i64 (e + 1))).toNat < n0
  rw [hw]
  omega
theorem dwa_rounds  : Rounds (envW rulesMb []) 30 (loopOf Tryz.prog 148 2) dwaL dwaI dwaO dwaR 0 := ⟨fun n x hI => dwa_round n x.m0 x.a0 x.b0 x.e0 x.n x.a x.b x.e hI⟩
def dwaT : LoopW := fun cq sq Kq => loopR (loopOf Tryz.prog 148 2) dwaL dwaI dwaO dwaR 0 cq sq Kq
theorem dwaT_ok {E : Env} (hP : E.P = Tryz.prog) (hW : E.weak = true) {base : World} : LoopOk E base dwaT := fun cq sq Kq h =>
  loopR_ok (E := envW rulesMb []) hP hW (envW_ok (rulesMb_ok base)) (findL_ok (l := []) rfl fun _ h => nomatch h) (by kernel_rfl) (by kernel_rfl) dwa_rounds h
structure dwbS where
  (m0 : Bool) (a0 b0 e0 : Int) (n : Bool) (a b e : Int)
noncomputable def dwbL : LoopS dwbS where
  fn := 148
  keys := [1, 2, 3, 4]
  kv := fun ⟨m0, a0, b0, e0, n, a, b, e⟩ => [ptr 10, .int .i64 0, .bool false, ptr 11]
  hp := fun ⟨m0, a0, b0, e0, n, a, b, e⟩ => [(11, blkD n a b e), (10, blkD m0 a0 b0 e0)]
  lo := 12
  nx := 12
  mw := 10
  size := 98
theorem dwb_tree (P : Exit → Bool → List Value → Heap → Nat → Nat → Nat → FuncId → List (FuncId × List Value) → Prop) (m0 : Bool) (a0 b0 e0 : Int) (n : Bool) (a b e : Int) :
 codeK (envW rulesMb []) (funcK (envW rulesMb []) 30) (loopOf Tryz.prog 148 7) (dwbL.st ⟨m0, a0, b0, e0, n, a, b, e⟩) (dwbL.look P) =
 (bsel (decide (e > (0 : Int))) ((u64 a ∧ u64 b) ∧ bsel (a == (0 : Int) && b == (0 : Int)) (P (Go.Exit.exit 2) true [Value.pointer (some (Addr.mk 10 0 none)), Value.int .i64 (Int.ofNat 0), Value.bool false, Value.pointer (some (Addr.mk 11 0 none))] [(11, Blk.mk [some (Value.bool n), some (Value.int .u64 a), some (Value.int .u64 b), some (Value.int .i64 e)] 28 true 0 none false), (10, Blk.mk [some (Value.bool m0), some (Value.int .u64 a0), some (Value.int .u64 b0), some (Value.int .i64 e0)] 28 true 0 none false)] 13 10 98 148 []) ((u64 a ∧ u64 b ∧ u64 (Int.ofNat 10)) ∧ ∀ (x y z : Int), u64 x → u64 y → u64 z → bsel (x != (0 : Int)) (P Go.Exit.ret true [Value.pointer (some (Addr.mk 10 0 none)), Value.int .i64 (Int.ofNat 0), Value.bool false, Value.pointer (some (Addr.mk 11 0 none))] [(13, Blk.mk [some (Value.int .u64 y), some (Value.int .u64 z)] 24 true 0 none false), (11, Blk.mk [some (Value.bool n), some (Value.int .u64 a), some (Value.int .u64 b), some (Value.int .i64 e)] 28 true 0 none false), (10, Blk.mk [some (Value.bool m0), some (Value.int .u64 a0), some (Value.int .u64 b0), some (Value.int .i64 e0)] 28 true 0 none false)] 14 10 98 148 []) (bsel (y != (0 : Int)) (P Go.Exit.ret true [Value.pointer (some (Addr.mk 10 0 none)), Value.int .i64 (Int.ofNat 0), Value.bool false, Value.pointer (some (Addr.mk 11 0 none))] [(13, Blk.mk [some (Value.int .u64 y), some (Value.int .u64 z)] 24 true 0 none false), (11, Blk.mk [some (Value.bool n), some (Value.int .u64 a), some (Value.int .u64 b), some (Value.int .i64 e)] 28 true 0 none false), (10, Blk.mk [some (Value.bool m0), some (Value.int .u64 a0), some (Value.int .u64 b0), some (Value.int .i64 e0)] 28 true 0 none false)] 14 10 98 148 []) (P Go.Exit.normal true [Value.pointer (some (Addr.mk 10 0 none)), Value.int .i64 (Int.ofNat 0), Value.bool false, Value.pointer (some (Addr.mk 11 0 none))] [(13, Blk.mk [some (Value.int .u64 y), some (Value.int .u64 z)] 24 true 0 none false), (11, Blk.mk [some (Value.bool n), some (Value.int .u64 y), some (Value.int .u64 z), some (Value.int .i64 (IntKind.wrap .i64 (e - (1 : Int))))] 28 true 0 none false), (10, Blk.mk [some (Value.bool m0), some (Value.int .u64 a0), some (Value.int .u64 b0), some (Value.int .i64 e0)] 28 true 0 none false)] 14 10 98 148 [])))) (P (Go.Exit.exit 2) true [Value.pointer (some (Addr.mk 10 0 none)), Value.int .i64 (Int.ofNat 0), Value.bool false, Value.pointer (some (Addr.mk 11 0 none))] [(11, Blk.mk [some (Value.bool n), some (Value.int .u64 a), some (Value.int .u64 b), some (Value.int .i64 e)] 28 true 0 none false), (10, Blk.mk [some (Value.bool m0), some (Value.int .u64 a0), some (Value.int .u64 b0), some (Value.int .i64 e0)] 28 true 0 none false)] 12 10 98 148 [])) := by kernel_rfl
def dwbI (k : Nat) (x : dwbS) : Prop := (u64 x.a ∧ u64 x.b) ∧ i64 x.e ∧ k = x.e.toNat
def dwbO (x : dwbS) : Prop := (u64 x.a ∧ u64 x.b) ∧ i64 x.e
def dwbR (_ : dwbS) : Prop := True
theorem dwb_round  (n0 : Nat) (m0 : Bool) (a0 b0 e0 : Int) (n : Bool) (a b e : Int) (hI : dwbI n0 ⟨m0, a0, b0, e0, n, a, b, e⟩) :
    Hush (codeK (envW rulesMb []) (funcK (envW rulesMb []) 30) (loopOf Tryz.prog 148 7) (dwbL.st ⟨m0, a0, b0, e0, n, a, b, e⟩) (dwbL.look (dwbL.To dwbI dwbO dwbR 2 n0))) := by
  constructor
  rw [dwb_tree]
  obtain ⟨⟨h1, h2⟩, h3, hn⟩ := hI
  try simp only at *
  have hx : dwbO ⟨m0, a0, b0, e0, n, a, b, e⟩ := ⟨⟨h1, h2⟩, h3⟩
  refine bsel_of (fun he => ⟨⟨h1, h2⟩, bsel_of (fun _ => ⟨rfl, _, hx, LoopS.At.quick [] rfl rfl (by kernel_rfl) rfl (by kernel_rfl) rfl rfl rfl⟩) (fun _ => ⟨⟨h1, h2, u64_lit rfl⟩, fun x y z _ k2 k3 => bsel_of (fun _ => ⟨⟨m0, a0, b0, e0, n, a, b, e⟩, trivial, LoopS.At.quick [] rfl rfl (by kernel_rfl) rfl (by kernel_rfl) rfl rfl rfl⟩) (fun _ => bsel_of (fun _ => ⟨⟨m0, a0, b0, e0, n, a, b, e⟩, trivial, LoopS.At.quick [] rfl rfl (by kernel_rfl) rfl (by kernel_rfl) rfl rfl rfl⟩) (fun _ => ⟨_, ⟨m0, a0, b0, e0, n, y, z, _⟩, ?_, ⟨⟨k2, k3⟩, i64_wrap _, rfl⟩, LoopS.At.quick [] rfl rfl (by kernel_rfl) rfl (by kernel_rfl) rfl rfl rfl⟩))⟩)⟩) (fun _ => ⟨rfl, _, hx, LoopS.At.quick [] rfl rfl (by kernel_rfl) rfl (by kernel_rfl) rfl rfl rfl⟩)
  have he : e > 0 := of_decide_eq_true he
  have hw : IntKind.wrap .i64 (e - 1) = e - 1 := wrap_i64r (by unfold i64 at *; omega)
  show (IntKind.wrap .i64 (e - 1)).toNat < n0
  rw [hw]
  omega
theorem dwb_rounds  : Rounds (envW rulesMb []) 30 (loopOf Tryz.prog 148 7) dwbL dwbI dwbO dwbR 2 := ⟨fun n x hI => dwb_round n x.m0 x.a0 x.b0 x.e0 x.n x.a x.b x.e hI⟩
def dwbT : LoopW := fun cq sq Kq => loopR (loopOf Tryz.prog 148 7) dwbL dwbI dwbO dwbR 2 cq sq Kq
theorem dwbT_ok {E : Env} (hP : E.P = Tryz.prog) (hW : E.weak = true) {base : World} : LoopOk E base dwbT := fun cq sq Kq h =>
  loopR_ok (E := envW rulesMb []) hP hW (envW_ok (rulesMb_ok base)) (findL_ok (l := []) rfl fun _ h => nomatch h) (by kernel_rfl) (by kernel_rfl) dwb_rounds h
def loopsWh : List ((Nat × Nat) × LoopW) := [((148, 2), dwaT), ((148, 7), dwbT)]
theorem loopsWh_ok {E : Env} (hP : E.P = Tryz.prog) (hW : E.weak = true) (base : World) : ∀ x ∈ loopsWh, LoopOk E base x.2 := List.forall_mem_cons.2 ⟨dwaT_ok hP hW, List.forall_mem_cons.2 ⟨dwbT_ok hP hW, fun _ h => nomatch h⟩⟩
def isDwhole (n : Bool) (a b e : Int) (u : Value) : Prop := ∃ (k : Int) (ok : Bool), u = .tuple #[.int .i64 k, .bool ok] ∧ (i64 k)
theorem dwhole_hk_tree (K : Value → Nat → Prop) (n : Bool) (a b e : Int) :
 funcK (envW rulesMb loopsWh) 30 148 [.agg ⟨[.bool n, .int .u64 a, .int .u64 b, .int .i64 e]⟩] [] Tryz.prog.globals.size (fun u _ _ mw => K u mw) =
 (Is (loopOf Go.Proofs.Tryz.prog 148 2) (loopOf Go.Proofs.Tryz.prog 148 2) ∧ ∃ (x : Nat), ∃ (x_1 : dwaS), (dwaI x x_1 ∧ true = true ∧ LoopS.At dwaL x_1 true [Value.pointer (some (Addr.mk 10 0 none)), Value.int .i64 (Int.ofNat 0), Value.bool false, Value.pointer (some (Addr.mk 11 0 none))] [(11, Blk.mk [some (Value.bool n), some (Value.int .u64 a), some (Value.int .u64 b), some (Value.int .i64 e)] 28 true 0 none false), (10, Blk.mk [some (Value.bool n), some (Value.int .u64 a), some (Value.int .u64 b), some (Value.int .i64 e)] 28 true 0 none false)] 12 11 98 148 []) ∧ (∀ (a' : dwaS), dwaO a' → Is (loopOf Go.Proofs.Tryz.prog 148 7) (loopOf Go.Proofs.Tryz.prog 148 7) ∧ ∃ (x : Nat), ∃ (x_2 : dwbS), (dwbI x x_2 ∧ true = true ∧ LoopS.At dwbL x_2 true [Value.pointer (some (Addr.mk 10 0 none)), Value.int .i64 (Int.ofNat 0), Value.bool false, Value.pointer (some (Addr.mk 11 0 none))] [(11, Blk.mk [some (Value.bool a'.5), some (Value.int .u64 a'.6), some (Value.int .u64 a'.7), some (Value.int .i64 a'.8)] 28 true 0 none false), (10, Blk.mk [some (Value.bool a'.1), some (Value.int .u64 a'.2), some (Value.int .u64 a'.3), some (Value.int .i64 a'.4)] 28 true 0 none false)] 12 10 98 148 []) ∧ (∀ (a' : dwbS), dwbO a' → bsel (a'.6 != (0 : Int)) (K (Value.tuple (Array.mk [Value.int .i64 (Int.ofNat 0), Value.bool false])) 10) (bsel (decide (a'.7 > (9223372036854775808 : Int))) (K (Value.tuple (Array.mk [Value.int .i64 (Int.ofNat 0), Value.bool false])) 10) (bsel (a'.7 == (9223372036854775808 : Int)) (bsel a'.1 (bsel a'.1 (K (Value.tuple (Array.mk [Value.int .i64 (IntKind.wrap .i64 (IntKind.wrap .u64 ((0 : Int) - a'.7))), Value.bool true])) 10) (K (Value.tuple (Array.mk [Value.int .i64 (IntKind.wrap .i64 a'.7), Value.bool true])) 10)) (K (Value.tuple (Array.mk [Value.int .i64 (Int.ofNat 0), Value.bool false])) 10)) (bsel a'.1 (K (Value.tuple (Array.mk [Value.int .i64 (IntKind.wrap .i64 (IntKind.wrap .u64 ((0 : Int) - a'.7))), Value.bool true])) 10) (K (Value.tuple (Array.mk [Value.int .i64 (IntKind.wrap .i64 a'.7), Value.bool true])) 10))))) ∧ ∀ (a' : dwbS), dwbR a' → K (Value.tuple (Array.mk [Value.int .i64 (Int.ofNat 0), Value.bool false])) 10) ∧ ∀ (a' : dwaS), dwaR a' → K (Value.tuple (Array.mk [Value.int .i64 (Int.ofNat 0), Value.bool false])) 10) := by kernel_rfl
theorem dwhole_hk (n : Bool) (a b e : Int) (h1 : u64 a) (h2 : u64 b) (h3 : i64 e) : ReckA (envW rulesMb loopsWh) 30 148 [.agg ⟨[.bool n, .int .u64 a, .int .u64 b, .int .i64 e]⟩] (isDwhole n a b e) := by
  constructor
  rw [dwhole_hk_tree fun u mw => (isDwhole n a b e) u ∧ Tryz.prog.globals.size ≤ mw]
  repeat' (first | exact ⟨⟨_, _, rfl, by (first | assumption | exact i64_lit rfl | (repeat' (first | assumption | exact i64_wrap _ | exact i64_lit rfl | refine i64_pick ?_ ?_)))⟩, Nat.le_of_ble_eq_true (by kernel_rfl)⟩ | refine ⟨⟨rfl⟩, _, ⟨_, _, _, _, _, _, _, _⟩, ⟨⟨⟨by (first | assumption | exact u64_lit rfl), by (first | assumption | exact u64_lit rfl)⟩, by (first | assumption | exact i64_lit rfl | (repeat' (first | assumption | exact i64_wrap _ | exact i64_lit rfl | refine i64_pick ?_ ?_))), rfl⟩, by kernel_rfl, LoopS.At.quick [] rfl rfl (by kernel_rfl) rfl (by kernel_rfl) rfl rfl rfl⟩, fun ⟨_, _, _, _, _, _, _, _⟩ ⟨⟨_, _⟩, _⟩ => ?_, fun ⟨_, _, _, _, _, _, _, _⟩ _ => ?_⟩ | refine bsel_of (fun _ => ?_) (fun _ => ?_) | refine And.intro (by (repeat' (first | assumption | exact u64_lit rfl | exact i64_lit rfl | exact i64_wrap _ | exact u64_wrap _ | exact rfl | exact trivial | refine And.intro ?_ ?_ | refine i64_pick ?_ ?_ | refine u64_pick ?_ ?_ | decide))) ?_ | intro _)
def ruleDwhole : Rule := ruleA fun args => match args with
  | [.agg ⟨[.bool n, .int .u64 a, .int .u64 b, .int .i64 e]⟩] => some fun K => (u64 a ∧ u64 b ∧ i64 e) ∧ ∀ (k : Int) (ok : Bool), i64 k → K (.tuple #[.int .i64 k, .bool ok])
  | _ => none
theorem dwhole_ok {base : World} : RuleOk Tryz.prog base 148 ruleDwhole := ruleOkA fun args T K hT hK => by
  split at hT
  · cases hT
    obtain ⟨⟨h1, h2, h3⟩, hK⟩ := hK
    obtain ⟨v, ⟨r0, r1, rfl, hf⟩, ht⟩ := totA_of (base := base) (envW_ok (rulesMb_ok base)) (findL_ok rfl (loopsWh_ok rfl rfl base)) rfl (dwhole_hk _ _ _ _ h1 h2 h3) (fun v ⟨_, _, hv, _⟩ => by subst hv; kernel_rfl) (List.forall_mem_cons.2 ⟨by kernel_rfl, fun _ h => nomatch h⟩)
    exact ⟨_, hK r0 r1 hf, ht⟩
  · cases hT
def rulesSc : List (Nat × Rule) := (148, ruleDwhole) :: (220, ruleScale) :: rulesMb
theorem rulesSc_ok (base : World) : ∀ x ∈ rulesSc, RuleOk Tryz.prog base x.1 x.2 := List.forall_mem_cons.2 ⟨dwhole_ok, List.forall_mem_cons.2 ⟨scale_ok, rulesMb_ok base⟩⟩
end Go.Proofs.YtdbjbmdaekgbhaaGreatDoor

namespace Go.Proofs.YtdbjbmdaekgbhaaGreatDoor
open Go Go.Pe Go.RowKit

theorem u8_wrap (x : Int) : 0 ≤ IntKind.wrap .u8 x ∧ IntKind.wrap .u8 x < 256 := by
  have h : IntKind.wrap .u8 x = x % 256 := by simp [IntKind.wrap, IntKind.bits, IntKind.signed]
  rw [h]
  omega
def blkC (e : TypeId) (c : List (Option Value)) : Blk := { cells := c, elem := e, own := true, room := 0, iter := none, sym := true }
def blkY (l : List UInt8) : Blk := blkC 245 (bytesC l)
theorem bytesAre_nil (c : List (Option Value)) (i : Nat) : bytesAre c i [] := by
  unfold bytesAre
  cases h : c.drop i with
  | nil => rfl
  | cons x l => cases x <;> rfl
theorem v_top40 {c d : Int} (h1 : u64 c) (h2 : u64 d) : wV c d < 10 ^ 40 := by
  unfold u64 at *
  unfold wV
  omega
structure utxS where
  (h l : Int) (cs : List UInt8) (k : Int)
noncomputable def utxL : LoopS utxS where
  fn := 132
  keys := [1, 3, 4]
  kv := fun ⟨h, l, cs, k⟩ => [ptr 10, ptr 11, .int .i64 k]
  hp := fun ⟨h, l, cs, k⟩ => [(11, blkY cs), (10, blkU h l)]
  lo := 12
  nx := 12
  mw := 10
  size := 33
theorem utx_tree (P : Exit → Bool → List Value → Heap → Nat → Nat → Nat → FuncId → List (FuncId × List Value) → Prop) (h l : Int) (cs : List UInt8) (k : Int) :
 codeK (envW rulesSc []) (funcK (envW rulesSc []) 30) (loopOf Tryz.prog 132 5) (utxL.st ⟨h, l, cs, k⟩) (utxL.look P) =
 ((u64 h ∧ u64 l) ∧ bsel (h == (0 : Int) && l == (0 : Int)) (P (Go.Exit.exit 0) true [Value.pointer (some (Addr.mk 10 0 none)), Value.pointer (some (Addr.mk 11 0 none)), Value.int .i64 k] [(11, Blk.mk (bytesC cs) 245 true 0 none true), (10, Blk.mk [some (Value.int .u64 h), some (Value.int .u64 l)] 24 true 0 none false)] 12 10 33 132 []) ((u64 (Int.ofNat 0) ∧ u64 (Int.ofNat 0) ∧ u64 h ∧ u64 l ∧ u64 (Int.ofNat 10) ∧ Int.ofNat 0 < Int.ofNat 10) ∧ ∀ (e f g h_1 r : Int), u64 e → u64 f → u64 g → u64 h_1 → u64 r → wW e f g h_1 * Int.ofNat 10 + r = wW (0 : Int) (0 : Int) h l → bsel (decide ((0 : Int) ≤ IntKind.wrap .i64 (k - (1 : Int))) && decide (IntKind.wrap .i64 (k - (1 : Int)) < (↑40 : Int))) (((List.all [Value.int .u8 (IntKind.wrap .u8 (IntKind.wrap .u64 ((48 : Int) + r)))] fun (x : Value) => Value.oneCell' x) = true ∧ 0 + Int.toNat (IntKind.wrap .i64 (k - (1 : Int))) * 1 + 1 ≤ List.length (bytesC cs)) ∧ P Go.Exit.normal true [Value.pointer (some (Addr.mk 10 0 none)), Value.pointer (some (Addr.mk 11 0 none)), Value.int .i64 (IntKind.wrap .i64 (k - (1 : Int)))] [(13, Blk.mk [some (Value.int .u64 g), some (Value.int .u64 h_1)] 24 true 0 none false), (12, Blk.mk [some (Value.int .u64 e), some (Value.int .u64 f)] 24 true 0 none false), (11, Blk.mk (putC (bytesC cs) (0 + Int.toNat (IntKind.wrap .i64 (k - (1 : Int))) * 1) [Value.int .u8 (IntKind.wrap .u8 (IntKind.wrap .u64 ((48 : Int) + r)))]) 245 true 0 none true), (10, Blk.mk [some (Value.int .u64 g), some (Value.int .u64 h_1)] 24 true 0 none false)] 14 10 33 132 []) False)) := by kernel_rfl
def utxI (n : Nat) (x : utxS) : Prop := (u64 x.h ∧ u64 x.l) ∧ x.cs.length = 40 ∧ (∃ k : Nat, k ≤ 40 ∧ x.k = (k : Int) ∧ wV x.h x.l < 10 ^ k) ∧ n = (wV x.h x.l).toNat
def utxO (x : utxS) : Prop := x.cs.length = 40 ∧ 0 ≤ x.k ∧ x.k ≤ 40
theorem utx_round  (n0 : Nat) (h l : Int) (cs : List UInt8) (k : Int) (hI : utxI n0 ⟨h, l, cs, k⟩) :
    Hush (codeK (envW rulesSc []) (funcK (envW rulesSc []) 30) (loopOf Tryz.prog 132 5) (utxL.st ⟨h, l, cs, k⟩) (utxL.look (utxL.To utxI utxO (fun _ => False) 0 n0))) := by
  constructor
  rw [utx_tree]
  obtain ⟨⟨h1, h2⟩, h3, ⟨j, hj, h4, h5⟩, hn⟩ := hI
  try simp only at *
  refine ⟨⟨h1, h2⟩, bsel_of (fun _ => ⟨rfl, ⟨h, l, cs, k⟩, ⟨h3, by show 0 ≤ k; omega, by show k ≤ 40; omega⟩, LoopS.At.each [] rfl (HIn.s (by kernel_rfl) (rfl) (bytesC_pure _) (HIn.c (by kernel_rfl) rfl .n)) (by kernel_rfl) rfl (by kernel_rfl) rfl rfl rfl⟩) (fun hz => ⟨⟨u64_lit rfl, u64_lit rfl, h1, h2, u64_lit rfl, by decide⟩, fun e f g h' r k1 k2 k3 k4 k5 k6 => ?_⟩)⟩
  have k6 : wW e f g h' * 10 + r = wW 0 0 h l := k6
  have hab : ¬ (h = 0 ∧ l = 0) := fun ⟨ha, hb⟩ => by simp [ha, hb] at hz
  have hv : 0 < wV h l := by
    unfold u64 at *
    unfold wV
    omega
  have e0 : wW 0 0 h l = wV h l := by
    unfold wW wV
    omega
  rw [e0] at k6
  have hle : wV g h' ≤ wW e f g h' := by
    unfold u64 at *
    unfold wW wV
    omega
  have hr : 0 ≤ r := k5.1
  have hq : 0 ≤ wV g h' := by
    unfold u64 at *
    unfold wV
    omega
  obtain ⟨i, hi, hw⟩ := ten_step h5 hv k6 hr (Int.le_trans hq hle)
  have hm : IntKind.wrap .i64 (k - 1) = (i : Int) := by
    rw [wrap_i64r (by unfold i64; omega)]
    omega
  rw [hm]
  have hlt : (wV g h').toNat < n0 := by omega
  have hlen : 0 + Int.toNat (i : Int) * 1 + 1 ≤ List.length (bytesC cs) := by
    rw [bytesC_length, h3, Int.toNat_natCast]
    omega
  obtain ⟨cs', e1, e2⟩ := putC_bytes cs (0 + Int.toNat (i : Int) * 1) (x := IntKind.wrap .u8 (IntKind.wrap .u64 (48 + r))) (u8_wrap _).1 (u8_wrap _).2 (by rw [bytesC_length] at hlen; omega)
  exact bsel_of (fun _ => ⟨⟨rfl, hlen⟩, (wV g h').toNat, ⟨g, h', cs', (i : Int)⟩, hlt, ⟨⟨k3, k4⟩, e2.trans h3, ⟨i, by omega, rfl, Int.lt_of_le_of_lt hle hw⟩, rfl⟩, LoopS.At.each [] rfl (HIn.s (by kernel_rfl) (congrArg (fun c => some (plainB (blkC 245 c))) e1) (bytesC_pure _) (HIn.c (by kernel_rfl) rfl .n)) (by kernel_rfl) rfl (by kernel_rfl) rfl rfl rfl⟩) (fun hb => absurd hb (by simp; omega))
theorem utx_rounds  : Rounds (envW rulesSc []) 30 (loopOf Tryz.prog 132 5) utxL utxI utxO (fun _ => False) 0 := ⟨fun n x hI => utx_round n x.h x.l x.cs x.k hI⟩
def utxT : LoopW := fun cq sq Kq => loopT (loopOf Tryz.prog 132 5) utxL utxI utxO 0 cq sq Kq
theorem utxT_ok {E : Env} (hP : E.P = Tryz.prog) (hW : E.weak = true) {base : World} : LoopOk E base utxT := fun cq sq Kq h =>
  loopT_ok (E := envW rulesSc []) hP hW (envW_ok (rulesSc_ok base)) (findL_ok (l := []) rfl fun _ h => nomatch h) (by kernel_rfl) (by kernel_rfl) utx_rounds h
def loopsUt : List ((Nat × Nat) × LoopW) := [((132, 5), utxT)]
theorem loopsUt_ok {E : Env} (hP : E.P = Tryz.prog) (hW : E.weak = true) (base : World) : ∀ x ∈ loopsUt, LoopOk E base x.2 := List.forall_mem_cons.2 ⟨utxT_ok hP hW, fun _ h => nomatch h⟩
def isUtext (a b : Int) (u : Value) : Prop := ∃ (s : ByteArray), u = .string s ∧ (strLen s ≤ 40)
theorem utext_hk_tree (K : Value → Nat → Prop) (a b : Int) :
 funcK (envW rulesSc loopsUt) 30 132 [.agg ⟨[.int .u64 a, .int .u64 b]⟩] [] Tryz.prog.globals.size (fun u _ _ mw => K u mw) =
 ((u64 a ∧ u64 b) ∧ bsel (a == (0 : Int) && b == (0 : Int)) (K (Value.string (ByteArray.mk #[(48 : UInt8)])) 18446744073709551616) (Is (loopOf Go.Proofs.Tryz.prog 132 5) (loopOf Go.Proofs.Tryz.prog 132 5) ∧ ∃ (x : Nat), ∃ (x_1 : utxS), (utxI x x_1 ∧ true = true ∧ LoopS.At utxL x_1 true [Value.pointer (some (Addr.mk 10 0 none)), Value.pointer (some (Addr.mk 11 0 none)), Value.int .i64 (Int.ofNat 40)] [(11, Blk.mk [some (Value.int .u8 (Int.ofNat 0)), some (Value.int .u8 (Int.ofNat 0)), some (Value.int .u8 (Int.ofNat 0)), some (Value.int .u8 (Int.ofNat 0)), some (Value.int .u8 (Int.ofNat 0)), some (Value.int .u8 (Int.ofNat 0)), some (Value.int .u8 (Int.ofNat 0)), some (Value.int .u8 (Int.ofNat 0)), some (Value.int .u8 (Int.ofNat 0)), some (Value.int .u8 (Int.ofNat 0)), some (Value.int .u8 (Int.ofNat 0)), some (Value.int .u8 (Int.ofNat 0)), some (Value.int .u8 (Int.ofNat 0)), some (Value.int .u8 (Int.ofNat 0)), some (Value.int .u8 (Int.ofNat 0)), some (Value.int .u8 (Int.ofNat 0)), some (Value.int .u8 (Int.ofNat 0)), some (Value.int .u8 (Int.ofNat 0)), some (Value.int .u8 (Int.ofNat 0)), some (Value.int .u8 (Int.ofNat 0)), some (Value.int .u8 (Int.ofNat 0)), some (Value.int .u8 (Int.ofNat 0)), some (Value.int .u8 (Int.ofNat 0)), some (Value.int .u8 (Int.ofNat 0)), some (Value.int .u8 (Int.ofNat 0)), some (Value.int .u8 (Int.ofNat 0)), some (Value.int .u8 (Int.ofNat 0)), some (Value.int .u8 (Int.ofNat 0)), some (Value.int .u8 (Int.ofNat 0)), some (Value.int .u8 (Int.ofNat 0)), some (Value.int .u8 (Int.ofNat 0)), some (Value.int .u8 (Int.ofNat 0)), some (Value.int .u8 (Int.ofNat 0)), some (Value.int .u8 (Int.ofNat 0)), some (Value.int .u8 (Int.ofNat 0)), some (Value.int .u8 (Int.ofNat 0)), some (Value.int .u8 (Int.ofNat 0)), some (Value.int .u8 (Int.ofNat 0)), some (Value.int .u8 (Int.ofNat 0)), some (Value.int .u8 (Int.ofNat 0))] 245 true 0 none false), (10, Blk.mk [some (Value.int .u64 a), some (Value.int .u64 b)] 24 true 0 none false)] 12 18446744073709551616 33 132 []) ∧ ∀ (a' : utxS), utxO a' → bsel (decide ((0 : Int) ≤ a'.4) && decide (a'.4 ≤ (↑40 : Int))) (bsel (Nat.beq 40 (Int.toNat a'.4)) (∃ (x : List UInt8), (List.length x = 40 - Int.toNat a'.4 ∧ bytesAre (bytesC a'.3) 0 x) ∧ K (Value.string (ByteArray.mk (List.toArray x))) 10) (∃ (x : List UInt8), (List.length x = 40 - Int.toNat a'.4 ∧ bytesAre (bytesC a'.3) (0 + Int.toNat a'.4 * 1) x) ∧ K (Value.string (ByteArray.mk (List.toArray x))) 10)) False)) := by kernel_rfl
theorem utext_hk (a b : Int) (h1 : u64 a) (h2 : u64 b) : ReckA (envW rulesSc loopsUt) 30 132 [.agg ⟨[.int .u64 a, .int .u64 b]⟩] (isUtext a b) := by
  constructor
  rw [utext_hk_tree fun u mw => (isUtext a b) u ∧ Tryz.prog.globals.size ≤ mw]
  refine ⟨⟨h1, h2⟩, bsel_of (fun _ => ⟨⟨_, rfl, by decide⟩, Nat.le_of_ble_eq_true (by kernel_rfl)⟩) (fun _ => ⟨⟨rfl⟩, _, ⟨a, b, List.replicate 40 0, 40⟩, ⟨⟨⟨h1, h2⟩, rfl, ⟨40, Nat.le_refl _, rfl, v_top40 h1 h2⟩, rfl⟩, by kernel_rfl, LoopS.At.each [] rfl (HIn.s (by kernel_rfl) (rfl) (bytesC_pure _) (HIn.c (by kernel_rfl) rfl .n)) (by kernel_rfl) rfl (by kernel_rfl) rfl rfl rfl⟩, fun ⟨h', l', cs', k'⟩ ⟨q1, q2, q3⟩ => bsel_of (fun _ => bsel_of (fun hb => ⟨[], ⟨?_, bytesAre_nil _ _⟩, ⟨_, rfl, by decide⟩, Nat.le_of_ble_eq_true (by kernel_rfl)⟩) (fun _ => ⟨cs'.drop k'.toNat, ⟨?_, ?_⟩, ⟨_, rfl, ?_⟩, Nat.le_of_ble_eq_true (by kernel_rfl)⟩)) (fun hb => absurd hb ?_)⟩)⟩
  · have hb : 40 = k'.toNat := beq_true hb
    show 0 = 40 - k'.toNat
    omega
  · simp only at q1
    rw [List.length_drop, q1]
  · have := bytesAre_drop cs' k'.toNat
    simpa using this
  · simp only at q1
    show (List.drop k'.toNat cs').length ≤ 40
    rw [List.length_drop, q1]
    omega
  · simp only at q2 q3
    simp
    omega
def ruleUtext : Rule := ruleA fun args => match args with
  | [.agg ⟨[.int .u64 a, .int .u64 b]⟩] => some fun K => (u64 a ∧ u64 b) ∧ ∀ (s : ByteArray), strLen s ≤ 40 → K (.string s)
  | _ => none
theorem utext_ok {base : World} : RuleOk Tryz.prog base 132 ruleUtext := ruleOkA fun args T K hT hK => by
  split at hT
  · cases hT
    obtain ⟨⟨h1, h2⟩, hK⟩ := hK
    obtain ⟨v, ⟨r0, rfl, hf⟩, ht⟩ := totA_of (base := base) (envW_ok (rulesSc_ok base)) (findL_ok rfl (loopsUt_ok rfl rfl base)) rfl (utext_hk _ _ h1 h2) (fun v ⟨_, hv, _⟩ => by subst hv; kernel_rfl) (List.forall_mem_cons.2 ⟨by kernel_rfl, fun _ h => nomatch h⟩)
    exact ⟨_, hK r0 hf, ht⟩
  · cases hT
end Go.Proofs.YtdbjbmdaekgbhaaGreatDoor

namespace Go.Proofs.YtdbjbmdaekgbhaaGreatDoor
open Go Go.Pe Go.RowKit

structure ntxS where
  (n : Bool) (a b e : Int) (s : ByteArray)
noncomputable def ntxL : LoopS ntxS where
  fn := 48
  keys := [1, 3]
  kv := fun ⟨n, a, b, e, s⟩ => [ptr 10, .string s]
  hp := fun ⟨n, a, b, e, s⟩ => [(10, blkD n a b e)]
  lo := 11
  nx := 11
  mw := 10
  size := 53
theorem ntx_tree (P : Exit → Bool → List Value → Heap → Nat → Nat → Nat → FuncId → List (FuncId × List Value) → Prop) (n : Bool) (a b e : Int) (s : ByteArray) :
 codeK (envW rulesSc []) (funcK (envW rulesSc []) 30) (loopOf Tryz.prog 48 3) (ntxL.st ⟨n, a, b, e, s⟩) (ntxL.look P) =
 (bsel (decide ((↑(strLen s) : Int) ≤ IntKind.wrap .i64 ((0 : Int) - e))) (bsel (Nat.ble (1 + strLen s) 9223372036854775807) (P Go.Exit.normal true [Value.pointer (some (Addr.mk 10 0 none)), Value.string (strCat (ByteArray.mk #[(48 : UInt8)]) s)] [(10, Blk.mk [some (Value.bool n), some (Value.int .u64 a), some (Value.int .u64 b), some (Value.int .i64 e)] 28 true 0 none false)] 11 10 53 48 []) False) (P (Go.Exit.exit 1) true [Value.pointer (some (Addr.mk 10 0 none)), Value.string s] [(10, Blk.mk [some (Value.bool n), some (Value.int .u64 a), some (Value.int .u64 b), some (Value.int .i64 e)] 28 true 0 none false)] 11 10 53 48 [])) := by kernel_rfl
def ntxI (k : Nat) (x : ntxS) : Prop := (-40 ≤ x.e ∧ x.e < 0) ∧ strLen x.s ≤ 41 ∧ k = 41 - strLen x.s
def ntxO (x : ntxS) : Prop := (-40 ≤ x.e ∧ x.e < 0) ∧ strLen x.s ≤ 41 ∧ -x.e < (strLen x.s : Int)
theorem ntx_round  (n0 : Nat) (n : Bool) (a b e : Int) (s : ByteArray) (hI : ntxI n0 ⟨n, a, b, e, s⟩) :
    Hush (codeK (envW rulesSc []) (funcK (envW rulesSc []) 30) (loopOf Tryz.prog 48 3) (ntxL.st ⟨n, a, b, e, s⟩) (ntxL.look (ntxL.To ntxI ntxO (fun _ => False) 1 n0))) := by
  constructor
  rw [ntx_tree]
  obtain ⟨⟨h1, h2⟩, h3, hn⟩ := hI
  try simp only at *
  have hw : IntKind.wrap .i64 (0 - e) = -e := by
    rw [wrap_i64r (by unfold i64; omega)]
    omega
  have l1 : strLen ⟨#[48]⟩ = 1 := rfl
  rw [hw]
  refine bsel_of (fun hc => ?_) (fun hc => ⟨rfl, ⟨n, a, b, e, s⟩, ⟨⟨h1, h2⟩, h3, ?_⟩, LoopS.At.quick [] rfl rfl (by kernel_rfl) rfl (by kernel_rfl) rfl rfl rfl⟩)
  · have hc : (strLen s : Int) ≤ -e := of_decide_eq_true hc
    refine bsel_of (fun _ => ⟨41 - strLen (strCat ⟨#[48]⟩ s), ⟨n, a, b, e, strCat ⟨#[48]⟩ s⟩, ?_, ⟨⟨h1, h2⟩, ?_, rfl⟩, LoopS.At.quick [] rfl rfl (by kernel_rfl) rfl (by kernel_rfl) rfl rfl rfl⟩) (fun h => absurd (ble_false h) (by omega))
    · rw [strLen_cat]
      omega
    · show strLen (strCat ⟨#[48]⟩ s) ≤ 41
      rw [strLen_cat]
      omega
  · have hc : ¬ (strLen s : Int) ≤ -e := of_decide_eq_false hc
    show -e < (strLen s : Int)
    omega
theorem ntx_rounds  : Rounds (envW rulesSc []) 30 (loopOf Tryz.prog 48 3) ntxL ntxI ntxO (fun _ => False) 1 := ⟨fun n x hI => ntx_round n x.n x.a x.b x.e x.s hI⟩
def ntxT : LoopW := fun cq sq Kq => loopT (loopOf Tryz.prog 48 3) ntxL ntxI ntxO 1 cq sq Kq
theorem ntxT_ok {E : Env} (hP : E.P = Tryz.prog) (hW : E.weak = true) {base : World} : LoopOk E base ntxT := fun cq sq Kq h =>
  loopT_ok (E := envW rulesSc []) hP hW (envW_ok (rulesSc_ok base)) (findL_ok (l := []) rfl fun _ h => nomatch h) (by kernel_rfl) (by kernel_rfl) ntx_rounds h
def loopsNt : List ((Nat × Nat) × LoopW) := [((48, 3), ntxT)]
theorem loopsNt_ok {E : Env} (hP : E.P = Tryz.prog) (hW : E.weak = true) (base : World) : ∀ x ∈ loopsNt, LoopOk E base x.2 := List.forall_mem_cons.2 ⟨ntxT_ok hP hW, fun _ h => nomatch h⟩
def ruleItoaL : Rule := rule1 fun args => match args with
  | [.int .i64 n] => some fun K => rng n ∧ ∀ s, strLen s ≤ 24 → K (.string s)
  | _ => none
theorem itoaL_ok {base : World} (B : Begun base) : RuleOk Tryz.prog base 133 ruleItoaL := ruleOk_of fun args T K hT hK => by
  split at hT
  · cases hT
    rename_i n
    obtain ⟨h, hK⟩ := hK
    have ht := itoa_tot B h
    obtain ⟨c, l, hl, hlen⟩ := itoa_cases n h
    rw [hl] at ht
    refine ⟨_, hK _ ?_, ht⟩
    show (c :: l).length ≤ 24
    simp only [List.length_cons]
    omega
  · cases hT
def rulesNt : List (Nat × Rule) := (132, ruleUtext) :: (133, ruleItoaL) :: rulesSc
theorem rulesNt_ok {base : World} (B : Begun base) : ∀ x ∈ rulesNt, RuleOk Tryz.prog base x.1 x.2 := List.forall_mem_cons.2 ⟨utext_ok, List.forall_mem_cons.2 ⟨itoaL_ok B, rulesSc_ok base⟩⟩
def isNt (u : Value) : Prop := ∃ s, u = .string s ∧ strLen s ≤ 200
theorem ntext_hk_tree (K : Value → Nat → Prop) (n : Bool) (a b e : Int) :
 funcK (envW rulesNt loopsNt) 30 48 [decC n a b e] tabs Tryz.prog.globals.size (fun u _ _ mw => K u mw) =
 ((u64 a ∧ u64 b) ∧ ∀ (s : ByteArray), strLen s ≤ 40 → bsel (decide (e < (0 : Int))) (bsel (decide (e ≥ (-40 : Int))) (Is (loopOf Go.Proofs.Tryz.prog 48 3) (loopOf Go.Proofs.Tryz.prog 48 3) ∧ ∃ (x : Nat), ∃ (x_1 : ntxS), (ntxI x x_1 ∧ true = true ∧ LoopS.At ntxL x_1 true [Value.pointer (some (Addr.mk 10 0 none)), Value.string s] [(10, Blk.mk [some (Value.bool n), some (Value.int .u64 a), some (Value.int .u64 b), some (Value.int .i64 e)] 28 true 0 none false), (7, Blk.mk [some (Value.int .u64 (Int.ofNat 1)), some (Value.int .u64 (Int.ofNat 10)), some (Value.int .u64 (Int.ofNat 100)), some (Value.int .u64 (Int.ofNat 1000)), some (Value.int .u64 (Int.ofNat 10000)), some (Value.int .u64 (Int.ofNat 100000)), some (Value.int .u64 (Int.ofNat 1000000)), some (Value.int .u64 (Int.ofNat 10000000)), some (Value.int .u64 (Int.ofNat 100000000)), some (Value.int .u64 (Int.ofNat 1000000000)), some (Value.int .u64 (Int.ofNat 10000000000)), some (Value.int .u64 (Int.ofNat 100000000000)), some (Value.int .u64 (Int.ofNat 1000000000000)), some (Value.int .u64 (Int.ofNat 10000000000000)), some (Value.int .u64 (Int.ofNat 100000000000000)), some (Value.int .u64 (Int.ofNat 1000000000000000)), some (Value.int .u64 (Int.ofNat 10000000000000000)), some (Value.int .u64 (Int.ofNat 100000000000000000)), some (Value.int .u64 (Int.ofNat 1000000000000000000)), some (Value.int .u64 (Int.ofNat 10000000000000000000))] 0 false 0 none false)] 11 18446744073709551616 53 48 []) ∧ ∀ (a' : ntxS), ntxO a' → bsel (decide ((0 : Int) ≤ IntKind.wrap .i64 ((↑(strLen a'.5) : Int) + a'.4)) && decide (IntKind.wrap .i64 ((↑(strLen a'.5) : Int) + a'.4) ≤ (↑(strLen a'.5) : Int))) (bsel (Nat.ble (strLen (strCut a'.5 0 (Int.toNat (IntKind.wrap .i64 ((↑(strLen a'.5) : Int) + a'.4)))) + 1) 9223372036854775807) (bsel (decide ((0 : Int) ≤ IntKind.wrap .i64 ((↑(strLen a'.5) : Int) + a'.4)) && decide (IntKind.wrap .i64 ((↑(strLen a'.5) : Int) + a'.4) ≤ (↑(strLen a'.5) : Int))) (bsel (Nat.ble (strLen (strCat (strCut a'.5 0 (Int.toNat (IntKind.wrap .i64 ((↑(strLen a'.5) : Int) + a'.4)))) (ByteArray.mk #[(46 : UInt8)])) + strLen (strCut a'.5 (Int.toNat (IntKind.wrap .i64 ((↑(strLen a'.5) : Int) + a'.4))) (strLen a'.5))) 9223372036854775807) (bsel a'.1 (bsel (Nat.ble (1 + strLen (strCat (strCat (strCut a'.5 0 (Int.toNat (IntKind.wrap .i64 ((↑(strLen a'.5) : Int) + a'.4)))) (ByteArray.mk #[(46 : UInt8)])) (strCut a'.5 (Int.toNat (IntKind.wrap .i64 ((↑(strLen a'.5) : Int) + a'.4))) (strLen a'.5)))) 9223372036854775807) (K (Value.string (strCat (ByteArray.mk #[(45 : UInt8)]) (strCat (strCat (strCut a'.5 0 (Int.toNat (IntKind.wrap .i64 ((↑(strLen a'.5) : Int) + a'.4)))) (ByteArray.mk #[(46 : UInt8)])) (strCut a'.5 (Int.toNat (IntKind.wrap .i64 ((↑(strLen a'.5) : Int) + a'.4))) (strLen a'.5))))) 10) False) (K (Value.string (strCat (strCat (strCut a'.5 0 (Int.toNat (IntKind.wrap .i64 ((↑(strLen a'.5) : Int) + a'.4)))) (ByteArray.mk #[(46 : UInt8)])) (strCut a'.5 (Int.toNat (IntKind.wrap .i64 ((↑(strLen a'.5) : Int) + a'.4))) (strLen a'.5)))) 10)) False) False) False) False) (bsel (e != (0 : Int)) (rng e ∧ ∀ (s_1 : ByteArray), strLen s_1 ≤ 24 → bsel (Nat.ble (1 + strLen s_1) 9223372036854775807) (bsel (Nat.ble (strLen s + strLen (strCat (ByteArray.mk #[(69 : UInt8)]) s_1)) 9223372036854775807) (bsel n (bsel (Nat.ble (1 + strLen (strCat s (strCat (ByteArray.mk #[(69 : UInt8)]) s_1))) 9223372036854775807) (K (Value.string (strCat (ByteArray.mk #[(45 : UInt8)]) (strCat s (strCat (ByteArray.mk #[(69 : UInt8)]) s_1)))) 18446744073709551616) False) (K (Value.string (strCat s (strCat (ByteArray.mk #[(69 : UInt8)]) s_1))) 18446744073709551616)) False) False) (bsel n (bsel (Nat.ble (1 + strLen s) 9223372036854775807) (K (Value.string (strCat (ByteArray.mk #[(45 : UInt8)]) s)) 18446744073709551616) False) (K (Value.string s) 18446744073709551616)))) (bsel (e != (0 : Int)) (rng e ∧ ∀ (s_1 : ByteArray), strLen s_1 ≤ 24 → bsel (Nat.ble (1 + strLen s_1) 9223372036854775807) (bsel (Nat.ble (strLen s + strLen (strCat (ByteArray.mk #[(69 : UInt8)]) s_1)) 9223372036854775807) (bsel n (bsel (Nat.ble (1 + strLen (strCat s (strCat (ByteArray.mk #[(69 : UInt8)]) s_1))) 9223372036854775807) (K (Value.string (strCat (ByteArray.mk #[(45 : UInt8)]) (strCat s (strCat (ByteArray.mk #[(69 : UInt8)]) s_1)))) 18446744073709551616) False) (K (Value.string (strCat s (strCat (ByteArray.mk #[(69 : UInt8)]) s_1))) 18446744073709551616)) False) False) (bsel n (bsel (Nat.ble (1 + strLen s) 9223372036854775807) (K (Value.string (strCat (ByteArray.mk #[(45 : UInt8)]) s)) 18446744073709551616) False) (K (Value.string s) 18446744073709551616)))) := by kernel_rfl
theorem ntext_hk (n : Bool) (a b e : Int) (h1 : u64 a) (h2 : u64 b) (h3 : i64 e) : ReckE (envW rulesNt loopsNt) 30 48 [decC n a b e] (isNt) := by
  constructor
  rw [ntext_hk_tree fun u mw => (isNt) u ∧ Tryz.prog.globals.size ≤ mw]
  have l1 : strLen ⟨#[46]⟩ = 1 := rfl
  have l2 : strLen ⟨#[45]⟩ = 1 := rfl
  have l3 : strLen ⟨#[69]⟩ = 1 := rfl
  have hrng : rng e := by
    unfold i64 at h3
    unfold rng
    omega
  refine ⟨⟨h1, h2⟩, fun s hs => ?_⟩
  refine bsel_of (fun he => bsel_of (fun he2 => ?_) (fun _ => ?_)) (fun _ => ?_)
  · have he : e < 0 := of_decide_eq_true he
    have he2 : e ≥ -40 := of_decide_eq_true he2
    refine ⟨⟨rfl⟩, _, ⟨n, a, b, e, s⟩, ⟨⟨⟨he2, he⟩, by show strLen s ≤ 41; omega, rfl⟩, by kernel_rfl, LoopS.At.quick [] rfl rfl (by kernel_rfl) rfl (by kernel_rfl) rfl rfl rfl⟩, fun ⟨n', a', b', e', s'⟩ ⟨⟨q1, q2⟩, q3, q4⟩ => ?_⟩
    simp only at q1 q2 q3 q4 ⊢
    have hw : IntKind.wrap .i64 (↑(strLen s') + e') = ↑(strLen s') + e' := wrap_i64r (by unfold i64; omega)
    rw [hw]
    have hj : ∃ j : Nat, (↑(strLen s') + e' : Int) = j := ⟨(↑(strLen s') + e' : Int).toNat, by omega⟩
    obtain ⟨j, hj⟩ := hj
    rw [hj, Int.toNat_natCast]
    have c1 := strLen_cut s' 0 j
    have c2 := strLen_cut s' j (strLen s')
    repeat' (first | exact ⟨⟨_, rfl, by (try simp only [strLen_cat]); omega⟩, Nat.le_of_ble_eq_true (by kernel_rfl)⟩ | refine bsel_of (fun _ => ?_) (fun h => absurd (ble_false h) (by (try simp only [strLen_cat]); omega)) | refine bsel_of (fun _ => ?_) (fun h => absurd h (by simp; omega)) | refine bsel_of (fun _ => ?_) (fun _ => ?_))
  · repeat' (first | exact ⟨⟨_, rfl, by (try simp only [strLen_cat]); omega⟩, Nat.le_of_ble_eq_true (by kernel_rfl)⟩ | refine ⟨hrng, fun s hs => ?_⟩ | refine bsel_of (fun _ => ?_) (fun h => absurd (ble_false h) (by (try simp only [strLen_cat]); omega)) | refine bsel_of (fun _ => ?_) (fun _ => ?_))
  · repeat' (first | exact ⟨⟨_, rfl, by (try simp only [strLen_cat]); omega⟩, Nat.le_of_ble_eq_true (by kernel_rfl)⟩ | refine ⟨hrng, fun s hs => ?_⟩ | refine bsel_of (fun _ => ?_) (fun h => absurd (ble_false h) (by (try simp only [strLen_cat]); omega)) | refine bsel_of (fun _ => ?_) (fun _ => ?_))
theorem ntext_tot {base : World} (B : Begun base) (n : Bool) {a b e : Int} (h1 : u64 a) (h2 : u64 b) (h3 : i64 e) : ∃ s, strLen s ≤ 200 ∧ Tot base 48 [decC n a b e] (.string s) := by
  obtain ⟨_, ⟨s, rfl, hs⟩, ht⟩ := tot_ofE (base := base) (envW_ok (rulesNt_ok B)) (findL_ok rfl (loopsNt_ok rfl rfl base)) rfl (ntext_hk n a b e h1 h2 h3) (fun v ⟨_, hv, _⟩ => by subst hv; kernel_rfl) (pure1 (by kernel_rfl))
  exact ⟨s, hs, ht⟩
end Go.Proofs.YtdbjbmdaekgbhaaGreatDoor
