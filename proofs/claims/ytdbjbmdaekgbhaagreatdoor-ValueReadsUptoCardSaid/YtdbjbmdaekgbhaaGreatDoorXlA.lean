/-
  lexical.takes.
  lexical.ReadMonths, ReadDays.
-/
import Derived.Test.YtdbjbmdaekgbhaaGreatDoorXk

namespace Go.Proofs.YtdbjbmdaekgbhaaGreatDoor
open Go Go.Pe Go.RowKit

structure tksS where
  (s l : ByteArray) (a b k : Int)
noncomputable def tksL : LoopS tksS where
  fn := 191
  keys := [0, 1, 2, 3, 11]
  kv := fun ⟨s, l, a, b, k⟩ => [.string s, .string l, .int .i64 a, .int .i64 b, .int .i64 k]
  hp := fun ⟨s, l, a, b, k⟩ => []
  lo := Tryz.prog.globals.size
  nx := Tryz.prog.globals.size
  mw := Tryz.prog.globals.size
  size := 64
theorem tks_tree (P : Exit → Bool → List Value → Heap → Nat → Nat → Nat → FuncId → List (FuncId × List Value) → Prop) (s l : ByteArray) (a b k : Int) :
 codeK (envW rulesSt []) (funcK (envW rulesSt []) 30) (loopOf Tryz.prog 191 2) (tksL.st ⟨s, l, a, b, k⟩) (tksL.look P) =
 (bsel (decide (k < (↑(strLen s) : Int))) (bsel (decide ((0 : Int) ≤ k) && decide (k < (↑(strLen s) : Int))) (bsel (decide ((↑(UInt8.toNat (byteAt (Array.toList (ByteArray.data s)) (Int.toNat k))) : Int) ≥ (48 : Int))) (bsel (decide ((0 : Int) ≤ k) && decide (k < (↑(strLen s) : Int))) (bsel (decide ((↑(UInt8.toNat (byteAt (Array.toList (ByteArray.data s)) (Int.toNat k))) : Int) ≤ (57 : Int))) (P Go.Exit.normal true [Value.string s, Value.string l, Value.int .i64 a, Value.int .i64 b, Value.int .i64 (IntKind.wrap .i64 (k + (1 : Int)))] [] 10 10 64 191 []) (P (Go.Exit.exit 0) true [Value.string s, Value.string l, Value.int .i64 a, Value.int .i64 b, Value.int .i64 k] [] 10 10 64 191 [])) False) (P (Go.Exit.exit 0) true [Value.string s, Value.string l, Value.int .i64 a, Value.int .i64 b, Value.int .i64 k] [] 10 10 64 191 [])) False) (P (Go.Exit.exit 0) true [Value.string s, Value.string l, Value.int .i64 a, Value.int .i64 b, Value.int .i64 k] [] 10 10 64 191 [])) := by kernel_rfl
def tksI (z : tksS) (n : Nat) (x : tksS) : Prop := ((x.s = z.s ∧ x.l = z.l ∧ x.a = z.a ∧ x.b = z.b) ∧ 0 ≤ x.k ∧ x.k ≤ (strLen x.s : Int) ∧ strLen x.s ≤ 1048576) ∧ n = strLen x.s - x.k.toNat
def tksO (z x : tksS) : Prop := (x.s = z.s ∧ x.l = z.l ∧ x.a = z.a ∧ x.b = z.b) ∧ 0 ≤ x.k ∧ x.k ≤ (strLen x.s : Int) ∧ strLen x.s ≤ 1048576
theorem tks_round (z : tksS) (n0 : Nat) (s l : ByteArray) (a b k : Int) (hI : tksI z n0 ⟨s, l, a, b, k⟩) :
    Hush (codeK (envW rulesSt []) (funcK (envW rulesSt []) 30) (loopOf Tryz.prog 191 2) (tksL.st ⟨s, l, a, b, k⟩) (tksL.look (tksL.To (tksI z) (tksO z) (fun _ => False) 0 n0))) := by
  constructor
  rw [tks_tree]
  obtain ⟨⟨he, h1, h2, h3⟩, hn⟩ := hI
  try simp only at *
  refine bsel_of (fun hc => ?_) (fun _ => ⟨rfl, ⟨s, l, a, b, k⟩, ⟨he, h1, h2, h3⟩, LoopS.At.quick [] rfl rfl (by kernel_rfl) rfl (by kernel_rfl) rfl rfl rfl⟩)
  have hc := of_decide_eq_true hc
  have hw : IntKind.wrap .i64 (k + 1) = k + 1 := wrap_i64r (by unfold i64; omega)
  rw [hw]
  exact bsel_of (fun _ => bsel_of (fun _ => bsel_of (fun _ => bsel_of (fun _ => ⟨strLen s - (k + 1).toNat, ⟨s, l, a, b, k + 1⟩, by omega, ⟨⟨he, by show 0 ≤ k + 1; omega, by show k + 1 ≤ (strLen s : Int); omega, h3⟩, rfl⟩, LoopS.At.quick [] rfl rfl (by kernel_rfl) rfl (by kernel_rfl) rfl rfl rfl⟩) (fun _ => ⟨rfl, ⟨s, l, a, b, k⟩, ⟨he, h1, h2, h3⟩, LoopS.At.quick [] rfl rfl (by kernel_rfl) rfl (by kernel_rfl) rfl rfl rfl⟩)) (fun h => absurd h (by simp; omega))) (fun _ => ⟨rfl, ⟨s, l, a, b, k⟩, ⟨he, h1, h2, h3⟩, LoopS.At.quick [] rfl rfl (by kernel_rfl) rfl (by kernel_rfl) rfl rfl rfl⟩)) (fun h => absurd h (by simp; omega))
theorem tks_rounds (z : tksS) : Rounds (envW rulesSt []) 30 (loopOf Tryz.prog 191 2) tksL (tksI z) (tksO z) (fun _ => False) 0 := ⟨fun n x hI => tks_round z n x.s x.l x.a x.b x.k hI⟩
def tksT : LoopW := fun cq sq Kq => ∃ (z : tksS), loopT (loopOf Tryz.prog 191 2) tksL (tksI z) (tksO z) 0 cq sq Kq
theorem tksT_ok {E : Env} (hP : E.P = Tryz.prog) (hW : E.weak = true) {base : World} : LoopOk E base tksT := fun cq sq Kq ⟨z, h⟩ =>
  loopT_ok (E := envW rulesSt []) hP hW (envW_ok (rulesSt_ok base)) (findL_ok (l := []) rfl fun _ h => nomatch h) (by kernel_rfl) (by kernel_rfl) (tks_rounds z) h
def loopsTk : List ((Nat × Nat) × LoopW) := [((191, 2), tksT)]
theorem loopsTk_ok {E : Env} (hP : E.P = Tryz.prog) (hW : E.weak = true) (base : World) : ∀ x ∈ loopsTk, LoopOk E base x.2 := List.forall_mem_cons.2 ⟨tksT_ok hP hW, fun _ h => nomatch h⟩
theorem mulB {n a P : Int} (h0 : 0 ≤ n) (h1 : n < P) (ha : 0 ≤ a) (hP : P * a ≤ 100000000000000000) : 0 ≤ IntKind.wrap .i64 (n * a) ∧ IntKind.wrap .i64 (n * a) ≤ 100000000000000000 := by
  have h2 : 0 ≤ n * a := Int.mul_nonneg h0 ha
  have h3 : n * a ≤ P * a := Int.mul_le_mul_of_nonneg_right (Int.le_of_lt h1) ha
  rw [wrap_i64r (by unfold i64; omega)]
  omega
def isTakes (s l : ByteArray) (a b : Int) (u : Value) : Prop := ∃ (r : Int) (t : ByteArray) (ok : Bool), u = .tuple #[.int .i64 r, .string t, .bool ok] ∧ ((0 ≤ r ∧ r ≤ 100000000000000000) ∧ strLen t ≤ strLen s)
theorem takes_hk_tree (K : Value → Nat → Prop) (s l : ByteArray) (a b : Int) :
 funcK (envW rulesSt loopsTk) 30 191 [.string s, .string l, .int .i64 a, .int .i64 b] [] Tryz.prog.globals.size (fun u _ _ mw => K u mw) =
 (∃ (x : tksS), Is (loopOf Go.Proofs.Tryz.prog 191 2) (loopOf Go.Proofs.Tryz.prog 191 2) ∧ ∃ (x_1 : Nat), ∃ (x_2 : tksS), (tksI x x_1 x_2 ∧ true = true ∧ LoopS.At tksL x_2 true [Value.string s, Value.string l, Value.int .i64 a, Value.int .i64 b, Value.int .i64 (Int.ofNat 0)] [] 10 18446744073709551616 64 191 []) ∧ ∀ (a' : tksS), tksO x a' → bsel (a'.5 == (↑(strLen a'.1) : Int)) (K (Value.tuple (Array.mk [Value.int .i64 (Int.ofNat 0), Value.string a'.1, Value.bool false])) 10) (bsel (decide ((0 : Int) ≤ IntKind.wrap .i64 (a'.5 + (1 : Int))) && decide (IntKind.wrap .i64 (a'.5 + (1 : Int)) ≤ (↑(strLen a'.1) : Int))) (bsel (decide ((0 : Int) ≤ a'.5) && decide (a'.5 ≤ (↑(Int.toNat (IntKind.wrap .i64 (a'.5 + (1 : Int)))) : Int))) (bsel (!strEq (strCut a'.1 (Int.toNat a'.5) (Int.toNat (IntKind.wrap .i64 (a'.5 + (1 : Int))))) a'.2) (K (Value.tuple (Array.mk [Value.int .i64 (Int.ofNat 0), Value.string a'.1, Value.bool false])) 10) (bsel (decide ((0 : Int) ≤ a'.5) && decide (a'.5 ≤ (↑(strLen a'.1) : Int))) ((Int.ofNat 0 ≤ a'.4 ∧ a'.4 ≤ Int.ofNat 15) ∧ ∀ (n : Int) (ok : Bool), Int.ofNat 0 ≤ n → n < Int.ofNat (nat_lit 10 ^ Int.toNat a'.4) → bsel ok (bsel (decide ((0 : Int) ≤ IntKind.wrap .i64 (a'.5 + (1 : Int))) && decide (IntKind.wrap .i64 (a'.5 + (1 : Int)) ≤ (↑(strLen a'.1) : Int))) (K (Value.tuple (Array.mk [Value.int .i64 (IntKind.wrap .i64 (n * a'.3)), Value.string (strCut a'.1 (Int.toNat (IntKind.wrap .i64 (a'.5 + (1 : Int)))) (strLen a'.1)), Value.bool true])) 10) False) (K (Value.tuple (Array.mk [Value.int .i64 (Int.ofNat 0), Value.string a'.1, Value.bool false])) 10)) False)) False) False)) := by kernel_rfl
theorem takes_hk (s l : ByteArray) (a b : Int) (hs : strLen s ≤ 1048576) (h0 : 0 ≤ b) (h1 : b ≤ 15) (ha : 0 ≤ a) (hP : 10 ^ b.toNat * a ≤ 100000000000000000) : ReckA (envW rulesSt loopsTk) 30 191 [.string s, .string l, .int .i64 a, .int .i64 b] (isTakes s l a b) := by
  constructor
  rw [takes_hk_tree fun u mw => (isTakes s l a b) u ∧ Tryz.prog.globals.size ≤ mw]
  refine ⟨⟨s, l, a, b, 0⟩, ⟨rfl⟩, _, ⟨s, l, a, b, 0⟩, ⟨⟨⟨⟨rfl, rfl, rfl, rfl⟩, Int.le_refl _, by show (0 : Int) ≤ (strLen s : Int); omega, hs⟩, rfl⟩, by kernel_rfl, LoopS.At.quick [] rfl rfl (by kernel_rfl) rfl (by kernel_rfl) rfl rfl rfl⟩, fun x hx => ?_⟩
  obtain ⟨s', l', a', b', k⟩ := x
  obtain ⟨⟨e1, e2, e3, e4⟩, k1, k2, k3⟩ := hx
  simp only at e1 e2 e3 e4 k1 k2 k3
  subst e1 e2 e3 e4
  simp only
  have hw : IntKind.wrap .i64 (k + 1) = k + 1 := wrap_i64r (by unfold i64; omega)
  rw [hw]
  repeat' (first | exact ⟨⟨_, _, _, rfl, ⟨Int.le_refl _, by decide⟩, Nat.le_refl _⟩, Nat.le_of_ble_eq_true (by kernel_rfl)⟩ | exact ⟨⟨_, _, _, rfl, mulB (by assumption) (by assumption) ha hP, by rw [strLen_cutE]; omega⟩, Nat.le_of_ble_eq_true (by kernel_rfl)⟩ | refine bsel_of (fun _ => ?_) (fun _ => ?_) | refine And.intro ⟨h0, h1⟩ ?_ | intro _)
  all_goals (exfalso; simp only [Bool.and_eq_false_iff, decide_eq_false_iff_not, beq_eq_false_iff_ne, ne_eq] at *; omega)
def ruleTakes : Rule := ruleA fun args => match args with
  | [.string s, .string l, .int .i64 a, .int .i64 b] => some fun K => (strLen s ≤ 1048576 ∧ 0 ≤ b ∧ b ≤ 15 ∧ 0 ≤ a ∧ 10 ^ b.toNat * a ≤ 100000000000000000) ∧ ∀ (r : Int) (t : ByteArray) (ok : Bool), (0 ≤ r ∧ r ≤ 100000000000000000) → strLen t ≤ strLen s → K (.tuple #[.int .i64 r, .string t, .bool ok])
  | _ => none
theorem takes_ok {base : World} : RuleOk Tryz.prog base 191 ruleTakes := ruleOkA fun args T K hT hK => by
  split at hT
  · cases hT
    obtain ⟨⟨hs, h0, h1, ha, hP⟩, hK⟩ := hK
    obtain ⟨v, ⟨r0, r1, r2, rfl, hf⟩, ht⟩ := totA_of (base := base) (envW_ok (rulesSt_ok base)) (findL_ok rfl (loopsTk_ok rfl rfl base)) rfl (takes_hk _ _ _ _ hs h0 h1 ha hP) (fun v ⟨_, _, _, hv, _⟩ => by subst hv; kernel_rfl) (List.forall_mem_cons.2 ⟨by kernel_rfl, List.forall_mem_cons.2 ⟨by kernel_rfl, List.forall_mem_cons.2 ⟨by kernel_rfl, List.forall_mem_cons.2 ⟨by kernel_rfl, fun _ h => nomatch h⟩⟩⟩⟩)
    exact ⟨_, hK r0 r1 r2 hf.1 hf.2, ht⟩
  · cases hT
end Go.Proofs.YtdbjbmdaekgbhaaGreatDoor

namespace Go.Proofs.YtdbjbmdaekgbhaaGreatDoor
open Go Go.Pe Go.RowKit

def rulesTk : List (Nat × Rule) := (191, ruleTakes) :: rulesSt
theorem rulesTk_ok (base : World) : ∀ x ∈ rulesTk, RuleOk Tryz.prog base x.1 x.2 := List.forall_mem_cons.2 ⟨takes_ok, rulesSt_ok base⟩
theorem spW {x : Int} (h : 0 ≤ x ∧ x ≤ 4000000000000000000) : IntKind.wrap .i64 x = x := wrap_i64r (by unfold i64; omega)
theorem sp0 {r : Int} (h : 0 ≤ r ∧ r ≤ 100000000000000000) : 0 ≤ IntKind.wrap .i64 (0 + r) ∧ IntKind.wrap .i64 (0 + r) ≤ 100000000000000000 := by
  rw [spW (by omega)]
  omega
theorem sp1 {B x r : Int} (hB : B ≤ 3000000000000000000) (hx : 0 ≤ x ∧ x ≤ B) (h : 0 ≤ r ∧ r ≤ 100000000000000000) : 0 ≤ IntKind.wrap .i64 (x + r) ∧ IntKind.wrap .i64 (x + r) ≤ B + 100000000000000000 := by
  rw [spW (by omega)]
  omega
theorem spN {B x : Int} (hx : 0 ≤ x ∧ x ≤ B) (hd : decide (x > 9007199254740992) = false) : -9007199254740992 ≤ x ∧ x ≤ 9007199254740992 := by
  have := of_decide_eq_false hd
  omega
theorem spM {B x : Int} (hx : 0 ≤ x ∧ x ≤ B) (hd : decide (x > 9007199254740992) = false) : -9007199254740992 ≤ IntKind.wrap .i64 (0 - x) ∧ IntKind.wrap .i64 (0 - x) ≤ 9007199254740992 := by
  have := of_decide_eq_false hd
  rw [wrap_i64r (by unfold i64; omega)]
  omega
attribute [local irreducible] Go.IntKind.wrap
def isRmonths (s : ByteArray) (u : Value) : Prop := ∃ (n : Int) (ok : Bool), u = .tuple #[.int .i64 n, .bool ok] ∧ ((-9007199254740992 ≤ n ∧ n ≤ 9007199254740992))
theorem rmonths_hk_tree (K : Value → Nat → Prop) (s : ByteArray) :
 funcK (envK 6 rulesTk []) 30 34 [.string s] [] Tryz.prog.globals.size (fun u _ _ mw => K u mw) =
 ((ByteArray.mk #[(45 : UInt8)] = ByteArray.mk #[(45 : UInt8)] ∨ ByteArray.mk #[(45 : UInt8)] = ByteArray.mk #[(43 : UInt8)]) ∧ ∀ (t : ByteArray), strLen t ≤ strLen s → bsel (strEq t (ByteArray.mk #[])) (K (Value.tuple (Array.mk [Value.int .i64 (Int.ofNat 0), Value.bool false])) 18446744073709551616) (bsel (decide ((0 : Int) ≤ (0 : Int)) && decide ((0 : Int) < (↑(strLen t) : Int))) (bsel ((↑(UInt8.toNat (byteAt (Array.toList (ByteArray.data t)) (Int.toNat (0 : Int)))) : Int) != (80 : Int)) (K (Value.tuple (Array.mk [Value.int .i64 (Int.ofNat 0), Value.bool false])) 18446744073709551616) (bsel (decide ((0 : Int) ≤ (1 : Int)) && decide ((1 : Int) ≤ (↑(strLen t) : Int))) ((strLen (strCut t 1 (strLen t)) ≤ 1048576 ∧ Int.ofNat 0 ≤ Int.ofNat 15 ∧ Int.ofNat 15 ≤ Int.ofNat 15 ∧ Int.ofNat 0 ≤ Int.ofNat 12 ∧ Int.ofNat 12000000000000000 ≤ Int.ofNat 100000000000000000) ∧ ∀ (r : Int) (t_1 : ByteArray) (ok : Bool), Int.ofNat 0 ≤ r ∧ r ≤ Int.ofNat 100000000000000000 → strLen t_1 ≤ strLen (strCut t 1 (strLen t)) → bsel ok ((strLen t_1 ≤ 1048576 ∧ Int.ofNat 0 ≤ Int.ofNat 15 ∧ Int.ofNat 15 ≤ Int.ofNat 15 ∧ Int.ofNat 0 ≤ Int.ofNat 1 ∧ Int.ofNat 1000000000000000 ≤ Int.ofNat 100000000000000000) ∧ ∀ (r_1 : Int) (t_2 : ByteArray) (ok : Bool), Int.ofNat 0 ≤ r_1 ∧ r_1 ≤ Int.ofNat 100000000000000000 → strLen t_2 ≤ strLen t_1 → bsel ok (bsel (!strEq t_2 (ByteArray.mk #[])) (K (Value.tuple (Array.mk [Value.int .i64 (Int.ofNat 0), Value.bool false])) 18446744073709551616) (bsel ((↑(strLen t) : Int) != (↑(strLen s) : Int)) (bsel (decide (IntKind.wrap .i64 (IntKind.wrap .i64 ((0 : Int) + r) + r_1) > (9007199254740992 : Int))) (K (Value.tuple (Array.mk [Value.int .i64 (Int.ofNat 0), Value.bool false])) 18446744073709551616) (K (Value.tuple (Array.mk [Value.int .i64 (IntKind.wrap .i64 ((0 : Int) - IntKind.wrap .i64 (IntKind.wrap .i64 ((0 : Int) + r) + r_1))), Value.bool true])) 18446744073709551616)) (bsel (decide (IntKind.wrap .i64 (IntKind.wrap .i64 ((0 : Int) + r) + r_1) > (9007199254740992 : Int))) (K (Value.tuple (Array.mk [Value.int .i64 (Int.ofNat 0), Value.bool false])) 18446744073709551616) (K (Value.tuple (Array.mk [Value.int .i64 (IntKind.wrap .i64 (IntKind.wrap .i64 ((0 : Int) + r) + r_1)), Value.bool true])) 18446744073709551616)))) (bsel (!strEq t_1 (ByteArray.mk #[])) (K (Value.tuple (Array.mk [Value.int .i64 (Int.ofNat 0), Value.bool false])) 18446744073709551616) (bsel ((↑(strLen t) : Int) != (↑(strLen s) : Int)) (bsel (decide (IntKind.wrap .i64 ((0 : Int) + r) > (9007199254740992 : Int))) (K (Value.tuple (Array.mk [Value.int .i64 (Int.ofNat 0), Value.bool false])) 18446744073709551616) (K (Value.tuple (Array.mk [Value.int .i64 (IntKind.wrap .i64 ((0 : Int) - IntKind.wrap .i64 ((0 : Int) + r))), Value.bool true])) 18446744073709551616)) (bsel (decide (IntKind.wrap .i64 ((0 : Int) + r) > (9007199254740992 : Int))) (K (Value.tuple (Array.mk [Value.int .i64 (Int.ofNat 0), Value.bool false])) 18446744073709551616) (K (Value.tuple (Array.mk [Value.int .i64 (IntKind.wrap .i64 ((0 : Int) + r)), Value.bool true])) 18446744073709551616))))) ((strLen (strCut t 1 (strLen t)) ≤ 1048576 ∧ Int.ofNat 0 ≤ Int.ofNat 15 ∧ Int.ofNat 15 ≤ Int.ofNat 15 ∧ Int.ofNat 0 ≤ Int.ofNat 1 ∧ Int.ofNat 1000000000000000 ≤ Int.ofNat 100000000000000000) ∧ ∀ (r : Int) (t_2 : ByteArray) (ok : Bool), Int.ofNat 0 ≤ r ∧ r ≤ Int.ofNat 100000000000000000 → strLen t_2 ≤ strLen (strCut t 1 (strLen t)) → bsel ok (bsel (!strEq t_2 (ByteArray.mk #[])) (K (Value.tuple (Array.mk [Value.int .i64 (Int.ofNat 0), Value.bool false])) 18446744073709551616) (bsel ((↑(strLen t) : Int) != (↑(strLen s) : Int)) (bsel (decide (IntKind.wrap .i64 ((0 : Int) + r) > (9007199254740992 : Int))) (K (Value.tuple (Array.mk [Value.int .i64 (Int.ofNat 0), Value.bool false])) 18446744073709551616) (K (Value.tuple (Array.mk [Value.int .i64 (IntKind.wrap .i64 ((0 : Int) - IntKind.wrap .i64 ((0 : Int) + r))), Value.bool true])) 18446744073709551616)) (bsel (decide (IntKind.wrap .i64 ((0 : Int) + r) > (9007199254740992 : Int))) (K (Value.tuple (Array.mk [Value.int .i64 (Int.ofNat 0), Value.bool false])) 18446744073709551616) (K (Value.tuple (Array.mk [Value.int .i64 (IntKind.wrap .i64 ((0 : Int) + r)), Value.bool true])) 18446744073709551616)))) (bsel (!strEq (strCut t (Int.toNat (1 : Int)) (strLen t)) (ByteArray.mk #[])) (K (Value.tuple (Array.mk [Value.int .i64 (Int.ofNat 0), Value.bool false])) 18446744073709551616) (K (Value.tuple (Array.mk [Value.int .i64 (Int.ofNat 0), Value.bool false])) 18446744073709551616)))) False)) False)) := by kernel_rfl
theorem rmonths_hk (s : ByteArray) (hs : strLen s ≤ 1048576) : ReckA (envK 6 rulesTk []) 30 34 [.string s] (isRmonths s) := by
  constructor
  rw [rmonths_hk_tree fun u mw => (isRmonths s) u ∧ Tryz.prog.globals.size ≤ mw]
  repeat' (first | exact ⟨⟨_, _, rfl, by decide, by decide⟩, Nat.le_of_ble_eq_true (by kernel_rfl)⟩ | exact ⟨⟨_, _, rfl, spN (sp0 (by assumption)) (by assumption)⟩, Nat.le_of_ble_eq_true (by kernel_rfl)⟩ | exact ⟨⟨_, _, rfl, spM (sp0 (by assumption)) (by assumption)⟩, Nat.le_of_ble_eq_true (by kernel_rfl)⟩ | exact ⟨⟨_, _, rfl, spN (sp1 (by decide) (sp0 (by assumption)) (by assumption)) (by assumption)⟩, Nat.le_of_ble_eq_true (by kernel_rfl)⟩ | exact ⟨⟨_, _, rfl, spM (sp1 (by decide) (sp0 (by assumption)) (by assumption)) (by assumption)⟩, Nat.le_of_ble_eq_true (by kernel_rfl)⟩ | refine bsel_of (fun _ => ?_) (fun _ => ?_) | refine And.intro (by (first | exact .inl rfl | (refine And.intro (by first | omega | (rw [strLen_cutE]; omega) | (simp only [strLen_cutE] at *; omega)) ?_; decide))) ?_ | intro _)
  all_goals (exfalso; simp only [strEq_nil, Bool.and_eq_false_iff, decide_eq_false_iff_not] at *; omega)
end Go.Proofs.YtdbjbmdaekgbhaaGreatDoor
