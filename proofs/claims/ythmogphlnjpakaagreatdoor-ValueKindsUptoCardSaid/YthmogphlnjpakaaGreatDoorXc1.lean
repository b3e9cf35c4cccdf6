/-
  Texts read: runes one by one; digits; noughts cut off.
  Texts cut at a byte; a byte ahead taken off.
  numeral.Shape; numeral.Read.
  A call that returns a number and a pointer to a new block that is not told: strconv.Atoi.
-/
import Derived.Test.YthmogphlnjpakaaGreatDoorXa1
import Derived.Lib.RuneCount
import Derived.Lib.IndexLaws

namespace Go.Proofs.YthmogphlnjpakaaGreatDoor
open Go Go.Pe Go.RowKit
def itB (s : ByteArray) (p : Nat) : Blk := { cells := [], elem := 0, own := true, room := 0, iter := some (s, p) }
theorem strLen_size (s : ByteArray) : strLen s = s.size := by
  show s.data.toList.length = s.data.size
  rw [Array.length_toList]
theorem rune_w {s : ByteArray} {p : Nat} (h : Nat.blt p (strLen s) = true) : 1 ≤ (Utf8.decode s p).2 := by
  have h : p < strLen s := by simpa [Nat.blt_eq] using h
  exact Lib.decode_width_pos s p (by rw [← strLen_size]; exact h)
theorem rune_next {s : ByteArray} {p n : Nat} (hn : n = strLen s - p) (h : Nat.blt p (strLen s) = true) : strLen s - (p + (Utf8.decode s p).2) < n := by
  have h1 := rune_w h
  have h : p < strLen s := by simpa [Nat.blt_eq] using h
  omega
theorem strCut_le (a : ByteArray) (l h : Nat) : strLen (strCut a l h) ≤ h - l := by
  simp only [strLen, strCut, List.length_take]
  omega
structure dgsS where
  (s : ByteArray) (p : Nat)
noncomputable def dgsL : LoopS dgsS where
  fn := 245
  keys := [0, 2, 6]
  kv := fun ⟨s, p⟩ => [.string s, .bool false, ptr 10]
  hp := fun ⟨s, p⟩ => [(10, itB s p)]
  lo := 11
  nx := 11
  mw := 10
  size := 18
theorem dgs_tree (P : Exit → Bool → List Value → Heap → Nat → Nat → Nat → FuncId → List (FuncId × List Value) → Prop) (s : ByteArray) (p : Nat) :
 codeK (envW rules0 []) (funcK (envW rules0 []) 30) (loopOf Tryz.prog 245 2) (dgsL.st ⟨s, p⟩) (dgsL.look P) =
 (bsel (Nat.blt p (strLen s)) (bsel (decide ((↑(Prod.fst (Go.Utf8.decode s p)) : Int) < (48 : Int))) (P Go.Exit.ret true [.string s, .bool false, .pointer (some (Addr.mk 10 0 none))] [(10, Blk.mk [] 0 true 0 (some (s, p + Prod.snd (Go.Utf8.decode s p))) false)] 11 10 18 245 []) (bsel (decide ((↑(Prod.fst (Go.Utf8.decode s p)) : Int) > (57 : Int))) (P Go.Exit.ret true [.string s, .bool false, .pointer (some (Addr.mk 10 0 none))] [(10, Blk.mk [] 0 true 0 (some (s, p + Prod.snd (Go.Utf8.decode s p))) false)] 11 10 18 245 []) (P Go.Exit.normal true [.string s, .bool false, .pointer (some (Addr.mk 10 0 none))] [(10, Blk.mk [] 0 true 0 (some (s, p + Prod.snd (Go.Utf8.decode s p))) false)] 11 10 18 245 []))) (P (Go.Exit.exit 0) true [.string s, .bool false, .pointer (some (Addr.mk 10 0 none))] [(10, Blk.mk [] 0 true 0 (some (s, p)) false)] 11 10 18 245 [])) := by kernel_rfl
def dgsI (n : Nat) (x : dgsS) : Prop := True ∧ n = strLen x.s - x.p
def dgsO (_ : dgsS) : Prop := True
def dgsR (_ : dgsS) : Prop := True
theorem dgs_round  (n0 : Nat) (s : ByteArray) (p : Nat) (hI : dgsI n0 ⟨s, p⟩) :
    Hush (codeK (envW rules0 []) (funcK (envW rules0 []) 30) (loopOf Tryz.prog 245 2) (dgsL.st ⟨s, p⟩) (dgsL.look (dgsL.To dgsI dgsO dgsR 0 n0))) := by
  constructor
  rw [dgs_tree]
  obtain ⟨_, hn⟩ := hI
  try simp only at *
  exact bsel_of (fun hp => bsel_of (fun _ => ⟨⟨s, _⟩, trivial, LoopS.At.quick [] rfl rfl (by kernel_rfl) rfl (by kernel_rfl) rfl rfl rfl⟩) (fun _ => bsel_of (fun _ => ⟨⟨s, _⟩, trivial, LoopS.At.quick [] rfl rfl (by kernel_rfl) rfl (by kernel_rfl) rfl rfl rfl⟩) (fun _ => ⟨_, ⟨s, p + (Utf8.decode s p).2⟩, rune_next hn hp, ⟨trivial, rfl⟩, LoopS.At.quick [] rfl rfl (by kernel_rfl) rfl (by kernel_rfl) rfl rfl rfl⟩))) (fun _ => ⟨rfl, ⟨s, p⟩, trivial, LoopS.At.quick [] rfl rfl (by kernel_rfl) rfl (by kernel_rfl) rfl rfl rfl⟩)
theorem dgs_rounds  : Rounds (envW rules0 []) 30 (loopOf Tryz.prog 245 2) dgsL dgsI dgsO dgsR 0 := ⟨fun n x hI => dgs_round n x.s x.p hI⟩
def dgsT : LoopW := fun cq sq Kq => loopR (loopOf Tryz.prog 245 2) dgsL dgsI dgsO dgsR 0 cq sq Kq
theorem dgsT_ok {E : Env} (hP : E.P = Tryz.prog) (hW : E.weak = true) {base : World} : LoopOk E base dgsT := fun cq sq Kq h =>
  loopR_ok (E := envW rules0 []) hP hW (envW_ok (rules0_ok base)) (findL_ok (l := []) rfl fun _ h => nomatch h) (by kernel_rfl) (by kernel_rfl) dgs_rounds h
def loopsDg : List ((Nat × Nat) × LoopW) := [((245, 2), dgsT)]
theorem loopsDg_ok {E : Env} (hP : E.P = Tryz.prog) (hW : E.weak = true) (base : World) : ∀ x ∈ loopsDg, LoopOk E base x.2 := List.forall_mem_cons.2 ⟨dgsT_ok hP hW, fun _ h => nomatch h⟩
def isNdigits (s : ByteArray) (u : Value) : Prop := ∃ (b : Bool), u = .bool b ∧ (True)
theorem ndigits_hk_tree (K : Value → Nat → Prop) (s : ByteArray) :
 funcK (envW rules0 loopsDg) 30 245 [.string s] [] Tryz.prog.globals.size (fun u _ _ mw => K u mw) =
 (Is (loopOf Go.Proofs.Tryz.prog 245 2) (loopOf Go.Proofs.Tryz.prog 245 2) ∧ ∃ (x : Nat), ∃ (x_1 : dgsS), (dgsI x x_1 ∧ true = true ∧ LoopS.At dgsL x_1 true [.string s, .bool false, .pointer (some (Addr.mk 10 0 none))] [(10, Blk.mk [] 0 true 0 (some (s, 0)) false)] 11 18446744073709551616 18 245 []) ∧ (∀ (a' : dgsS), dgsO a' → bsel (!strEq a'.1 (ByteArray.mk #[])) (K (.bool true) 10) (K (.bool false) 10)) ∧ ∀ (a' : dgsS), dgsR a' → K (.bool false) 10) := by kernel_rfl
theorem ndigits_hk (s : ByteArray)  : ReckA (envW rules0 loopsDg) 30 245 [.string s] (isNdigits s) := by
  constructor
  rw [ndigits_hk_tree fun u mw => (isNdigits s) u ∧ Tryz.prog.globals.size ≤ mw]
  repeat' (first | exact ⟨⟨_, rfl, trivial⟩, Nat.le_of_ble_eq_true (by kernel_rfl)⟩ | refine ⟨⟨rfl⟩, _, ⟨s, 0⟩, ⟨⟨trivial, rfl⟩, by kernel_rfl, LoopS.At.quick [] rfl rfl (by kernel_rfl) rfl (by kernel_rfl) rfl rfl rfl⟩, fun ⟨_, _⟩ _ => ?_, fun ⟨_, _⟩ _ => ?_⟩ | refine bsel_of (fun _ => ?_) (fun _ => ?_))
def ruleNdigits : Rule := ruleA fun args => match args with
  | [.string s] => some fun K => (True) ∧ ∀ (b : Bool), K (.bool b)
  | _ => none
theorem ndigits_ok {base : World} : RuleOk Tryz.prog base 245 ruleNdigits := ruleOkA fun args T K hT hK => by
  split at hT
  · cases hT
    obtain ⟨_, hK⟩ := hK
    obtain ⟨v, ⟨r0, rfl, hf⟩, ht⟩ := totA_of (base := base) (envW_ok (rules0_ok base)) (findL_ok rfl (loopsDg_ok rfl rfl base)) rfl (ndigits_hk _) (fun v ⟨_, hv, _⟩ => by subst hv; kernel_rfl) (List.forall_mem_cons.2 ⟨by kernel_rfl, fun _ h => nomatch h⟩)
    exact ⟨_, hK r0, ht⟩
  · cases hT
structure wrdS where
  (s : ByteArray) (p : Nat) (a b : Int)
noncomputable def wrdL : LoopS wrdS where
  fn := 215
  keys := [2, 3, 4, 14]
  kv := fun ⟨s, p, a, b⟩ => [ptr 10, .bool false, ptr 11, ptr 12]
  hp := fun ⟨s, p, a, b⟩ => [(12, itB s p), (11, blkU a b), (10, blkU 0 0)]
  lo := 13
  nx := 13
  mw := 10
  size := 48
theorem wrd_tree (P : Exit → Bool → List Value → Heap → Nat → Nat → Nat → FuncId → List (FuncId × List Value) → Prop) (s : ByteArray) (p : Nat) (a b : Int) :
 codeK (envW rulesXG []) (funcK (envW rulesXG []) 30) (loopOf Tryz.prog 215 5) (wrdL.st ⟨s, p, a, b⟩) (wrdL.look P) =
 (bsel (Nat.blt p (strLen s)) (bsel (decide ((↑(Prod.fst (Go.Utf8.decode s p)) : Int) < (48 : Int))) (P Go.Exit.ret true [.pointer (some (Addr.mk 10 0 none)), .bool false, .pointer (some (Addr.mk 11 0 none)), .pointer (some (Addr.mk 12 0 none))] [(12, Blk.mk [] 0 true 0 (some (s, p + Prod.snd (Go.Utf8.decode s p))) false), (11, Blk.mk [some (Value.int .u64 a), some (Value.int .u64 b)] 86 true 0 none false), (10, Blk.mk [some (Value.int .u64 (Int.ofNat 0)), some (Value.int .u64 (Int.ofNat 0))] 86 true 0 none false)] 13 10 48 215 []) (bsel (decide ((↑(Prod.fst (Go.Utf8.decode s p)) : Int) > (57 : Int))) (P Go.Exit.ret true [.pointer (some (Addr.mk 10 0 none)), .bool false, .pointer (some (Addr.mk 11 0 none)), .pointer (some (Addr.mk 12 0 none))] [(12, Blk.mk [] 0 true 0 (some (s, p + Prod.snd (Go.Utf8.decode s p))) false), (11, Blk.mk [some (Value.int .u64 a), some (Value.int .u64 b)] 86 true 0 none false), (10, Blk.mk [some (Value.int .u64 (Int.ofNat 0)), some (Value.int .u64 (Int.ofNat 0))] 86 true 0 none false)] 13 10 48 215 []) ((u64 a ∧ u64 b ∧ u64 (Int.ofNat 10)) ∧ ∀ (p_1 y z : Int), u64 p_1 → u64 y → u64 z → p_1 * Int.ofNat 340282366920938463463374607431768211456 + wV y z = wV a b * Int.ofNat 10 → (u64 y ∧ u64 z ∧ u64 (Int.ofNat 0) ∧ u64 (IntKind.wrap .u64 (IntKind.wrap .i32 ((↑(Prod.fst (Go.Utf8.decode s p)) : Int) - (48 : Int))))) ∧ ∀ (x y_1 z_1 : Int), u64 x → u64 y_1 → u64 z_1 → z_1 ≤ Int.ofNat 1 → z_1 * Int.ofNat 340282366920938463463374607431768211456 + wV x y_1 = wV y z + wV (0 : Int) (IntKind.wrap .u64 (IntKind.wrap .i32 ((↑(Prod.fst (Go.Utf8.decode s p)) : Int) - (48 : Int)))) → bsel (p_1 != (0 : Int)) (P Go.Exit.ret true [.pointer (some (Addr.mk 10 0 none)), .bool false, .pointer (some (Addr.mk 11 0 none)), .pointer (some (Addr.mk 12 0 none))] [(13, Blk.mk [some (Value.int .u64 x), some (Value.int .u64 y_1)] 86 true 0 none false), (12, Blk.mk [] 0 true 0 (some (s, p + Prod.snd (Go.Utf8.decode s p))) false), (11, Blk.mk [some (Value.int .u64 a), some (Value.int .u64 b)] 86 true 0 none false), (10, Blk.mk [some (Value.int .u64 (Int.ofNat 0)), some (Value.int .u64 (Int.ofNat 0))] 86 true 0 none false)] 15 10 48 215 []) (bsel (z_1 != (0 : Int)) (P Go.Exit.ret true [.pointer (some (Addr.mk 10 0 none)), .bool false, .pointer (some (Addr.mk 11 0 none)), .pointer (some (Addr.mk 12 0 none))] [(13, Blk.mk [some (Value.int .u64 x), some (Value.int .u64 y_1)] 86 true 0 none false), (12, Blk.mk [] 0 true 0 (some (s, p + Prod.snd (Go.Utf8.decode s p))) false), (11, Blk.mk [some (Value.int .u64 a), some (Value.int .u64 b)] 86 true 0 none false), (10, Blk.mk [some (Value.int .u64 (Int.ofNat 0)), some (Value.int .u64 (Int.ofNat 0))] 86 true 0 none false)] 15 10 48 215 []) (P Go.Exit.normal true [.pointer (some (Addr.mk 10 0 none)), .bool false, .pointer (some (Addr.mk 11 0 none)), .pointer (some (Addr.mk 12 0 none))] [(13, Blk.mk [some (Value.int .u64 x), some (Value.int .u64 y_1)] 86 true 0 none false), (12, Blk.mk [] 0 true 0 (some (s, p + Prod.snd (Go.Utf8.decode s p))) false), (11, Blk.mk [some (Value.int .u64 x), some (Value.int .u64 y_1)] 86 true 0 none false), (10, Blk.mk [some (Value.int .u64 (Int.ofNat 0)), some (Value.int .u64 (Int.ofNat 0))] 86 true 0 none false)] 15 10 48 215 []))))) (P (Go.Exit.exit 0) true [.pointer (some (Addr.mk 10 0 none)), .bool false, .pointer (some (Addr.mk 11 0 none)), .pointer (some (Addr.mk 12 0 none))] [(12, Blk.mk [] 0 true 0 (some (s, p)) false), (11, Blk.mk [some (Value.int .u64 a), some (Value.int .u64 b)] 86 true 0 none false), (10, Blk.mk [some (Value.int .u64 (Int.ofNat 0)), some (Value.int .u64 (Int.ofNat 0))] 86 true 0 none false)] 13 10 48 215 [])) := by kernel_rfl
def wrdI (n : Nat) (x : wrdS) : Prop := (u64 x.a ∧ u64 x.b) ∧ n = strLen x.s - x.p
def wrdO (x : wrdS) : Prop := u64 x.a ∧ u64 x.b
def wrdR (_ : wrdS) : Prop := True
theorem wrd_round  (n0 : Nat) (s : ByteArray) (p : Nat) (a b : Int) (hI : wrdI n0 ⟨s, p, a, b⟩) :
    Hush (codeK (envW rulesXG []) (funcK (envW rulesXG []) 30) (loopOf Tryz.prog 215 5) (wrdL.st ⟨s, p, a, b⟩) (wrdL.look (wrdL.To wrdI wrdO wrdR 0 n0))) := by
  constructor
  rw [wrd_tree]
  obtain ⟨⟨h1, h2⟩, hn⟩ := hI
  try simp only at *
  exact bsel_of (fun hp => bsel_of (fun _ => ⟨⟨s, _, a, b⟩, trivial, LoopS.At.quick [] rfl rfl (by kernel_rfl) rfl (by kernel_rfl) rfl rfl rfl⟩) (fun _ => bsel_of (fun _ => ⟨⟨s, _, a, b⟩, trivial, LoopS.At.quick [] rfl rfl (by kernel_rfl) rfl (by kernel_rfl) rfl rfl rfl⟩) (fun _ => ⟨⟨h1, h2, u64_lit rfl⟩, fun q y z k1 k2 k3 _ => ⟨⟨k2, k3, u64_lit rfl, u64_wrap _⟩, fun x y1 z1 j1 j2 j3 _ _ => bsel_of (fun _ => ⟨⟨s, _, a, b⟩, trivial, LoopS.At.quick [] rfl rfl (by kernel_rfl) rfl (by kernel_rfl) rfl rfl rfl⟩) (fun _ => bsel_of (fun _ => ⟨⟨s, _, a, b⟩, trivial, LoopS.At.quick [] rfl rfl (by kernel_rfl) rfl (by kernel_rfl) rfl rfl rfl⟩) (fun _ => ⟨_, ⟨s, p + (Utf8.decode s p).2, x, y1⟩, rune_next hn hp, ⟨⟨j1, j2⟩, rfl⟩, LoopS.At.quick [] rfl rfl (by kernel_rfl) rfl (by kernel_rfl) rfl rfl rfl⟩))⟩⟩))) (fun _ => ⟨rfl, ⟨s, p, a, b⟩, ⟨h1, h2⟩, LoopS.At.quick [] rfl rfl (by kernel_rfl) rfl (by kernel_rfl) rfl rfl rfl⟩)
theorem wrd_rounds  : Rounds (envW rulesXG []) 30 (loopOf Tryz.prog 215 5) wrdL wrdI wrdO wrdR 0 := ⟨fun n x hI => wrd_round n x.s x.p x.a x.b hI⟩
def wrdT : LoopW := fun cq sq Kq => loopR (loopOf Tryz.prog 215 5) wrdL wrdI wrdO wrdR 0 cq sq Kq
theorem wrdT_ok {E : Env} (hP : E.P = Tryz.prog) (hW : E.weak = true) {base : World} : LoopOk E base wrdT := fun cq sq Kq h =>
  loopR_ok (E := envW rulesXG []) hP hW (envW_ok (rulesXG_ok base)) (findL_ok (l := []) rfl fun _ h => nomatch h) (by kernel_rfl) (by kernel_rfl) wrd_rounds h
def loopsWr : List ((Nat × Nat) × LoopW) := [((215, 5), wrdT)]
theorem loopsWr_ok {E : Env} (hP : E.P = Tryz.prog) (hW : E.weak = true) (base : World) : ∀ x ∈ loopsWr, LoopOk E base x.2 := List.forall_mem_cons.2 ⟨wrdT_ok hP hW, fun _ h => nomatch h⟩
def isWread (s : ByteArray) (u : Value) : Prop := ∃ (a b : Int) (ok : Bool), u = .tuple #[wU a b, .bool ok] ∧ (u64 a ∧ u64 b)
theorem wread_hk_tree (K : Value → Nat → Prop) (s : ByteArray) :
 funcK (envW rulesXG loopsWr) 30 215 [.string s] [] Tryz.prog.globals.size (fun u _ _ mw => K u mw) =
 (bsel (strEq s (ByteArray.mk #[])) (K (.tuple (Array.mk [.agg (Array.mk [.int .u64 (Int.ofNat 0), .int .u64 (Int.ofNat 0)]), .bool false])) 10) (Is (loopOf Go.Proofs.Tryz.prog 215 5) (loopOf Go.Proofs.Tryz.prog 215 5) ∧ ∃ (x : Nat), ∃ (x_1 : wrdS), (wrdI x x_1 ∧ true = true ∧ LoopS.At wrdL x_1 true [.pointer (some (Addr.mk 10 0 none)), .bool false, .pointer (some (Addr.mk 11 0 none)), .pointer (some (Addr.mk 12 0 none))] [(12, Blk.mk [] 0 true 0 (some (s, 0)) false), (11, Blk.mk [some (Value.int .u64 (Int.ofNat 0)), some (Value.int .u64 (Int.ofNat 0))] 86 true 0 none false), (10, Blk.mk [some (Value.int .u64 (Int.ofNat 0)), some (Value.int .u64 (Int.ofNat 0))] 86 true 0 none false)] 13 18446744073709551616 48 215 []) ∧ (∀ (a' : wrdS), wrdO a' → K (.tuple (Array.mk [.agg (Array.mk [.int .u64 a'.3, .int .u64 a'.4]), .bool true])) 10) ∧ ∀ (a' : wrdS), wrdR a' → K (.tuple (Array.mk [.agg (Array.mk [.int .u64 (Int.ofNat 0), .int .u64 (Int.ofNat 0)]), .bool false])) 10)) := by kernel_rfl
theorem wread_hk (s : ByteArray)  : ReckA (envW rulesXG loopsWr) 30 215 [.string s] (isWread s) := by
  constructor
  rw [wread_hk_tree fun u mw => (isWread s) u ∧ Tryz.prog.globals.size ≤ mw]
  repeat' (first | exact ⟨⟨_, _, _, rfl, by (first | assumption | exact u64_lit rfl), by (first | assumption | exact u64_lit rfl)⟩, Nat.le_of_ble_eq_true (by kernel_rfl)⟩ | refine ⟨⟨rfl⟩, _, ⟨s, 0, 0, 0⟩, ⟨⟨⟨u64_lit rfl, u64_lit rfl⟩, rfl⟩, by kernel_rfl, LoopS.At.quick [] rfl rfl (by kernel_rfl) rfl (by kernel_rfl) rfl rfl rfl⟩, fun ⟨_, _, _, _⟩ ⟨_, _⟩ => ?_, fun ⟨_, _, _, _⟩ _ => ?_⟩ | refine bsel_of (fun _ => ?_) (fun _ => ?_))
def ruleWread : Rule := ruleA fun args => match args with
  | [.string s] => some fun K => (True) ∧ ∀ (a b : Int) (ok : Bool), u64 a → u64 b → K (.tuple #[wU a b, .bool ok])
  | _ => none
theorem wread_ok {base : World} : RuleOk Tryz.prog base 215 ruleWread := ruleOkA fun args T K hT hK => by
  split at hT
  · cases hT
    obtain ⟨_, hK⟩ := hK
    obtain ⟨v, ⟨r0, r1, r2, rfl, hf⟩, ht⟩ := totA_of (base := base) (envW_ok (rulesXG_ok base)) (findL_ok rfl (loopsWr_ok rfl rfl base)) rfl (wread_hk _) (fun v ⟨_, _, _, hv, _⟩ => by subst hv; kernel_rfl) (List.forall_mem_cons.2 ⟨by kernel_rfl, fun _ h => nomatch h⟩)
    exact ⟨_, hK r0 r1 r2 hf.1 hf.2, ht⟩
  · cases hT
structure trlS where
  (s : ByteArray) (c : Int)
noncomputable def trlL : LoopS trlS where
  fn := 248
  keys := [0, 1]
  kv := fun ⟨s, c⟩ => [.string s, .int .u8 c]
  hp := fun ⟨s, c⟩ => []
  lo := Tryz.prog.globals.size
  nx := Tryz.prog.globals.size
  mw := Tryz.prog.globals.size
  size := 17
theorem trl_tree (P : Exit → Bool → List Value → Heap → Nat → Nat → Nat → FuncId → List (FuncId × List Value) → Prop) (s : ByteArray) (c : Int) :
 codeK (envW rules0 []) (funcK (envW rules0 []) 30) (loopOf Tryz.prog 248 1) (trlL.st ⟨s, c⟩) (trlL.look P) =
 (bsel (decide ((↑(strLen s) : Int) > (0 : Int))) (bsel (decide ((0 : Int) ≤ (0 : Int)) && decide ((0 : Int) < (↑(strLen s) : Int))) (bsel ((↑(UInt8.toNat (byteAt (Array.toList (ByteArray.data s)) (Int.toNat (0 : Int)))) : Int) == c) (bsel (decide ((0 : Int) ≤ (1 : Int)) && decide ((1 : Int) ≤ (↑(strLen s) : Int))) (P Go.Exit.normal true [.string (strCut s 1 (strLen s)), .int .u8 c] [] 10 10 17 248 []) False) (P (Go.Exit.exit 0) true [.string s, .int .u8 c] [] 10 10 17 248 [])) False) (P (Go.Exit.exit 0) true [.string s, .int .u8 c] [] 10 10 17 248 [])) := by kernel_rfl
def trlI (L : Nat) (n : Nat) (x : trlS) : Prop := strLen x.s ≤ L ∧ n = strLen x.s
def trlO (L : Nat) (x : trlS) : Prop := strLen x.s ≤ L
theorem trl_round (L : Nat) (n0 : Nat) (s : ByteArray) (c : Int) (hI : trlI L n0 ⟨s, c⟩) :
    Hush (codeK (envW rules0 []) (funcK (envW rules0 []) 30) (loopOf Tryz.prog 248 1) (trlL.st ⟨s, c⟩) (trlL.look (trlL.To (trlI L) (trlO L) (fun _ => False) 0 n0))) := by
  constructor
  rw [trl_tree]
  obtain ⟨h1, hn⟩ := hI
  try simp only at *
  refine bsel_of (fun h0 => ?_) (fun _ => ⟨rfl, ⟨s, c⟩, h1, LoopS.At.quick [] rfl rfl (by kernel_rfl) rfl (by kernel_rfl) rfl rfl rfl⟩)
  have h0 : (strLen s : Int) > 0 := of_decide_eq_true h0
  have hc := strCut_le s 1 (strLen s)
  exact bsel_of (fun _ => bsel_of (fun _ => bsel_of (fun _ => ⟨strLen (strCut s 1 (strLen s)), ⟨strCut s 1 (strLen s), c⟩, by omega, ⟨by show strLen (strCut s 1 (strLen s)) ≤ L; omega, rfl⟩, LoopS.At.quick [] rfl rfl (by kernel_rfl) rfl (by kernel_rfl) rfl rfl rfl⟩) (fun h => absurd h (by first | (simp; omega) | simp))) (fun _ => ⟨rfl, ⟨s, c⟩, h1, LoopS.At.quick [] rfl rfl (by kernel_rfl) rfl (by kernel_rfl) rfl rfl rfl⟩)) (fun h => absurd h (by first | (simp; omega) | simp))
theorem trl_rounds (L : Nat) : Rounds (envW rules0 []) 30 (loopOf Tryz.prog 248 1) trlL (trlI L) (trlO L) (fun _ => False) 0 := ⟨fun n x hI => trl_round L n x.s x.c hI⟩
def trlT : LoopW := fun cq sq Kq => ∃ (L : Nat), loopT (loopOf Tryz.prog 248 1) trlL (trlI L) (trlO L) 0 cq sq Kq
theorem trlT_ok {E : Env} (hP : E.P = Tryz.prog) (hW : E.weak = true) {base : World} : LoopOk E base trlT := fun cq sq Kq ⟨L, h⟩ =>
  loopT_ok (E := envW rules0 []) hP hW (envW_ok (rules0_ok base)) (findL_ok (l := []) rfl fun _ h => nomatch h) (by kernel_rfl) (by kernel_rfl) (trl_rounds L) h
structure trrS where
  (s : ByteArray) (c : Int)
noncomputable def trrL : LoopS trrS where
  fn := 252
  keys := [0, 1]
  kv := fun ⟨s, c⟩ => [.string s, .int .u8 c]
  hp := fun ⟨s, c⟩ => []
  lo := Tryz.prog.globals.size
  nx := Tryz.prog.globals.size
  mw := Tryz.prog.globals.size
  size := 23
theorem trr_tree (P : Exit → Bool → List Value → Heap → Nat → Nat → Nat → FuncId → List (FuncId × List Value) → Prop) (s : ByteArray) (c : Int) :
 codeK (envW rules0 []) (funcK (envW rules0 []) 30) (loopOf Tryz.prog 252 1) (trrL.st ⟨s, c⟩) (trrL.look P) =
 (bsel (decide ((↑(strLen s) : Int) > (0 : Int))) (bsel (decide ((0 : Int) ≤ IntKind.wrap .i64 ((↑(strLen s) : Int) - (1 : Int))) && decide (IntKind.wrap .i64 ((↑(strLen s) : Int) - (1 : Int)) < (↑(strLen s) : Int))) (bsel ((↑(UInt8.toNat (byteAt (Array.toList (ByteArray.data s)) (Int.toNat (IntKind.wrap .i64 ((↑(strLen s) : Int) - (1 : Int)))))) : Int) == c) (bsel (decide ((0 : Int) ≤ IntKind.wrap .i64 ((↑(strLen s) : Int) - (1 : Int))) && decide (IntKind.wrap .i64 ((↑(strLen s) : Int) - (1 : Int)) ≤ (↑(strLen s) : Int))) (P Go.Exit.normal true [.string (strCut s 0 (Int.toNat (IntKind.wrap .i64 ((↑(strLen s) : Int) - (1 : Int))))), .int .u8 c] [] 10 10 23 252 []) False) (P (Go.Exit.exit 0) true [.string s, .int .u8 c] [] 10 10 23 252 [])) False) (P (Go.Exit.exit 0) true [.string s, .int .u8 c] [] 10 10 23 252 [])) := by kernel_rfl
def trrI (L : Nat) (n : Nat) (x : trrS) : Prop := (strLen x.s ≤ L ∧ L ≤ 281474976710656) ∧ n = strLen x.s
def trrO (L : Nat) (x : trrS) : Prop := strLen x.s ≤ L
theorem trr_round (L : Nat) (n0 : Nat) (s : ByteArray) (c : Int) (hI : trrI L n0 ⟨s, c⟩) :
    Hush (codeK (envW rules0 []) (funcK (envW rules0 []) 30) (loopOf Tryz.prog 252 1) (trrL.st ⟨s, c⟩) (trrL.look (trrL.To (trrI L) (trrO L) (fun _ => False) 0 n0))) := by
  constructor
  rw [trr_tree]
  obtain ⟨⟨h1, h2⟩, hn⟩ := hI
  try simp only at *
  refine bsel_of (fun h0 => ?_) (fun _ => ⟨rfl, ⟨s, c⟩, h1, LoopS.At.quick [] rfl rfl (by kernel_rfl) rfl (by kernel_rfl) rfl rfl rfl⟩)
  have h0 : (strLen s : Int) > 0 := of_decide_eq_true h0
  have hw : IntKind.wrap .i64 (↑(strLen s) - 1) = ↑(strLen s - 1) := by
    rw [wrap_i64r (by unfold i64; omega)]
    omega
  rw [hw, Int.toNat_natCast]
  have hc := strCut_le s 0 (strLen s - 1)
  exact bsel_of (fun _ => bsel_of (fun _ => bsel_of (fun _ => ⟨strLen (strCut s 0 (strLen s - 1)), ⟨strCut s 0 (strLen s - 1), c⟩, by omega, ⟨⟨by show strLen (strCut s 0 (strLen s - 1)) ≤ L; omega, h2⟩, rfl⟩, LoopS.At.quick [] rfl rfl (by kernel_rfl) rfl (by kernel_rfl) rfl rfl rfl⟩) (fun h => absurd h (by first | (simp; omega) | simp))) (fun _ => ⟨rfl, ⟨s, c⟩, h1, LoopS.At.quick [] rfl rfl (by kernel_rfl) rfl (by kernel_rfl) rfl rfl rfl⟩)) (fun h => absurd h (by first | (simp; omega) | simp))
theorem trr_rounds (L : Nat) : Rounds (envW rules0 []) 30 (loopOf Tryz.prog 252 1) trrL (trrI L) (trrO L) (fun _ => False) 0 := ⟨fun n x hI => trr_round L n x.s x.c hI⟩
def trrT : LoopW := fun cq sq Kq => ∃ (L : Nat), loopT (loopOf Tryz.prog 252 1) trrL (trrI L) (trrO L) 0 cq sq Kq
theorem trrT_ok {E : Env} (hP : E.P = Tryz.prog) (hW : E.weak = true) {base : World} : LoopOk E base trrT := fun cq sq Kq ⟨L, h⟩ =>
  loopT_ok (E := envW rules0 []) hP hW (envW_ok (rules0_ok base)) (findL_ok (l := []) rfl fun _ h => nomatch h) (by kernel_rfl) (by kernel_rfl) (trr_rounds L) h
def loopsTr : List ((Nat × Nat) × LoopW) := [((248, 1), trlT), ((252, 1), trrT)]
theorem loopsTr_ok {E : Env} (hP : E.P = Tryz.prog) (hW : E.weak = true) (base : World) : ∀ x ∈ loopsTr, LoopOk E base x.2 := List.forall_mem_cons.2 ⟨trlT_ok hP hW, List.forall_mem_cons.2 ⟨trrT_ok hP hW, fun _ h => nomatch h⟩⟩
def isTriml (s : ByteArray) (u : Value) : Prop := ∃ (t : ByteArray), u = .string t ∧ (strLen t ≤ strLen s)
theorem triml_hk_tree (K : Value → Nat → Prop) (s : ByteArray) :
 funcK (envW rules0 loopsTr) 30 213 [.string s, .string ⟨#[48]⟩] [] Tryz.prog.globals.size (fun u _ _ mw => K u mw) =
 (bsel (strEq s (ByteArray.mk #[])) (K (.string s) 18446744073709551616) (∃ (x : Nat), Is (loopOf Go.Proofs.Tryz.prog 248 1) (loopOf Go.Proofs.Tryz.prog 248 1) ∧ ∃ (x_1 : Nat), ∃ (x_2 : trlS), (trlI x x_1 x_2 ∧ true = true ∧ LoopS.At trlL x_2 true [.string s, .int .u8 (Int.ofNat 48)] [] 10 18446744073709551616 17 248 []) ∧ ∀ (a' : trlS), trlO x a' → K (.string a'.1) 10)) := by kernel_rfl
theorem triml_hk (s : ByteArray)  : ReckA (envW rules0 loopsTr) 30 213 [.string s, .string ⟨#[48]⟩] (isTriml s) := by
  constructor
  rw [triml_hk_tree fun u mw => (isTriml s) u ∧ Tryz.prog.globals.size ≤ mw]
  repeat' (first | exact ⟨⟨_, rfl, Nat.le_refl _⟩, Nat.le_of_ble_eq_true (by kernel_rfl)⟩ | exact ⟨strLen s, ⟨rfl⟩, _, ⟨s, 48⟩, ⟨⟨Nat.le_refl _, rfl⟩, by kernel_rfl, LoopS.At.quick [] rfl rfl (by kernel_rfl) rfl (by kernel_rfl) rfl rfl rfl⟩, fun ⟨_, _⟩ h => ⟨⟨_, rfl, h⟩, Nat.le_of_ble_eq_true (by kernel_rfl)⟩⟩ | refine bsel_of (fun _ => ?_) (fun _ => ?_))
def ruleTriml : Rule := ruleA fun args => match args with
  | [.string s, .string zz1] => some fun K => (zz1 = ⟨#[48]⟩) ∧ ∀ (t : ByteArray), strLen t ≤ strLen s → K (.string t)
  | _ => none
theorem triml_ok {base : World} : RuleOk Tryz.prog base 213 ruleTriml := ruleOkA fun args T K hT hK => by
  split at hT
  · rename_i s zz1
    cases hT
    obtain ⟨rfl, hK⟩ := hK
    obtain ⟨v, ⟨r0, rfl, hf⟩, ht⟩ := totA_of (base := base) (envW_ok (rules0_ok base)) (findL_ok rfl (loopsTr_ok rfl rfl base)) rfl (triml_hk s) (fun v ⟨_, hv, _⟩ => by subst hv; kernel_rfl) (List.forall_mem_cons.2 ⟨by kernel_rfl, List.forall_mem_cons.2 ⟨by kernel_rfl, fun _ h => nomatch h⟩⟩)
    exact ⟨_, hK r0 hf, ht⟩
  · cases hT
def isTrimb (s : ByteArray) (u : Value) : Prop := ∃ (t : ByteArray), u = .string t ∧ (strLen t ≤ strLen s)
theorem trimb_hk_tree (K : Value → Nat → Prop) (s : ByteArray) :
 funcK (envW rules0 loopsTr) 30 214 [.string s, .string ⟨#[48]⟩] [] Tryz.prog.globals.size (fun u _ _ mw => K u mw) =
 (bsel (strEq s (ByteArray.mk #[])) (K (.string s) 18446744073709551616) (∃ (x : Nat), Is (loopOf Go.Proofs.Tryz.prog 252 1) (loopOf Go.Proofs.Tryz.prog 252 1) ∧ ∃ (x_1 : Nat), ∃ (x_2 : trrS), (trrI x x_1 x_2 ∧ true = true ∧ LoopS.At trrL x_2 true [.string s, .int .u8 (Int.ofNat 48)] [] 10 18446744073709551616 23 252 []) ∧ ∀ (a' : trrS), trrO x a' → ∃ (x : Nat), Is (loopOf Go.Proofs.Tryz.prog 248 1) (loopOf Go.Proofs.Tryz.prog 248 1) ∧ ∃ (x_3 : Nat), ∃ (x_4 : trlS), (trlI x x_3 x_4 ∧ true = true ∧ LoopS.At trlL x_4 true [.string a'.1, .int .u8 (Int.ofNat 48)] [] 10 18446744073709551616 17 248 []) ∧ ∀ (a' : trlS), trlO x a' → K (.string a'.1) 18446744073709551616)) := by kernel_rfl
theorem trimb_hk (s : ByteArray) (hs : strLen s ≤ 281474976710656) : ReckA (envW rules0 loopsTr) 30 214 [.string s, .string ⟨#[48]⟩] (isTrimb s) := by
  constructor
  rw [trimb_hk_tree fun u mw => (isTrimb s) u ∧ Tryz.prog.globals.size ≤ mw]
  repeat' (first | exact ⟨⟨_, rfl, Nat.le_refl _⟩, Nat.le_of_ble_eq_true (by kernel_rfl)⟩ | exact ⟨strLen s, ⟨rfl⟩, _, ⟨s, 48⟩, ⟨⟨⟨Nat.le_refl _, hs⟩, rfl⟩, by kernel_rfl, LoopS.At.quick [] rfl rfl (by kernel_rfl) rfl (by kernel_rfl) rfl rfl rfl⟩, fun ⟨s2, _⟩ h2 => ⟨strLen s2, ⟨rfl⟩, _, ⟨s2, _⟩, ⟨⟨Nat.le_refl _, rfl⟩, by kernel_rfl, LoopS.At.quick [] rfl rfl (by kernel_rfl) rfl (by kernel_rfl) rfl rfl rfl⟩, fun ⟨_, _⟩ h => ⟨⟨_, rfl, Nat.le_trans h h2⟩, Nat.le_of_ble_eq_true (by kernel_rfl)⟩⟩⟩ | refine bsel_of (fun _ => ?_) (fun _ => ?_))
def ruleTrimb : Rule := ruleA fun args => match args with
  | [.string s, .string zz1] => some fun K => (zz1 = ⟨#[48]⟩ ∧ strLen s ≤ 281474976710656) ∧ ∀ (t : ByteArray), strLen t ≤ strLen s → K (.string t)
  | _ => none
theorem trimb_ok {base : World} : RuleOk Tryz.prog base 214 ruleTrimb := ruleOkA fun args T K hT hK => by
  split at hT
  · cases hT
    obtain ⟨⟨rfl, hs⟩, hK⟩ := hK
    obtain ⟨v, ⟨r0, rfl, hf⟩, ht⟩ := totA_of (base := base) (envW_ok (rules0_ok base)) (findL_ok rfl (loopsTr_ok rfl rfl base)) rfl (trimb_hk _ hs) (fun v ⟨_, hv, _⟩ => by subst hv; kernel_rfl) (List.forall_mem_cons.2 ⟨by kernel_rfl, List.forall_mem_cons.2 ⟨by kernel_rfl, fun _ h => nomatch h⟩⟩)
    exact ⟨_, hK r0 hf, ht⟩
  · cases hT
structure nmbS where
  (s : ByteArray) (p : Nat) (n : Int)
noncomputable def nmbL : LoopS nmbS where
  fn := 177
  keys := [6, 7, 8, 22]
  kv := fun ⟨s, p, n⟩ => [.int .i64 0, .bool false, .int .i64 n, ptr 10]
  hp := fun ⟨s, p, n⟩ => [(10, itB s p)]
  lo := 11
  nx := 11
  mw := 10
  size := 39
theorem nmb_tree (P : Exit → Bool → List Value → Heap → Nat → Nat → Nat → FuncId → List (FuncId × List Value) → Prop) (s : ByteArray) (p : Nat) (n : Int) :
 codeK (envW rules0 []) (funcK (envW rules0 []) 30) (loopOf Tryz.prog 177 5) (nmbL.st ⟨s, p, n⟩) (nmbL.look P) =
 (bsel (Nat.blt p (strLen s)) (bsel (decide ((↑(Prod.fst (Go.Utf8.decode s p)) : Int) < (48 : Int))) (P Go.Exit.ret true [.int .i64 (Int.ofNat 0), .bool false, .int .i64 n, .pointer (some (Addr.mk 10 0 none))] [(10, Blk.mk [] 0 true 0 (some (s, p + Prod.snd (Go.Utf8.decode s p))) false)] 11 10 39 177 []) (bsel (decide ((↑(Prod.fst (Go.Utf8.decode s p)) : Int) > (57 : Int))) (P Go.Exit.ret true [.int .i64 (Int.ofNat 0), .bool false, .int .i64 n, .pointer (some (Addr.mk 10 0 none))] [(10, Blk.mk [] 0 true 0 (some (s, p + Prod.snd (Go.Utf8.decode s p))) false)] 11 10 39 177 []) (P Go.Exit.normal true [.int .i64 (Int.ofNat 0), .bool false, .int .i64 (IntKind.wrap .i64 (IntKind.wrap .i64 ((10 : Int) * n) + IntKind.wrap .i64 (IntKind.wrap .i32 ((↑(Prod.fst (Go.Utf8.decode s p)) : Int) - (48 : Int))))), .pointer (some (Addr.mk 10 0 none))] [(10, Blk.mk [] 0 true 0 (some (s, p + Prod.snd (Go.Utf8.decode s p))) false)] 11 10 39 177 []))) (P (Go.Exit.exit 0) true [.int .i64 (Int.ofNat 0), .bool false, .int .i64 n, .pointer (some (Addr.mk 10 0 none))] [(10, Blk.mk [] 0 true 0 (some (s, p)) false)] 11 10 39 177 [])) := by kernel_rfl
def nmbI (L : Nat) (k : Nat) (x : nmbS) : Prop := strLen x.s ≤ L ∧ L ≤ 15 ∧ (∃ j : Nat, j ≤ x.p ∧ j ≤ strLen x.s ∧ 0 ≤ x.n ∧ x.n < 10 ^ j) ∧ k = strLen x.s - x.p
def nmbO (L : Nat) (x : nmbS) : Prop := 0 ≤ x.n ∧ x.n < 10 ^ L
def nmbR (_ : Nat) (_ : nmbS) : Prop := True
theorem nmb_round (L : Nat) (n0 : Nat) (s : ByteArray) (p : Nat) (n : Int) (hI : nmbI L n0 ⟨s, p, n⟩) :
    Hush (codeK (envW rules0 []) (funcK (envW rules0 []) 30) (loopOf Tryz.prog 177 5) (nmbL.st ⟨s, p, n⟩) (nmbL.look (nmbL.To (nmbI L) (nmbO L) (nmbR L) 0 n0))) := by
  constructor
  rw [nmb_tree]
  obtain ⟨h1, h2, ⟨j, hj, hj2, h3, h4⟩, hn⟩ := hI
  try simp only at *
  have hO : nmbO L ⟨s, p, n⟩ := ⟨h3, Int.lt_of_lt_of_le h4 (pow_le10 (Nat.le_trans hj2 h1))⟩
  refine bsel_of (fun hp => bsel_of (fun _ => ⟨⟨s, _, n⟩, trivial, LoopS.At.quick [] rfl rfl (by kernel_rfl) rfl (by kernel_rfl) rfl rfl rfl⟩) (fun hlo => bsel_of (fun _ => ⟨⟨s, _, n⟩, trivial, LoopS.At.quick [] rfl rfl (by kernel_rfl) rfl (by kernel_rfl) rfl rfl rfl⟩) (fun hhi => ?_))) (fun _ => ⟨rfl, ⟨s, p, n⟩, hO, LoopS.At.quick [] rfl rfl (by kernel_rfl) rfl (by kernel_rfl) rfl rfl rfl⟩)
  have hlo := of_decide_eq_false hlo
  have hhi := of_decide_eq_false hhi
  have hw := rune_w hp
  have hp2 : p < strLen s := by simpa [Nat.blt_eq] using hp
  have hb : n < 10 ^ 15 := Int.lt_of_lt_of_le h4 (pow_le10 (by omega))
  generalize ((Utf8.decode s p).1 : Int) = c at hlo hhi ⊢
  have e1 : IntKind.wrap .i32 (c - 48) = c - 48 := by
    have : IntKind.wrap .i32 (c - 48) = if (c - 48) % 4294967296 ≥ 2147483648 then (c - 48) % 4294967296 - 4294967296 else (c - 48) % 4294967296 := by simp [IntKind.wrap, IntKind.bits, IntKind.signed]
    rw [this]
    split <;> omega
  have e2 : IntKind.wrap .i64 (c - 48) = c - 48 := wrap_i64r (by unfold i64; omega)
  have e3 : IntKind.wrap .i64 (10 * n) = 10 * n := wrap_i64r (by unfold i64; omega)
  have e4 : IntKind.wrap .i64 (10 * n + (c - 48)) = 10 * n + (c - 48) := wrap_i64r (by unfold i64; omega)
  rw [e1, e2, e3, e4]
  have h5 : 10 * n + (c - 48) < 10 ^ (j + 1) := by
    rw [pow_add10]
    omega
  exact ⟨_, ⟨s, p + (Utf8.decode s p).2, 10 * n + (c - 48)⟩, rune_next hn hp, ⟨h1, h2, ⟨j + 1, by show j + 1 ≤ p + (Utf8.decode s p).2; omega, by show j + 1 ≤ strLen s; omega, by show 0 ≤ 10 * n + (c - 48); omega, h5⟩, rfl⟩, LoopS.At.quick [] rfl rfl (by kernel_rfl) rfl (by kernel_rfl) rfl rfl rfl⟩
theorem nmb_rounds (L : Nat) : Rounds (envW rules0 []) 30 (loopOf Tryz.prog 177 5) nmbL (nmbI L) (nmbO L) (nmbR L) 0 := ⟨fun n x hI => nmb_round L n x.s x.p x.n hI⟩
def nmbT : LoopW := fun cq sq Kq => ∃ (L : Nat), loopR (loopOf Tryz.prog 177 5) nmbL (nmbI L) (nmbO L) (nmbR L) 0 cq sq Kq
theorem nmbT_ok {E : Env} (hP : E.P = Tryz.prog) (hW : E.weak = true) {base : World} : LoopOk E base nmbT := fun cq sq Kq ⟨L, h⟩ =>
  loopR_ok (E := envW rules0 []) hP hW (envW_ok (rules0_ok base)) (findL_ok (l := []) rfl fun _ h => nomatch h) (by kernel_rfl) (by kernel_rfl) (nmb_rounds L) h
def loopsNb : List ((Nat × Nat) × LoopW) := [((177, 5), nmbT)]
theorem loopsNb_ok {E : Env} (hP : E.P = Tryz.prog) (hW : E.weak = true) (base : World) : ∀ x ∈ loopsNb, LoopOk E base x.2 := List.forall_mem_cons.2 ⟨nmbT_ok hP hW, fun _ h => nomatch h⟩
def isLnumber (s : ByteArray) (a b : Int) (u : Value) : Prop := ∃ (n : Int) (ok : Bool), u = .tuple #[.int .i64 n, .bool ok] ∧ (0 ≤ n ∧ n < 10 ^ b.toNat)
theorem lnumber_hk_tree (K : Value → Nat → Prop) (s : ByteArray) (a b : Int) :
 funcK (envW rules0 loopsNb) 30 177 [.string s, .int .i64 a, .int .i64 b] [] Tryz.prog.globals.size (fun u _ _ mw => K u mw) =
 (bsel (decide ((↑(strLen s) : Int) < a)) (K (.tuple (Array.mk [.int .i64 (Int.ofNat 0), .bool false])) 18446744073709551616) (bsel (decide ((↑(strLen s) : Int) > b)) (K (.tuple (Array.mk [.int .i64 (Int.ofNat 0), .bool false])) 18446744073709551616) (∃ (x : Nat), Is (loopOf Go.Proofs.Tryz.prog 177 5) (loopOf Go.Proofs.Tryz.prog 177 5) ∧ ∃ (x_1 : Nat), ∃ (x_2 : nmbS), (nmbI x x_1 x_2 ∧ true = true ∧ LoopS.At nmbL x_2 true [.int .i64 (Int.ofNat 0), .bool false, .int .i64 (Int.ofNat 0), .pointer (some (Addr.mk 10 0 none))] [(10, Blk.mk [] 0 true 0 (some (s, 0)) false)] 11 18446744073709551616 39 177 []) ∧ (∀ (a' : nmbS), nmbO x a' → K (.tuple (Array.mk [.int .i64 a'.3, .bool true])) 10) ∧ ∀ (a' : nmbS), nmbR x a' → K (.tuple (Array.mk [.int .i64 (Int.ofNat 0), .bool false])) 10))) := by kernel_rfl
theorem lnumber_hk (s : ByteArray) (a b : Int) (h1 : 0 ≤ b) (h2 : b ≤ 15) : ReckA (envW rules0 loopsNb) 30 177 [.string s, .int .i64 a, .int .i64 b] (isLnumber s a b) := by
  constructor
  rw [lnumber_hk_tree fun u mw => (isLnumber s a b) u ∧ Tryz.prog.globals.size ≤ mw]
  have hz : (0 : Int) < 10 ^ b.toNat := pow_pos10 _
  repeat' (first | exact ⟨⟨_, _, rfl, Int.le_refl _, hz⟩, Nat.le_of_ble_eq_true (by kernel_rfl)⟩ | refine bsel_of (fun _ => ?_) (fun hb => ?_))
  have hb := of_decide_eq_false hb
  exact ⟨b.toNat, ⟨rfl⟩, _, ⟨s, 0, 0⟩, ⟨⟨by show strLen s ≤ b.toNat; omega, by omega, ⟨0, Nat.le_refl _, Nat.zero_le _, Int.le_refl _, by show (0 : Int) < 10 ^ 0; rw [Int.pow_zero]; decide⟩, rfl⟩, by kernel_rfl, LoopS.At.quick [] rfl rfl (by kernel_rfl) rfl (by kernel_rfl) rfl rfl rfl⟩, fun ⟨_, _, _⟩ ⟨q1, q2⟩ => ⟨⟨_, _, rfl, q1, q2⟩, Nat.le_of_ble_eq_true (by kernel_rfl)⟩, fun ⟨_, _, _⟩ _ => ⟨⟨_, _, rfl, Int.le_refl _, hz⟩, Nat.le_of_ble_eq_true (by kernel_rfl)⟩⟩
def ruleLnumber : Rule := ruleA fun args => match args with
  | [.string s, .int .i64 a, .int .i64 b] => some fun K => (0 ≤ b ∧ b ≤ 15) ∧ ∀ (n : Int) (ok : Bool), 0 ≤ n → n < 10 ^ b.toNat → K (.tuple #[.int .i64 n, .bool ok])
  | _ => none
theorem lnumber_ok {base : World} : RuleOk Tryz.prog base 177 ruleLnumber := ruleOkA fun args T K hT hK => by
  split at hT
  · cases hT
    obtain ⟨⟨h1, h2⟩, hK⟩ := hK
    obtain ⟨v, ⟨r0, r1, rfl, hf⟩, ht⟩ := totA_of (base := base) (envW_ok (rules0_ok base)) (findL_ok rfl (loopsNb_ok rfl rfl base)) rfl (lnumber_hk _ _ _ h1 h2) (fun v ⟨_, _, hv, _⟩ => by subst hv; kernel_rfl) (List.forall_mem_cons.2 ⟨by kernel_rfl, List.forall_mem_cons.2 ⟨by kernel_rfl, List.forall_mem_cons.2 ⟨by kernel_rfl, fun _ h => nomatch h⟩⟩⟩)
    exact ⟨_, hK r0 r1 hf.1 hf.2, ht⟩
  · cases hT
end Go.Proofs.YthmogphlnjpakaaGreatDoor

namespace Go.Proofs.YthmogphlnjpakaaGreatDoor
open Go Go.Pe Go.RowKit
theorem strLen_cutE (a : ByteArray) (l h : Nat) : strLen (strCut a l h) = min (h - l) (strLen a - l) := by
  simp only [strLen, strCut, List.length_take, List.length_drop]
theorem index_lt (s : ByteArray) (c : UInt8) : Lib.indexByte s.data.toList c < (strLen s : Int) := by
  by_cases h : Lib.indexByte s.data.toList c < 0
  · omega
  · obtain ⟨o, ho⟩ := Int.eq_ofNat_of_zero_le (show 0 ≤ Lib.indexByte s.data.toList c by omega)
    have h1 := (Lib.indexByte_some (l := s.data.toList) (c := c) (o := o) ho).1
    have h2 := (List.getElem?_eq_some_iff.1 h1).1
    rw [ho]
    exact Int.ofNat_lt.2 h2
def ruleIdx : Rule := fun args h n => match args with
  | [.string s, .int .u8 _] => some fun K => ∀ i : Int, -1 ≤ i → i < (strLen s : Int) → K (.int .i64 i) h n big
  | _ => none
theorem idx_ok {base : World} : RuleOk Tryz.prog base 274 ruleIdx := by
  intro E hE args h n T K hT hK
  unfold ruleIdx at hT
  split at hT
  · rename_i s c
    cases hT
    exact ruleOk_indexByte (inPlace Tryz.f274 Tryz.func274 (by kernel_rfl) (by kernel_rfl) (by kernel_rfl) (by kernel_rfl)) E hE [.string s, .int .u8 c] h n _ K rfl (hK _ (Lib.indexByte_ge _ _) (index_lt s _))
  · cases hT
def rulesIx : List (Nat × Rule) := (274, ruleIdx) :: rules0
theorem rulesIx_ok (base : World) : ∀ x ∈ rulesIx, RuleOk Tryz.prog base x.1 x.2 := List.forall_mem_cons.2 ⟨idx_ok, rules0_ok base⟩
theorem listEq_len : ∀ a b : List UInt8, listEq a b = true → a.length = b.length := by
  intro a
  induction a with
  | nil => intro b h; cases b with | nil => rfl | cons y b => simp [listEq] at h
  | cons x a ih =>
    intro b h
    cases b with
    | nil => simp [listEq] at h
    | cons y b =>
      unfold listEq at h
      split at h
      · simp [ih b h]
      · cases h
theorem strEq_len {a b : ByteArray} (h : strEq a b = true) : strLen a = strLen b := listEq_len _ _ h
def isCut (s : ByteArray) (u : Value) : Prop := ∃ (a b : ByteArray) (ok : Bool), u = .tuple #[.string a, .string b, .bool ok] ∧ strLen a ≤ strLen s ∧ strLen b ≤ strLen s
theorem scutE_hk_tree (K : Value → Nat → Prop) (s : ByteArray) :
 funcK (envW rulesIx []) 30 147 [.string s, .string ⟨#[69]⟩] [] Tryz.prog.globals.size (fun u _ _ mw => K u mw) =
 (bsel (strEq (ByteArray.mk #[69]) s) (bsel (decide ((0 : Int) ≤ IntKind.wrap .i64 ((0 : Int) + (↑(strLen (ByteArray.mk #[69])) : Int))) && decide (IntKind.wrap .i64 ((0 : Int) + (↑(strLen (ByteArray.mk #[69])) : Int)) ≤ (↑(strLen s) : Int))) (K (.tuple (Array.mk [.string (strCut s 0 0), .string (strCut s 1 (strLen s)), .bool true])) 18446744073709551616) False) (∀ (i : Int), Int.negSucc 0 ≤ i → i < Int.ofNat (strLen s) → bsel (decide (i ≥ (0 : Int))) (bsel (decide ((0 : Int) ≤ i) && decide (i ≤ (↑(strLen s) : Int))) (bsel (decide ((0 : Int) ≤ IntKind.wrap .i64 (i + (↑(strLen (ByteArray.mk #[69])) : Int))) && decide (IntKind.wrap .i64 (i + (↑(strLen (ByteArray.mk #[69])) : Int)) ≤ (↑(strLen s) : Int))) (K (.tuple (Array.mk [.string (strCut s 0 (Int.toNat i)), .string (strCut s (Int.toNat (IntKind.wrap .i64 (i + (↑(strLen (ByteArray.mk #[69])) : Int)))) (strLen s)), .bool true])) 18446744073709551616) False) False) (K (.tuple (Array.mk [.string s, .string (ByteArray.mk #[]), .bool false])) 18446744073709551616))) := by kernel_rfl
theorem scutE_hk (s : ByteArray) (hs : strLen s ≤ 281474976710656) : ReckA (envW rulesIx []) 30 147 [.string s, .string ⟨#[69]⟩] (isCut s) := by
  constructor
  rw [scutE_hk_tree fun u mw => (isCut s) u ∧ Tryz.prog.globals.size ≤ mw]
  have l1 : strLen ⟨#[69]⟩ = 1 := rfl
  have hw : ∀ i : Int, -1 ≤ i → i < strLen s → IntKind.wrap .i64 (i + (strLen ⟨#[69]⟩ : Int)) = i + 1 := fun i h0 h => by
    rw [l1, wrap_i64r (by unfold i64; omega)]
    rfl
  refine bsel_of (fun hb => ?_) (fun hb i h1 h2 => ?_)
  · have hl := strEq_len hb
    rw [hw 0 (by decide) (by omega)]
    exact bsel_of (fun _ => ⟨⟨_, _, _, rfl, by rw [strLen_cutE]; omega, by rw [strLen_cutE]; omega⟩, Nat.le_of_ble_eq_true (by kernel_rfl)⟩) (fun h => absurd h (by simp; omega))
  · have h1 : -1 ≤ i := h1
    have h2 : i < (strLen s : Int) := h2
    rw [hw i h1 h2]
    repeat' (first | exact ⟨⟨_, _, _, rfl, Nat.le_refl _, Nat.zero_le _⟩, Nat.le_of_ble_eq_true (by kernel_rfl)⟩ | exact ⟨⟨_, _, _, rfl, by rw [strLen_cutE]; omega, by rw [strLen_cutE]; omega⟩, Nat.le_of_ble_eq_true (by kernel_rfl)⟩ | refine bsel_of (fun hb => ?_) (fun hb => ?_))
    all_goals (exfalso; simp only [Bool.and_eq_false_iff, Bool.and_eq_true, decide_eq_true_eq, decide_eq_false_iff_not] at *; omega)
theorem scutD_hk_tree (K : Value → Nat → Prop) (s : ByteArray) :
 funcK (envW rulesIx []) 30 147 [.string s, .string ⟨#[46]⟩] [] Tryz.prog.globals.size (fun u _ _ mw => K u mw) =
 (bsel (strEq (ByteArray.mk #[46]) s) (bsel (decide ((0 : Int) ≤ IntKind.wrap .i64 ((0 : Int) + (↑(strLen (ByteArray.mk #[46])) : Int))) && decide (IntKind.wrap .i64 ((0 : Int) + (↑(strLen (ByteArray.mk #[46])) : Int)) ≤ (↑(strLen s) : Int))) (K (.tuple (Array.mk [.string (strCut s 0 0), .string (strCut s 1 (strLen s)), .bool true])) 18446744073709551616) False) (∀ (i : Int), Int.negSucc 0 ≤ i → i < Int.ofNat (strLen s) → bsel (decide (i ≥ (0 : Int))) (bsel (decide ((0 : Int) ≤ i) && decide (i ≤ (↑(strLen s) : Int))) (bsel (decide ((0 : Int) ≤ IntKind.wrap .i64 (i + (↑(strLen (ByteArray.mk #[46])) : Int))) && decide (IntKind.wrap .i64 (i + (↑(strLen (ByteArray.mk #[46])) : Int)) ≤ (↑(strLen s) : Int))) (K (.tuple (Array.mk [.string (strCut s 0 (Int.toNat i)), .string (strCut s (Int.toNat (IntKind.wrap .i64 (i + (↑(strLen (ByteArray.mk #[46])) : Int)))) (strLen s)), .bool true])) 18446744073709551616) False) False) (K (.tuple (Array.mk [.string s, .string (ByteArray.mk #[]), .bool false])) 18446744073709551616))) := by kernel_rfl
theorem scutD_hk (s : ByteArray) (hs : strLen s ≤ 281474976710656) : ReckA (envW rulesIx []) 30 147 [.string s, .string ⟨#[46]⟩] (isCut s) := by
  constructor
  rw [scutD_hk_tree fun u mw => (isCut s) u ∧ Tryz.prog.globals.size ≤ mw]
  have l1 : strLen ⟨#[46]⟩ = 1 := rfl
  have hw : ∀ i : Int, -1 ≤ i → i < strLen s → IntKind.wrap .i64 (i + (strLen ⟨#[46]⟩ : Int)) = i + 1 := fun i h0 h => by
    rw [l1, wrap_i64r (by unfold i64; omega)]
    rfl
  refine bsel_of (fun hb => ?_) (fun hb i h1 h2 => ?_)
  · have hl := strEq_len hb
    rw [hw 0 (by decide) (by omega)]
    exact bsel_of (fun _ => ⟨⟨_, _, _, rfl, by rw [strLen_cutE]; omega, by rw [strLen_cutE]; omega⟩, Nat.le_of_ble_eq_true (by kernel_rfl)⟩) (fun h => absurd h (by simp; omega))
  · have h1 : -1 ≤ i := h1
    have h2 : i < (strLen s : Int) := h2
    rw [hw i h1 h2]
    repeat' (first | exact ⟨⟨_, _, _, rfl, Nat.le_refl _, Nat.zero_le _⟩, Nat.le_of_ble_eq_true (by kernel_rfl)⟩ | exact ⟨⟨_, _, _, rfl, by rw [strLen_cutE]; omega, by rw [strLen_cutE]; omega⟩, Nat.le_of_ble_eq_true (by kernel_rfl)⟩ | refine bsel_of (fun hb => ?_) (fun hb => ?_))
    all_goals (exfalso; simp only [Bool.and_eq_false_iff, Bool.and_eq_true, decide_eq_true_eq, decide_eq_false_iff_not] at *; omega)
theorem scutT_hk_tree (K : Value → Nat → Prop) (s : ByteArray) :
 funcK (envW rulesIx []) 30 147 [.string s, .string ⟨#[84]⟩] [] Tryz.prog.globals.size (fun u _ _ mw => K u mw) =
 (bsel (strEq (ByteArray.mk #[84]) s) (bsel (decide ((0 : Int) ≤ IntKind.wrap .i64 ((0 : Int) + (↑(strLen (ByteArray.mk #[84])) : Int))) && decide (IntKind.wrap .i64 ((0 : Int) + (↑(strLen (ByteArray.mk #[84])) : Int)) ≤ (↑(strLen s) : Int))) (K (.tuple (Array.mk [.string (strCut s 0 0), .string (strCut s 1 (strLen s)), .bool true])) 18446744073709551616) False) (∀ (i : Int), Int.negSucc 0 ≤ i → i < Int.ofNat (strLen s) → bsel (decide (i ≥ (0 : Int))) (bsel (decide ((0 : Int) ≤ i) && decide (i ≤ (↑(strLen s) : Int))) (bsel (decide ((0 : Int) ≤ IntKind.wrap .i64 (i + (↑(strLen (ByteArray.mk #[84])) : Int))) && decide (IntKind.wrap .i64 (i + (↑(strLen (ByteArray.mk #[84])) : Int)) ≤ (↑(strLen s) : Int))) (K (.tuple (Array.mk [.string (strCut s 0 (Int.toNat i)), .string (strCut s (Int.toNat (IntKind.wrap .i64 (i + (↑(strLen (ByteArray.mk #[84])) : Int)))) (strLen s)), .bool true])) 18446744073709551616) False) False) (K (.tuple (Array.mk [.string s, .string (ByteArray.mk #[]), .bool false])) 18446744073709551616))) := by kernel_rfl
theorem scutT_hk (s : ByteArray) (hs : strLen s ≤ 281474976710656) : ReckA (envW rulesIx []) 30 147 [.string s, .string ⟨#[84]⟩] (isCut s) := by
  constructor
  rw [scutT_hk_tree fun u mw => (isCut s) u ∧ Tryz.prog.globals.size ≤ mw]
  have l1 : strLen ⟨#[84]⟩ = 1 := rfl
  have hw : ∀ i : Int, -1 ≤ i → i < strLen s → IntKind.wrap .i64 (i + (strLen ⟨#[84]⟩ : Int)) = i + 1 := fun i h0 h => by
    rw [l1, wrap_i64r (by unfold i64; omega)]
    rfl
  refine bsel_of (fun hb => ?_) (fun hb i h1 h2 => ?_)
  · have hl := strEq_len hb
    rw [hw 0 (by decide) (by omega)]
    exact bsel_of (fun _ => ⟨⟨_, _, _, rfl, by rw [strLen_cutE]; omega, by rw [strLen_cutE]; omega⟩, Nat.le_of_ble_eq_true (by kernel_rfl)⟩) (fun h => absurd h (by simp; omega))
  · have h1 : -1 ≤ i := h1
    have h2 : i < (strLen s : Int) := h2
    rw [hw i h1 h2]
    repeat' (first | exact ⟨⟨_, _, _, rfl, Nat.le_refl _, Nat.zero_le _⟩, Nat.le_of_ble_eq_true (by kernel_rfl)⟩ | exact ⟨⟨_, _, _, rfl, by rw [strLen_cutE]; omega, by rw [strLen_cutE]; omega⟩, Nat.le_of_ble_eq_true (by kernel_rfl)⟩ | refine bsel_of (fun hb => ?_) (fun hb => ?_))
    all_goals (exfalso; simp only [Bool.and_eq_false_iff, Bool.and_eq_true, decide_eq_true_eq, decide_eq_false_iff_not] at *; omega)
def isSub1 (s : ByteArray) (u : Value) : Prop := ∃ t : ByteArray, u = .string t ∧ strLen t ≤ strLen s
theorem tpreM_hk_tree (K : Value → Nat → Prop) (s : ByteArray) :
 funcK (envW rulesIx []) 30 155 [.string s, .string ⟨#[45]⟩] [] Tryz.prog.globals.size (fun u _ _ mw => K u mw) =
 (bsel (decide ((↑(strLen s) : Int) ≥ (↑(strLen (ByteArray.mk #[45])) : Int))) (bsel (decide ((0 : Int) ≤ (↑(strLen (ByteArray.mk #[45])) : Int)) && decide ((↑(strLen (ByteArray.mk #[45])) : Int) ≤ (↑(strLen s) : Int))) (bsel (strEq (strCut s 0 1) (ByteArray.mk #[45])) (bsel (decide ((0 : Int) ≤ (↑(strLen (ByteArray.mk #[45])) : Int)) && decide ((↑(strLen (ByteArray.mk #[45])) : Int) ≤ (↑(strLen s) : Int))) (K (.string (strCut s 1 (strLen s))) 18446744073709551616) False) (K (.string s) 18446744073709551616)) False) (K (.string s) 18446744073709551616)) := by kernel_rfl
theorem tpreM_hk (s : ByteArray)  : ReckA (envW rulesIx []) 30 155 [.string s, .string ⟨#[45]⟩] (isSub1 s) := by
  constructor
  rw [tpreM_hk_tree fun u mw => (isSub1 s) u ∧ Tryz.prog.globals.size ≤ mw]
  have l1 : strLen ⟨#[45]⟩ = 1 := rfl
  rw [l1]
  repeat' (first | exact ⟨⟨_, rfl, Nat.le_refl _⟩, Nat.le_of_ble_eq_true (by kernel_rfl)⟩ | exact ⟨⟨_, rfl, by rw [strLen_cutE]; omega⟩, Nat.le_of_ble_eq_true (by kernel_rfl)⟩ | refine bsel_of (fun hb => ?_) (fun hb => ?_))
  all_goals (exfalso; simp only [Bool.and_eq_false_iff, Bool.and_eq_true, decide_eq_true_eq, decide_eq_false_iff_not] at *; omega)
theorem tpreP_hk_tree (K : Value → Nat → Prop) (s : ByteArray) :
 funcK (envW rulesIx []) 30 155 [.string s, .string ⟨#[43]⟩] [] Tryz.prog.globals.size (fun u _ _ mw => K u mw) =
 (bsel (decide ((↑(strLen s) : Int) ≥ (↑(strLen (ByteArray.mk #[43])) : Int))) (bsel (decide ((0 : Int) ≤ (↑(strLen (ByteArray.mk #[43])) : Int)) && decide ((↑(strLen (ByteArray.mk #[43])) : Int) ≤ (↑(strLen s) : Int))) (bsel (strEq (strCut s 0 1) (ByteArray.mk #[43])) (bsel (decide ((0 : Int) ≤ (↑(strLen (ByteArray.mk #[43])) : Int)) && decide ((↑(strLen (ByteArray.mk #[43])) : Int) ≤ (↑(strLen s) : Int))) (K (.string (strCut s 1 (strLen s))) 18446744073709551616) False) (K (.string s) 18446744073709551616)) False) (K (.string s) 18446744073709551616)) := by kernel_rfl
theorem tpreP_hk (s : ByteArray)  : ReckA (envW rulesIx []) 30 155 [.string s, .string ⟨#[43]⟩] (isSub1 s) := by
  constructor
  rw [tpreP_hk_tree fun u mw => (isSub1 s) u ∧ Tryz.prog.globals.size ≤ mw]
  have l1 : strLen ⟨#[43]⟩ = 1 := rfl
  rw [l1]
  repeat' (first | exact ⟨⟨_, rfl, Nat.le_refl _⟩, Nat.le_of_ble_eq_true (by kernel_rfl)⟩ | exact ⟨⟨_, rfl, by rw [strLen_cutE]; omega⟩, Nat.le_of_ble_eq_true (by kernel_rfl)⟩ | refine bsel_of (fun hb => ?_) (fun hb => ?_))
  all_goals (exfalso; simp only [Bool.and_eq_false_iff, Bool.and_eq_true, decide_eq_true_eq, decide_eq_false_iff_not] at *; omega)
def ruleScut : Rule := ruleA fun args => match args with
  | [.string s, .string z] => some fun K => (strLen s ≤ 281474976710656 ∧ (z = ⟨#[69]⟩ ∨ z = ⟨#[46]⟩ ∨ z = ⟨#[84]⟩)) ∧ ∀ a b ok, strLen a ≤ strLen s → strLen b ≤ strLen s → K (.tuple #[.string a, .string b, .bool ok])
  | _ => none
theorem isCut_pure {s : ByteArray} : ∀ v, isCut s v → pureV 6 v = true := fun v ⟨_, _, _, hv, _⟩ => by subst hv; kernel_rfl
theorem scut_ok {base : World} : RuleOk Tryz.prog base 147 ruleScut := ruleOkA fun args T K hT hK => by
  split at hT
  · rename_i s z
    cases hT
    obtain ⟨⟨hs, hz⟩, hK⟩ := hK
    have key : ∃ v, isCut s v ∧ TotA base 147 [.string s, .string z] v := by
      rcases hz with rfl | rfl | rfl
      · exact totA_of (envW_ok (rulesIx_ok base)) (findL_ok (l := []) rfl fun _ h => nomatch h) rfl (scutE_hk s hs) isCut_pure (List.forall_mem_cons.2 ⟨by kernel_rfl, List.forall_mem_cons.2 ⟨by kernel_rfl, fun _ h => nomatch h⟩⟩)
      · exact totA_of (envW_ok (rulesIx_ok base)) (findL_ok (l := []) rfl fun _ h => nomatch h) rfl (scutD_hk s hs) isCut_pure (List.forall_mem_cons.2 ⟨by kernel_rfl, List.forall_mem_cons.2 ⟨by kernel_rfl, fun _ h => nomatch h⟩⟩)
      · exact totA_of (envW_ok (rulesIx_ok base)) (findL_ok (l := []) rfl fun _ h => nomatch h) rfl (scutT_hk s hs) isCut_pure (List.forall_mem_cons.2 ⟨by kernel_rfl, List.forall_mem_cons.2 ⟨by kernel_rfl, fun _ h => nomatch h⟩⟩)
    obtain ⟨_, ⟨a, b, ok, rfl, h1, h2⟩, ht⟩ := key
    exact ⟨_, hK a b ok h1 h2, ht⟩
  · cases hT
def ruleTpre : Rule := ruleA fun args => match args with
  | [.string s, .string z] => some fun K => (z = ⟨#[45]⟩ ∨ z = ⟨#[43]⟩) ∧ ∀ t, strLen t ≤ strLen s → K (.string t)
  | _ => none
theorem isSub1_pure {s : ByteArray} : ∀ v, isSub1 s v → pureV 6 v = true := fun v ⟨_, hv, _⟩ => by subst hv; kernel_rfl
theorem tpre_ok {base : World} : RuleOk Tryz.prog base 155 ruleTpre := ruleOkA fun args T K hT hK => by
  split at hT
  · rename_i s z
    cases hT
    obtain ⟨hz, hK⟩ := hK
    have key : ∃ v, isSub1 s v ∧ TotA base 155 [.string s, .string z] v := by
      rcases hz with rfl | rfl
      · exact totA_of (envW_ok (rulesIx_ok base)) (findL_ok (l := []) rfl fun _ h => nomatch h) rfl (tpreM_hk s) isSub1_pure (List.forall_mem_cons.2 ⟨by kernel_rfl, List.forall_mem_cons.2 ⟨by kernel_rfl, fun _ h => nomatch h⟩⟩)
      · exact totA_of (envW_ok (rulesIx_ok base)) (findL_ok (l := []) rfl fun _ h => nomatch h) rfl (tpreP_hk s) isSub1_pure (List.forall_mem_cons.2 ⟨by kernel_rfl, List.forall_mem_cons.2 ⟨by kernel_rfl, fun _ h => nomatch h⟩⟩)
    obtain ⟨_, ⟨t, rfl, h1⟩, ht⟩ := key
    exact ⟨_, hK t h1, ht⟩
  · cases hT
def rulesSt : List (Nat × Rule) := (147, ruleScut) :: (155, ruleTpre) :: (213, ruleTriml) :: (214, ruleTrimb) :: (245, ruleNdigits) :: (215, ruleWread) :: (177, ruleLnumber) :: (216, ruleFitx) :: rulesIx
theorem rulesSt_ok (base : World) : ∀ x ∈ rulesSt, RuleOk Tryz.prog base x.1 x.2 := List.forall_mem_cons.2 ⟨scut_ok, List.forall_mem_cons.2 ⟨tpre_ok, List.forall_mem_cons.2 ⟨triml_ok, List.forall_mem_cons.2 ⟨trimb_ok, List.forall_mem_cons.2 ⟨ndigits_ok, List.forall_mem_cons.2 ⟨wread_ok, List.forall_mem_cons.2 ⟨lnumber_ok, List.forall_mem_cons.2 ⟨fitx_ok, rulesIx_ok base⟩⟩⟩⟩⟩⟩⟩⟩
end Go.Proofs.YthmogphlnjpakaaGreatDoor

namespace Go.Proofs.YthmogphlnjpakaaGreatDoor
open Go Go.Pe Go.RowKit
theorem strEq_nil (b : ByteArray) : strEq b ⟨#[]⟩ = decide (strLen b = 0) := by
  show listEq b.data.toList [] = decide (b.data.toList.length = 0)
  cases b.data.toList with
  | nil => rfl
  | cons x l => rfl
def isNshape (s : ByteArray) (u : Value) : Prop := ∃ (b : Bool), u = .bool b ∧ (True)
theorem nshape_hk_tree (K : Value → Nat → Prop) (s : ByteArray) :
 funcK (envW rulesSt []) 30 211 [.string s] [] Tryz.prog.globals.size (fun u _ _ mw => K u mw) =
 ((strLen s ≤ 281474976710656 ∧ (ByteArray.mk #[69] = ByteArray.mk #[69] ∨ ByteArray.mk #[69] = ByteArray.mk #[46] ∨ ByteArray.mk #[69] = ByteArray.mk #[84])) ∧ ∀ (a b : ByteArray) (ok : Bool), strLen a ≤ strLen s → strLen b ≤ strLen s → bsel ok (bsel (!strEq b (ByteArray.mk #[])) (bsel (decide ((0 : Int) ≤ (0 : Int)) && decide ((0 : Int) < (↑(strLen b) : Int))) (bsel ((↑(UInt8.toNat (byteAt (Array.toList (ByteArray.data b)) (Int.toNat (0 : Int)))) : Int) == (45 : Int)) (bsel (decide ((0 : Int) ≤ (1 : Int)) && decide ((1 : Int) ≤ (↑(strLen b) : Int))) (True ∧ ∀ (b_1 : Bool), bsel b_1 (bsel (decide ((↑(strLen (strCut b (Int.toNat (1 : Int)) (strLen b))) : Int) > (6 : Int))) (K (.bool false) 18446744073709551616) ((strLen a ≤ 281474976710656 ∧ (ByteArray.mk #[46] = ByteArray.mk #[69] ∨ ByteArray.mk #[46] = ByteArray.mk #[46] ∨ ByteArray.mk #[46] = ByteArray.mk #[84])) ∧ ∀ (a_3 b : ByteArray) (ok : Bool), strLen a_3 ≤ strLen a → strLen b ≤ strLen a → bsel ok (True ∧ ∀ (b : Bool), bsel b (bsel (strEq a_3 (ByteArray.mk #[])) (K (.bool true) 18446744073709551616) (True ∧ ∀ (b : Bool), bsel b (K (.bool true) 18446744073709551616) (K (.bool false) 18446744073709551616))) (K (.bool false) 18446744073709551616)) (True ∧ ∀ (b : Bool), bsel b (K (.bool true) 18446744073709551616) (K (.bool false) 18446744073709551616)))) (K (.bool false) 18446744073709551616)) False) (bsel (decide ((0 : Int) ≤ (0 : Int)) && decide ((0 : Int) < (↑(strLen b) : Int))) (bsel ((↑(UInt8.toNat (byteAt (Array.toList (ByteArray.data b)) (Int.toNat (0 : Int)))) : Int) == (43 : Int)) (bsel (decide ((0 : Int) ≤ (1 : Int)) && decide ((1 : Int) ≤ (↑(strLen b) : Int))) (True ∧ ∀ (b_1 : Bool), bsel b_1 (bsel (decide ((↑(strLen (strCut b (Int.toNat (1 : Int)) (strLen b))) : Int) > (6 : Int))) (K (.bool false) 18446744073709551616) ((strLen a ≤ 281474976710656 ∧ (ByteArray.mk #[46] = ByteArray.mk #[69] ∨ ByteArray.mk #[46] = ByteArray.mk #[46] ∨ ByteArray.mk #[46] = ByteArray.mk #[84])) ∧ ∀ (a_3 b : ByteArray) (ok : Bool), strLen a_3 ≤ strLen a → strLen b ≤ strLen a → bsel ok (True ∧ ∀ (b : Bool), bsel b (bsel (strEq a_3 (ByteArray.mk #[])) (K (.bool true) 18446744073709551616) (True ∧ ∀ (b : Bool), bsel b (K (.bool true) 18446744073709551616) (K (.bool false) 18446744073709551616))) (K (.bool false) 18446744073709551616)) (True ∧ ∀ (b : Bool), bsel b (K (.bool true) 18446744073709551616) (K (.bool false) 18446744073709551616)))) (K (.bool false) 18446744073709551616)) False) (True ∧ ∀ (b_1 : Bool), bsel b_1 (bsel (decide ((↑(strLen b) : Int) > (6 : Int))) (K (.bool false) 18446744073709551616) ((strLen a ≤ 281474976710656 ∧ (ByteArray.mk #[46] = ByteArray.mk #[69] ∨ ByteArray.mk #[46] = ByteArray.mk #[46] ∨ ByteArray.mk #[46] = ByteArray.mk #[84])) ∧ ∀ (a_3 b : ByteArray) (ok : Bool), strLen a_3 ≤ strLen a → strLen b ≤ strLen a → bsel ok (True ∧ ∀ (b : Bool), bsel b (bsel (strEq a_3 (ByteArray.mk #[])) (K (.bool true) 18446744073709551616) (True ∧ ∀ (b : Bool), bsel b (K (.bool true) 18446744073709551616) (K (.bool false) 18446744073709551616))) (K (.bool false) 18446744073709551616)) (True ∧ ∀ (b : Bool), bsel b (K (.bool true) 18446744073709551616) (K (.bool false) 18446744073709551616)))) (K (.bool false) 18446744073709551616))) False)) False) (True ∧ ∀ (b_1 : Bool), bsel b_1 (bsel (decide ((↑(strLen b) : Int) > (6 : Int))) (K (.bool false) 18446744073709551616) ((strLen a ≤ 281474976710656 ∧ (ByteArray.mk #[46] = ByteArray.mk #[69] ∨ ByteArray.mk #[46] = ByteArray.mk #[46] ∨ ByteArray.mk #[46] = ByteArray.mk #[84])) ∧ ∀ (a_3 b : ByteArray) (ok : Bool), strLen a_3 ≤ strLen a → strLen b ≤ strLen a → bsel ok (True ∧ ∀ (b : Bool), bsel b (bsel (strEq a_3 (ByteArray.mk #[])) (K (.bool true) 18446744073709551616) (True ∧ ∀ (b : Bool), bsel b (K (.bool true) 18446744073709551616) (K (.bool false) 18446744073709551616))) (K (.bool false) 18446744073709551616)) (True ∧ ∀ (b : Bool), bsel b (K (.bool true) 18446744073709551616) (K (.bool false) 18446744073709551616)))) (K (.bool false) 18446744073709551616))) ((strLen a ≤ 281474976710656 ∧ (ByteArray.mk #[46] = ByteArray.mk #[69] ∨ ByteArray.mk #[46] = ByteArray.mk #[46] ∨ ByteArray.mk #[46] = ByteArray.mk #[84])) ∧ ∀ (a_3 b : ByteArray) (ok : Bool), strLen a_3 ≤ strLen a → strLen b ≤ strLen a → bsel ok (True ∧ ∀ (b : Bool), bsel b (bsel (strEq a_3 (ByteArray.mk #[])) (K (.bool true) 18446744073709551616) (True ∧ ∀ (b : Bool), bsel b (K (.bool true) 18446744073709551616) (K (.bool false) 18446744073709551616))) (K (.bool false) 18446744073709551616)) (True ∧ ∀ (b : Bool), bsel b (K (.bool true) 18446744073709551616) (K (.bool false) 18446744073709551616)))) := by kernel_rfl
theorem nshape_hk (s : ByteArray) (hs : strLen s ≤ 140737488355328) : ReckA (envW rulesSt []) 30 211 [.string s] (isNshape s) := by
  constructor
  rw [nshape_hk_tree fun u mw => (isNshape s) u ∧ Tryz.prog.globals.size ≤ mw]
  repeat' (first | exact ⟨⟨_, rfl, trivial⟩, Nat.le_of_ble_eq_true (by kernel_rfl)⟩ | refine bsel_of (fun _ => ?_) (fun _ => ?_) | refine And.intro (by (first | exact True.intro | (refine And.intro (by omega) ?_; first | exact .inl rfl | exact .inr (.inl rfl) | exact .inr (.inr rfl)) | exact .inl rfl | exact .inr rfl | exact .inr (.inr rfl))) ?_ | intro _)
  all_goals (exfalso; simp only [strEq_nil, strLen_cutE, Bool.and_eq_false_iff, Bool.and_eq_true, Bool.not_eq_true', Bool.not_eq_false', decide_eq_true_eq, decide_eq_false_iff_not] at *; omega)
def ruleNshape : Rule := ruleA fun args => match args with
  | [.string s] => some fun K => (strLen s ≤ 140737488355328) ∧ ∀ (b : Bool), K (.bool b)
  | _ => none
theorem nshape_ok {base : World} : RuleOk Tryz.prog base 211 ruleNshape := ruleOkA fun args T K hT hK => by
  split at hT
  · cases hT
    obtain ⟨hs, hK⟩ := hK
    obtain ⟨v, ⟨r0, rfl, hf⟩, ht⟩ := totA_of (base := base) (envW_ok (rulesSt_ok base)) (findL_ok (l := []) rfl fun _ h => nomatch h) rfl (nshape_hk _ hs) (fun v ⟨_, hv, _⟩ => by subst hv; kernel_rfl) (List.forall_mem_cons.2 ⟨by kernel_rfl, fun _ h => nomatch h⟩)
    exact ⟨_, hK r0, ht⟩
  · cases hT
end Go.Proofs.YthmogphlnjpakaaGreatDoor

namespace Go.Proofs.YthmogphlnjpakaaGreatDoor
open Go Go.Pe Go.RowKit
theorem funcSem_ptr {E : Env} {base : World} (hE : EnvOk E base) {f : FuncId} {fn : Func} (hf : E.P.funcs[f]? = some fn) (hb : fn.body.isSome = true) {args : List Value} (ha : ∀ x ∈ args, pureV 6 x = true) {x : Int} {t : TypeId} {h : Heap} {n : Nat}
    (H : ∀ w : World, Below base.heap.size base w → Calls E.P f args.toArray w fun ev w' => ∃ N, ev = .returned (.tuple #[.int .i64 x, .iface t (.pointer (some ⟨N, 0, none⟩))]) ∧ w.heap.size ≤ N ∧ Below w.heap.size w w') :
    FuncSem E base f args h n (.tuple #[.int .i64 x, .iface t (.pointer (some ⟨n, 0, none⟩))]) h (n + 1) big := by
  have hren : ∀ μ κ : Nat → Nat, renV μ κ (.tuple #[.int .i64 x, .iface t (.pointer (some ⟨n, 0, none⟩))]) = .tuple #[.int .i64 x, .iface t (.pointer (some ⟨μ n, 0, none⟩))] := fun μ κ => by
    simp [renV, renAd]
  refine ⟨⟨by omega, fun D hD hG hx hh => ⟨fun μ κ μ' κ' hd => ?_, hh.mono Dp_mono⟩⟩, fun μ κ w hr hh hx hg => ?_⟩
  · rw [hren, hren, (hd n (.inr ⟨by omega, by omega⟩)).1]
  have hargs : args.map (renV μ κ) = args := by
    have : args.map (renV μ κ) = args.map id := List.map_congr_left fun x hx => ren_pure _ _ 6 x (ha x hx)
    simpa using this
  rw [hargs, hE.enter f fn hf hb]
  refine ⟨rfl, (H w hr.below).mono fun ev w' ⟨N, he, hN, hw⟩ => ⟨_, he, upd μ n N, upd κ n 0, ?_, ?_, ?_⟩⟩
  · refine ⟨by omega, fun k hk => ?_, hw.size, fun b hb _ => hw.block b hb, fun k h1 h2 => .inl ?_⟩
    · have : k ≠ n := by omega
      simp [upd, this]
    · have : k = n := by omega
      subst this
      simpa [upd] using hN
  · rw [hren, upd_same]
  · have hg' := hr.grow hw
    refine ⟨hg'.below, fun k b hk => ?_, fun i j a b hi hj hij => ?_, fun g hgl => ?_, hg'.gsz⟩
    · obtain ⟨h1, h2⟩ := hh k b hk
      have hne : k ≠ n := by omega
      refine (hg'.blk k b hk).same (upd_other _ _ hne) (upd_other _ _ hne) (fun v hv => h2 v hv _ _ _ _ fun j hj => ?_) rfl
      have hj' : j ≠ n := by omega
      exact ⟨upd_other _ _ hj', upd_other _ _ hj'⟩
    · have h1 := (hh i a hi).1
      have h2 := (hh j b hj).1
      rw [upd_other _ _ (by omega), upd_other _ _ (by omega)] at hij
      exact hg'.inj i j a b hi hj hij
    · rw [upd_other _ _ (by omega)]
      exact hg'.glob g hgl
end Go.Proofs.YthmogphlnjpakaaGreatDoor
