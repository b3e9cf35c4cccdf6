/-
  Whole numbers as values; what a law asks of simple values: a whole number, a text, the same.
  The moment that a law makes; the days of the week.
  Days of the week, days of the year, weeks: whatever they are, they are numbers.
  A length of time as a text, of less than a day; texts that are values.
  Days, times, moments and lengths of time, each told plainly as a text.
  Temporal values are told plainly.
  Days and moments that are reckoned: whatever they are, they may be, or there is none.
-/
import Derived.Test.YthmogphlnjpakaaGreatDoorEc1
import Derived.Test.YthmogphlnjpakaaGreatDoorPeT1
import Derived.Test.YthmogphlnjpakaaGreatDoorSh
import Derived.Lib.ItoaLen
import Derived.Lib.AppendIntMem

namespace Go.Proofs.YthmogphlnjpakaaGreatDoor
open Go Go.Pe Go.RowKit
theorem wrap_u64 (x : Int) : IntKind.wrap .u64 x = x % 18446744073709551616 := by simp [IntKind.wrap, IntKind.bits, IntKind.signed]
def ruleDecInt : Rule := rule1 fun args => match args with
  | [.int .i64 x] => some fun K => rng x ∧ K (decC (decide (x < 0)) 0 (x.natAbs : Int) 0)
  | _ => none
def ruleInt : Rule := rule1 fun args => match args with
  | [.int .i64 x] => some fun K => rng x ∧ K (intV x)
  | _ => none
def rules3 : List (Nat × Rule) := (110, ruleDecInt) :: rules2
def rules4 : List (Nat × Rule) := (48, ruleInt) :: rules3
theorem decInt_tree (K : Value → Nat → Prop) (x : Int) :
 funcK (env rules2) 30 110 [.int .i64 x] tabs Tryz.prog.globals.size (fun u _ _ mw => K u mw) =
 (bsel (decide (x < (0 : Int)))
 (bsel (decide (x < (0 : Int)))
 (K
 (Value.agg
 (Array.mk
 [.bool true, .int .u64 (Int.ofNat (0 : Nat)), .int .u64 (IntKind.wrap .u64 ((0 : Int) - IntKind.wrap .u64 x)),
 Value.int .i64 (Int.ofNat (0 : Nat))]))
 (10 : Nat))
 (K
 (Value.agg
 (Array.mk
 [.bool false, .int .u64 (Int.ofNat (0 : Nat)), .int .u64 (IntKind.wrap .u64 ((0 : Int) - IntKind.wrap .u64 x)),
 Value.int .i64 (Int.ofNat (0 : Nat))]))
 (10 : Nat)))
 (bsel (decide (x < (0 : Int)))
 (K
 (Value.agg
 (Array.mk
 [.bool true, .int .u64 (Int.ofNat (0 : Nat)), .int .u64 (IntKind.wrap .u64 x),
 Value.int .i64 (Int.ofNat (0 : Nat))]))
 (10 : Nat))
 (K
 (Value.agg
 (Array.mk
 [.bool false, .int .u64 (Int.ofNat (0 : Nat)), .int .u64 (IntKind.wrap .u64 x),
 Value.int .i64 (Int.ofNat (0 : Nat))]))
 (10 : Nat)))) := by kernel_rfl
theorem int_tree (K : Value → Nat → Prop) (x : Int) :
 funcK (env rules3) 30 48 [.int .i64 x] tabs Tryz.prog.globals.size (fun u _ _ mw => K u mw) =
 (rng x ∧
 bsel (decide (x < (0 : Int)))
 (bsel ((↑(Int.natAbs x) : Int) == (0 : Int)) (K (.agg (Array.mk [.nilIface])) (10 : Nat))
 (K
 (Value.agg
 (Array.mk
 [.iface (176 : Nat)
 (Value.agg
 (Array.mk
 [.bool (decide (x < (0 : Int))), .int .u64 (Int.ofNat (0 : Nat)), .int .u64 (Int.ofNat (Int.natAbs x)),
 Value.int .i64 (Int.ofNat (0 : Nat))]))]))
 (10 : Nat)))
 (K
 (Value.agg
 (Array.mk
 [.iface (176 : Nat)
 (Value.agg
 (Array.mk
 [.bool (decide (x < (0 : Int))), .int .u64 (Int.ofNat (0 : Nat)), .int .u64 (Int.ofNat (Int.natAbs x)),
 Value.int .i64 (Int.ofNat (0 : Nat))]))]))
 (10 : Nat))) := by kernel_rfl
theorem decInt_hk {x : Int} (h : rng x) : Reck rules2 30 110 [.int .i64 x] tabs (decC (decide (x < 0)) 0 (x.natAbs : Int) 0) := by
  constructor
  rw [decInt_tree fun u mw => u = decC (decide (x < 0)) 0 (x.natAbs : Int) 0 ∧ Tryz.prog.globals.size ≤ mw]
  unfold rng at h
  refine bsel_of (fun h1 => bsel_of (fun h2 => ?_) (fun h2 => ?_)) (fun h1 => bsel_of (fun h2 => ?_) (fun h2 => ?_))
  · refine ⟨?_, Nat.le_of_ble_eq_true (by kernel_rfl)⟩
    rw [h1]
    simp only [decide_eq_true_eq] at h1
    have e : IntKind.wrap .u64 (0 - IntKind.wrap .u64 x) = (x.natAbs : Int) := by simp only [wrap_u64]; omega
    rw [e]
    rfl
  · rw [h1] at h2; cases h2
  · rw [h1] at h2; cases h2
  · refine ⟨?_, Nat.le_of_ble_eq_true (by kernel_rfl)⟩
    rw [h1]
    simp only [decide_eq_false_iff_not] at h1
    have e : IntKind.wrap .u64 x = (x.natAbs : Int) := by simp only [wrap_u64]; omega
    rw [e]
    rfl
theorem int_hk {x : Int} (h : rng x) : Reck rules3 30 48 [.int .i64 x] tabs (intV x) := by
  constructor
  rw [int_tree fun u mw => u = intV x ∧ Tryz.prog.globals.size ≤ mw]
  refine ⟨h, bsel_of (fun h1 => bsel_of (fun h2 => ?_) (fun h2 => ?_)) (fun h1 => ?_)⟩
  · simp at h1 h2
    omega
  · exact ⟨rfl, Nat.le_of_ble_eq_true (by kernel_rfl)⟩
  · exact ⟨rfl, Nat.le_of_ble_eq_true (by kernel_rfl)⟩
theorem decInt_ok (base : World) : RuleOk Tryz.prog base 110 ruleDecInt := ruleOk_of fun args T K hT hK => by
  split at hT
  · cases hT
    exact ⟨_, hK.2, tot_reck (rules2_ok base) (decInt_hk hK.1) (by kernel_rfl) (pure1 (by kernel_rfl))⟩
  · cases hT
theorem rules3_ok (base : World) : ∀ x ∈ rules3, RuleOk Tryz.prog base x.1 x.2 := List.forall_mem_cons.2 ⟨decInt_ok base, rules2_ok base⟩
theorem int_ok (base : World) : RuleOk Tryz.prog base 48 ruleInt := ruleOk_of fun args T K hT hK => by
  split at hT
  · cases hT
    exact ⟨_, hK.2, tot_reck (rules3_ok base) (int_hk hK.1) (by kernel_rfl) (pure1 (by kernel_rfl))⟩
  · cases hT
theorem rules4_ok (base : World) : ∀ x ∈ rules4, RuleOk Tryz.prog base x.1 x.2 := List.forall_mem_cons.2 ⟨int_ok base, rules3_ok base⟩
end Go.Proofs.YthmogphlnjpakaaGreatDoor

namespace Go.Proofs.YthmogphlnjpakaaGreatDoor
open Go Go.Pe Go.RowKit
theorem tmodB (x k : Int) (hk : 0 < k) : -k < Int.tmod x k ∧ Int.tmod x k < k ∧ (0 ≤ x → 0 ≤ Int.tmod x k) :=
  ⟨by have := Int.lt_tmod_of_pos x hk; omega, Int.tmod_lt_of_pos x hk, fun h => Int.tmod_nonneg k h⟩
end Go.Proofs.YthmogphlnjpakaaGreatDoor

namespace Go.Proofs.YthmogphlnjpakaaGreatDoor
open Go Go.Pe Go.RowKit
noncomputable def envN (k : Nat) (rules : List (Nat × Rule)) : Env :=
  { P := Tryz.prog, isBool := bools, oracle := findR rules, eqAgg := fun _ _ _ => none, loops := k, loopP := fun _ _ => none, guess := fun _ _ => none, strF := strAt }
theorem envN_ok {k : Nat} {rules : List (Nat × Rule)} {base : World} (hr : ∀ x ∈ rules, RuleOk Tryz.prog base x.1 x.2) : EnvOk (envN k rules) base :=
  envOk_of (E := envN k rules) rfl rfl mixed_ok plain_ok hr fun _ _ _ _ h => by cases h
theorem envN_loops {k : Nat} {rules : List (Nat × Rule)} {base : World} : LoopsOk (envN k rules) base := fun _ _ _ _ _ _ h => by cases h
structure ReckE (E : Env) (d : Nat) (f : FuncId) (args : List Value) (S : Value → Prop) : Prop where
  out : funcK E d f args tabs Tryz.prog.globals.size (fun u _ _ mw => S u ∧ Tryz.prog.globals.size ≤ mw)
theorem tot_ofE {E : Env} {base : World} (hE : EnvOk E base) (hL : LoopsOk E base) (hP : E.P = Tryz.prog) {d : Nat} {f : FuncId} {args : List Value} {S : Value → Prop} (hk : ReckE E d f args S)
    (hp : ∀ v, S v → pureV 6 v = true) (ha : ∀ x ∈ args, pureV 6 x = true) : ∃ v, S v ∧ Tot base f args v := by
  obtain ⟨u, h', n', mw, ⟨hS, hmw⟩, hs⟩ := funcK_sound hE hL d f args tabs Tryz.prog.globals.size _ hk.out
  exact ⟨u, hS, fun E' hE' h ht n => (hs.anywhere hmw (hp u hS) ha tabs_ok (by rw [hP]; exact Nat.le_refl _) (hasTab_sub ht) n).env (hE'.trans hP.symm)⟩
theorem lenF_le (y m : Int) : lenF y m ≤ 31 := by
  unfold lenF
  split
  · split <;> omega
  · split <;> omega
theorem dateOk_len {y m d : Int} (h : dateOk y m d) : d ≤ 31 := by
  have := lenF_le y m
  have := h.2.2.2.2.2
  omega
end Go.Proofs.YthmogphlnjpakaaGreatDoor

namespace Go.Proofs.YthmogphlnjpakaaGreatDoor
open Go Go.Pe Go.RowKit
def isShort (k : Nat) (u : Value) : Prop := ∃ s, u = .string s ∧ strLen s ≤ k
theorem isShort_pure {k : Nat} : ∀ v, isShort k v → pureV 6 v = true := by
  rintro v ⟨_, rfl, _⟩
  kernel_rfl
theorem strLen_cat (a b : ByteArray) : strLen (strCat a b) = strLen a + strLen b := by simp [strLen, strCat]
end Go.Proofs.YthmogphlnjpakaaGreatDoor

namespace Go.Proofs.YthmogphlnjpakaaGreatDoor
open Go Go.Pe Go.RowKit
def ruleItoa : Rule := rule1 fun args => match args with
  | [.int .i64 n] => some fun K => rng n ∧ (∀ a, K (.string ⟨⟨[a]⟩⟩)) ∧ (∀ a b, K (.string ⟨⟨[a, b]⟩⟩)) ∧ (∀ a b c, K (.string ⟨⟨[a, b, c]⟩⟩)) ∧ ∀ (a b c d : UInt8) (l : List UInt8), l.length ≤ 18 → K (.string ⟨⟨a :: b :: c :: d :: l⟩⟩)
  | _ => none
def rulePadded : Rule := rule1 fun args => match args with
  | [.int .i64 n, .int .i64 w] => some fun K => rng n ∧ (w = 2 ∨ w = 4) ∧ ∀ s, strLen s ≤ 24 → K (.string s)
  | _ => none
def rulePiece : Rule := rule1 fun args => match args with
  | [.int .i64 n, .string l] => some fun K => rng n ∧ strLen l ≤ 1 ∧ ∀ s, strLen s ≤ 24 → K (.string s)
  | _ => none
def rulesT1 : List (Nat × Rule) := (143, ruleItoa) :: rules4
def rulesT2 : List (Nat × Rule) := (229, rulePadded) :: (233, rulePiece) :: rules4
theorem padded2_tree (K : Value → Nat → Prop) (n : Int) :
 funcK (envN 5 rulesT1) 30 229 [.int .i64 n, .int .i64 2] tabs Tryz.prog.globals.size (fun u _ _ mw => K u mw) =
 (rng n ∧
 (∀ (a : UInt8), K (.string (strCat (ByteArray.mk #[48]) (ByteArray.mk (Array.mk [a])))) big) ∧
 (∀ (a b : UInt8), K (.string (ByteArray.mk (Array.mk [a, b]))) big) ∧
 (∀ (a b c : UInt8), K (.string (ByteArray.mk (Array.mk [a, b, c]))) big) ∧
 ∀ (a b c d : UInt8) (l : List UInt8), List.length l ≤ (18 : Nat) → K (.string (ByteArray.mk (Array.mk (a :: b :: c :: d :: l)))) big) := by kernel_rfl
theorem padded4_tree (K : Value → Nat → Prop) (n : Int) :
 funcK (envN 5 rulesT1) 30 229 [.int .i64 n, .int .i64 4] tabs Tryz.prog.globals.size (fun u _ _ mw => K u mw) =
 (rng n ∧
 (∀ (a : UInt8),
 K (.string (strCat (ByteArray.mk #[48]) (strCat (ByteArray.mk #[48]) (strCat (ByteArray.mk #[48]) (ByteArray.mk (Array.mk [a]))))))
 big) ∧
 (∀ (a b : UInt8), K (.string (strCat (ByteArray.mk #[48]) (strCat (ByteArray.mk #[48]) (ByteArray.mk (Array.mk [a, b]))))) big) ∧
 (∀ (a b c : UInt8), K (.string (strCat (ByteArray.mk #[48]) (ByteArray.mk (Array.mk [a, b, c])))) big) ∧
 ∀ (a b c d : UInt8) (l : List UInt8), List.length l ≤ (18 : Nat) → K (.string (ByteArray.mk (Array.mk (a :: b :: c :: d :: l)))) big) := by kernel_rfl
theorem gpiece_tree (K : Value → Nat → Prop) (n : Int) (l : ByteArray) :
 funcK (env rulesT1) 30 233 [.int .i64 n, .string l] tabs Tryz.prog.globals.size (fun u _ _ mw => K u mw) =
 (bsel (n == (0 : Int)) (K (.string (ByteArray.mk #[])) big)
 (rng n ∧
 (∀ (a : UInt8),
 bsel (Nat.ble ((1 : Nat) + strLen l) (9223372036854775807 : Nat)) (K (.string (strCat (ByteArray.mk (Array.mk [a])) l)) big) False) ∧
 (∀ (a b : UInt8),
 bsel (Nat.ble ((2 : Nat) + strLen l) (9223372036854775807 : Nat)) (K (.string (strCat (ByteArray.mk (Array.mk [a, b])) l)) big) False) ∧
 (∀ (a b c : UInt8),
 bsel (Nat.ble ((3 : Nat) + strLen l) (9223372036854775807 : Nat)) (K (.string (strCat (ByteArray.mk (Array.mk [a, b, c])) l)) big)
 False) ∧
 ∀ (a b c d : UInt8) (l_1 : List UInt8),
 List.length l_1 ≤ (18 : Nat) →
 bsel (Nat.ble (strLen (ByteArray.mk (Array.mk (a :: b :: c :: d :: l_1))) + strLen l) (9223372036854775807 : Nat))
 (K (.string (strCat (ByteArray.mk (Array.mk (a :: b :: c :: d :: l_1))) l)) big) False)) := by kernel_rfl
theorem ldate_tree (K : Value → Nat → Prop) (y m d : Int) :
 funcK (env rulesT2) 30 178 [dateC y m d] tabs Tryz.prog.globals.size (fun u _ _ mw => K u mw) =
 (dateOk y m d ∧
 bsel (decide (y < (0 : Int)))
 (rng (IntKind.wrap .i64 ((0 : Int) - y)) ∧
 (Int.ofNat (4 : Nat) = Int.ofNat (2 : Nat) ∨ Int.ofNat (4 : Nat) = Int.ofNat (4 : Nat)) ∧
 ∀ (s : ByteArray),
 strLen s ≤ (24 : Nat) →
 bsel (Nat.ble ((1 : Nat) + strLen s) (9223372036854775807 : Nat))
 (bsel (Nat.ble (strLen (strCat (ByteArray.mk #[45]) s) + (1 : Nat)) (9223372036854775807 : Nat))
 (rng m ∧
 (Int.ofNat (2 : Nat) = Int.ofNat (2 : Nat) ∨ Int.ofNat (2 : Nat) = Int.ofNat (4 : Nat)) ∧
 ∀ (s_1 : ByteArray),
 strLen s_1 ≤ (24 : Nat) →
 bsel (Nat.ble (strLen (strCat (strCat (ByteArray.mk #[45]) s) (ByteArray.mk #[45])) + strLen s_1) (9223372036854775807 : Nat))
 (bsel
 (Nat.ble (strLen (strCat (strCat (strCat (ByteArray.mk #[45]) s) (ByteArray.mk #[45])) s_1) + (1 : Nat))
 (9223372036854775807 : Nat))
 (rng d ∧
 (Int.ofNat (2 : Nat) = Int.ofNat (2 : Nat) ∨ Int.ofNat (2 : Nat) = Int.ofNat (4 : Nat)) ∧
 ∀ (s_2 : ByteArray),
 strLen s_2 ≤ (24 : Nat) →
 bsel
 (Nat.ble
 (strLen
 (strCat (strCat (strCat (strCat (ByteArray.mk #[45]) s) (ByteArray.mk #[45])) s_1)
 (ByteArray.mk #[45])) +
 strLen s_2)
 (9223372036854775807 : Nat))
 (K
 (Value.string
 (strCat
 (strCat (strCat (strCat (strCat (ByteArray.mk #[45]) s) (ByteArray.mk #[45])) s_1)
 (ByteArray.mk #[45]))
 s_2))
 big)
 False)
 False)
 False)
 False)
 False)
 (rng y ∧
 (Int.ofNat (4 : Nat) = Int.ofNat (2 : Nat) ∨ Int.ofNat (4 : Nat) = Int.ofNat (4 : Nat)) ∧
 ∀ (s : ByteArray),
 strLen s ≤ (24 : Nat) →
 bsel (Nat.ble ((0 : Nat) + strLen s) (9223372036854775807 : Nat))
 (bsel (Nat.ble (strLen (strCat (ByteArray.mk #[]) s) + (1 : Nat)) (9223372036854775807 : Nat))
 (rng m ∧
 (Int.ofNat (2 : Nat) = Int.ofNat (2 : Nat) ∨ Int.ofNat (2 : Nat) = Int.ofNat (4 : Nat)) ∧
 ∀ (s_1 : ByteArray),
 strLen s_1 ≤ (24 : Nat) →
 bsel (Nat.ble (strLen (strCat (strCat (ByteArray.mk #[]) s) (ByteArray.mk #[45])) + strLen s_1) (9223372036854775807 : Nat))
 (bsel
 (Nat.ble (strLen (strCat (strCat (strCat (ByteArray.mk #[]) s) (ByteArray.mk #[45])) s_1) + (1 : Nat)) (9223372036854775807 : Nat))
 (rng d ∧
 (Int.ofNat (2 : Nat) = Int.ofNat (2 : Nat) ∨ Int.ofNat (2 : Nat) = Int.ofNat (4 : Nat)) ∧
 ∀ (s_2 : ByteArray),
 strLen s_2 ≤ (24 : Nat) →
 bsel
 (Nat.ble
 (strLen
 (strCat (strCat (strCat (strCat (ByteArray.mk #[]) s) (ByteArray.mk #[45])) s_1) (ByteArray.mk #[45])) +
 strLen s_2)
 (9223372036854775807 : Nat))
 (K
 (Value.string
 (strCat
 (strCat (strCat (strCat (strCat (ByteArray.mk #[]) s) (ByteArray.mk #[45])) s_1) (ByteArray.mk #[45])) s_2))
 big)
 False)
 False)
 False)
 False)
 False)) := by kernel_rfl
theorem ltime_tree1 (K : Value → Nat → Prop) (s o : Int) :
 funcK (env rulesT2) 30 183 [timeC s true o] tabs Tryz.prog.globals.size (fun u _ _ mw => K u mw) =
 (timeOk s true o ∧
 rng (IntKind.wrap .i64 (Int.tdiv s (3600 : Int))) ∧
 (Int.ofNat (2 : Nat) = Int.ofNat (2 : Nat) ∨ Int.ofNat (2 : Nat) = Int.ofNat (4 : Nat)) ∧
 ∀ (s_1 : ByteArray),
 strLen s_1 ≤ (24 : Nat) →
 bsel (Nat.ble (strLen s_1 + (1 : Nat)) (9223372036854775807 : Nat))
 (rng (Int.tmod (IntKind.wrap .i64 (Int.tdiv s (60 : Int))) (60 : Int)) ∧
 (Int.ofNat (2 : Nat) = Int.ofNat (2 : Nat) ∨ Int.ofNat (2 : Nat) = Int.ofNat (4 : Nat)) ∧
 ∀ (s_2 : ByteArray),
 strLen s_2 ≤ (24 : Nat) →
 bsel (Nat.ble (strLen (strCat s_1 (ByteArray.mk #[58])) + strLen s_2) (9223372036854775807 : Nat))
 (bsel (Nat.ble (strLen (strCat (strCat s_1 (ByteArray.mk #[58])) s_2) + (1 : Nat)) (9223372036854775807 : Nat))
 (rng (Int.tmod s (60 : Int)) ∧
 (Int.ofNat (2 : Nat) = Int.ofNat (2 : Nat) ∨ Int.ofNat (2 : Nat) = Int.ofNat (4 : Nat)) ∧
 ∀ (s : ByteArray),
 strLen s ≤ (24 : Nat) →
 bsel
 (Nat.ble (strLen (strCat (strCat (strCat s_1 (ByteArray.mk #[58])) s_2) (ByteArray.mk #[58])) + strLen s)
 (9223372036854775807 : Nat))
 (bsel (o == (0 : Int))
 (bsel
 (Nat.ble
 (strLen (strCat (strCat (strCat (strCat s_1 (ByteArray.mk #[58])) s_2) (ByteArray.mk #[58])) s) + (1 : Nat))
 (9223372036854775807 : Nat))
 (K
 (Value.string
 (strCat (strCat (strCat (strCat (strCat s_1 (ByteArray.mk #[58])) s_2) (ByteArray.mk #[58])) s)
 (ByteArray.mk #[90])))
 big)
 False)
 (bsel (decide (o < (0 : Int)))
 (rng (IntKind.wrap .i64 (Int.tdiv (IntKind.wrap .i64 ((0 : Int) - o)) (3600 : Int))) ∧
 (Int.ofNat (2 : Nat) = Int.ofNat (2 : Nat) ∨ Int.ofNat (2 : Nat) = Int.ofNat (4 : Nat)) ∧
 ∀ (s_3 : ByteArray),
 strLen s_3 ≤ (24 : Nat) →
 bsel (Nat.ble ((1 : Nat) + strLen s_3) (9223372036854775807 : Nat))
 (bsel (Nat.ble (strLen (strCat (ByteArray.mk #[45]) s_3) + (1 : Nat)) (9223372036854775807 : Nat))
 (rng
 (Int.tmod (IntKind.wrap .i64 (Int.tdiv (IntKind.wrap .i64 ((0 : Int) - o)) (60 : Int))) (60 : Int)) ∧
 (Int.ofNat (2 : Nat) = Int.ofNat (2 : Nat) ∨ Int.ofNat (2 : Nat) = Int.ofNat (4 : Nat)) ∧
 ∀ (s_4 : ByteArray),
 strLen s_4 ≤ (24 : Nat) →
 bsel
 (Nat.ble (strLen (strCat (strCat (ByteArray.mk #[45]) s_3) (ByteArray.mk #[58])) + strLen s_4)
 (9223372036854775807 : Nat))
 (bsel
 (Nat.ble
 (strLen
 (strCat (strCat (strCat (strCat s_1 (ByteArray.mk #[58])) s_2) (ByteArray.mk #[58]))
 s) +
 strLen (strCat (strCat (strCat (ByteArray.mk #[45]) s_3) (ByteArray.mk #[58])) s_4))
 (9223372036854775807 : Nat))
 (bsel (Int.tmod (IntKind.wrap .i64 ((0 : Int) - o)) (60 : Int) != (0 : Int))
 (rng (Int.tmod (IntKind.wrap .i64 ((0 : Int) - o)) (60 : Int)) ∧
 (Int.ofNat (2 : Nat) = Int.ofNat (2 : Nat) ∨ Int.ofNat (2 : Nat) = Int.ofNat (4 : Nat)) ∧
 ∀ (s_5 : ByteArray),
 strLen s_5 ≤ (24 : Nat) →
 bsel (Nat.ble ((1 : Nat) + strLen s_5) (9223372036854775807 : Nat))
 (bsel
 (Nat.ble
 (strLen
 (strCat
 (strCat
 (strCat (strCat (strCat s_1 (ByteArray.mk #[58])) s_2) (ByteArray.mk #[58]))
 s)
 (strCat (strCat (strCat (ByteArray.mk #[45]) s_3) (ByteArray.mk #[58]))
 s_4)) +
 strLen (strCat (ByteArray.mk #[58]) s_5))
 (9223372036854775807 : Nat))
 (K
 (Value.string
 (strCat
 (strCat
 (strCat
 (strCat (strCat (strCat s_1 (ByteArray.mk #[58])) s_2) (ByteArray.mk #[58]))
 s)
 (strCat (strCat (strCat (ByteArray.mk #[45]) s_3) (ByteArray.mk #[58])) s_4))
 (strCat (ByteArray.mk #[58]) s_5)))
 big)
 False)
 False)
 (K
 (Value.string
 (strCat
 (strCat (strCat (strCat (strCat s_1 (ByteArray.mk #[58])) s_2) (ByteArray.mk #[58]))
 s)
 (strCat (strCat (strCat (ByteArray.mk #[45]) s_3) (ByteArray.mk #[58])) s_4)))
 big))
 False)
 False)
 False)
 False)
 (rng (IntKind.wrap .i64 (Int.tdiv o (3600 : Int))) ∧
 (Int.ofNat (2 : Nat) = Int.ofNat (2 : Nat) ∨ Int.ofNat (2 : Nat) = Int.ofNat (4 : Nat)) ∧
 ∀ (s_3 : ByteArray),
 strLen s_3 ≤ (24 : Nat) →
 bsel (Nat.ble ((1 : Nat) + strLen s_3) (9223372036854775807 : Nat))
 (bsel (Nat.ble (strLen (strCat (ByteArray.mk #[43]) s_3) + (1 : Nat)) (9223372036854775807 : Nat))
 (rng (Int.tmod (IntKind.wrap .i64 (Int.tdiv o (60 : Int))) (60 : Int)) ∧
 (Int.ofNat (2 : Nat) = Int.ofNat (2 : Nat) ∨ Int.ofNat (2 : Nat) = Int.ofNat (4 : Nat)) ∧
 ∀ (s_4 : ByteArray),
 strLen s_4 ≤ (24 : Nat) →
 bsel
 (Nat.ble (strLen (strCat (strCat (ByteArray.mk #[43]) s_3) (ByteArray.mk #[58])) + strLen s_4)
 (9223372036854775807 : Nat))
 (bsel
 (Nat.ble
 (strLen
 (strCat (strCat (strCat (strCat s_1 (ByteArray.mk #[58])) s_2) (ByteArray.mk #[58]))
 s) +
 strLen (strCat (strCat (strCat (ByteArray.mk #[43]) s_3) (ByteArray.mk #[58])) s_4))
 (9223372036854775807 : Nat))
 (bsel (Int.tmod o (60 : Int) != (0 : Int))
 (rng (Int.tmod o (60 : Int)) ∧
 (Int.ofNat (2 : Nat) = Int.ofNat (2 : Nat) ∨ Int.ofNat (2 : Nat) = Int.ofNat (4 : Nat)) ∧
 ∀ (s_5 : ByteArray),
 strLen s_5 ≤ (24 : Nat) →
 bsel (Nat.ble ((1 : Nat) + strLen s_5) (9223372036854775807 : Nat))
 (bsel
 (Nat.ble
 (strLen
 (strCat
 (strCat
 (strCat (strCat (strCat s_1 (ByteArray.mk #[58])) s_2) (ByteArray.mk #[58]))
 s)
 (strCat (strCat (strCat (ByteArray.mk #[43]) s_3) (ByteArray.mk #[58]))
 s_4)) +
 strLen (strCat (ByteArray.mk #[58]) s_5))
 (9223372036854775807 : Nat))
 (K
 (Value.string
 (strCat
 (strCat
 (strCat
 (strCat (strCat (strCat s_1 (ByteArray.mk #[58])) s_2) (ByteArray.mk #[58]))
 s)
 (strCat (strCat (strCat (ByteArray.mk #[43]) s_3) (ByteArray.mk #[58])) s_4))
 (strCat (ByteArray.mk #[58]) s_5)))
 big)
 False)
 False)
 (K
 (Value.string
 (strCat
 (strCat (strCat (strCat (strCat s_1 (ByteArray.mk #[58])) s_2) (ByteArray.mk #[58]))
 s)
 (strCat (strCat (strCat (ByteArray.mk #[43]) s_3) (ByteArray.mk #[58])) s_4)))
 big))
 False)
 False)
 False)
 False)))
 False)
 False)
 False)
 False) := by kernel_rfl
theorem ltime_tree2 (K : Value → Nat → Prop) (s : Int) :
 funcK (env rulesT2) 30 183 [timeC s false 0] tabs Tryz.prog.globals.size (fun u _ _ mw => K u mw) =
 (timeOk s false (Int.ofNat (0 : Nat)) ∧
 rng (IntKind.wrap .i64 (Int.tdiv s (3600 : Int))) ∧
 (Int.ofNat (2 : Nat) = Int.ofNat (2 : Nat) ∨ Int.ofNat (2 : Nat) = Int.ofNat (4 : Nat)) ∧
 ∀ (s_1 : ByteArray),
 strLen s_1 ≤ (24 : Nat) →
 bsel (Nat.ble (strLen s_1 + (1 : Nat)) (9223372036854775807 : Nat))
 (rng (Int.tmod (IntKind.wrap .i64 (Int.tdiv s (60 : Int))) (60 : Int)) ∧
 (Int.ofNat (2 : Nat) = Int.ofNat (2 : Nat) ∨ Int.ofNat (2 : Nat) = Int.ofNat (4 : Nat)) ∧
 ∀ (s_2 : ByteArray),
 strLen s_2 ≤ (24 : Nat) →
 bsel (Nat.ble (strLen (strCat s_1 (ByteArray.mk #[58])) + strLen s_2) (9223372036854775807 : Nat))
 (bsel (Nat.ble (strLen (strCat (strCat s_1 (ByteArray.mk #[58])) s_2) + (1 : Nat)) (9223372036854775807 : Nat))
 (rng (Int.tmod s (60 : Int)) ∧
 (Int.ofNat (2 : Nat) = Int.ofNat (2 : Nat) ∨ Int.ofNat (2 : Nat) = Int.ofNat (4 : Nat)) ∧
 ∀ (s : ByteArray),
 strLen s ≤ (24 : Nat) →
 bsel
 (Nat.ble (strLen (strCat (strCat (strCat s_1 (ByteArray.mk #[58])) s_2) (ByteArray.mk #[58])) + strLen s)
 (9223372036854775807 : Nat))
 (K (.string (strCat (strCat (strCat (strCat s_1 (ByteArray.mk #[58])) s_2) (ByteArray.mk #[58])) s))
 big)
 False)
 False)
 False)
 False) := by kernel_rfl
theorem tabIs_base {base w : World} (hT : Lib.TabIs Tryz.prog base "internal/strconv.uint64pow10" .u64 pow10s) (hlt : Tryz.prog.globals.size ≤ base.heap.size) (hb : Below base.heap.size base w) :
    Lib.TabIs Tryz.prog w "internal/strconv.uint64pow10" .u64 Lib.pow10Tab := by
  have e : Lib.pow10Tab = pow10s := by decide
  rw [e]
  unfold Lib.TabIs World.var? at hT ⊢
  rw [show Tryz.prog.globalNamed "internal/strconv.uint64pow10" = some 5 by kernel_rfl] at hT ⊢
  simp only [Option.bind_some] at hT ⊢
  have hg : 5 < base.heap.size := Nat.lt_of_lt_of_le (Nat.le_of_ble_eq_true (by kernel_rfl)) hlt
  rw [hb.block _ hg]
  exact hT
theorem itoa_cases (n : Int) (h : rng n) : ∃ c l, Lib.itoa n = c :: l ∧ l.length ≤ 20 := by
  have h1 := Lib.itoa_length_le n h.1 h.2
  cases hx : Lib.itoa n with
  | nil =>
    exfalso
    unfold Lib.itoa at hx
    split at hx
    · cases hx
    · have := Lib.decDigits_length n.toNat
      rw [hx] at this
      unfold Lib.decDigits at hx
      split at hx
      · cases hx
      · simp at hx
  | cons c l =>
    rw [hx] at h1
    simp at h1
    exact ⟨c, l, rfl, by omega⟩
theorem sl0 : strLen ⟨#[]⟩ = 0 := rfl
theorem sl1 (a : UInt8) : strLen ⟨#[a]⟩ = 1 := rfl
theorem slL (l : List UInt8) : strLen ⟨⟨l⟩⟩ = l.length := rfl
theorem noBig {k : Nat} {P : Prop} (h : k ≤ 100000) (hb : Nat.ble k 9223372036854775807 = false) : P := by
  rw [Nat.ble_eq_true_of_le (by omega)] at hb
  cases hb
theorem rngT {x k : Int} (hk : 0 < k) (hk2 : k ≤ 1000000000) : rng (Int.tmod x k) := by
  obtain ⟨h1, h2, _⟩ := tmodB x k hk
  unfold rng
  omega
structure Begun (base : World) : Prop where
  tab : Lib.TabIs Tryz.prog base "internal/strconv.uint64pow10" .u64 pow10s
  low : Tryz.prog.globals.size ≤ base.heap.size
theorem itoa_tot {base : World} (B : Begun base) {n : Int} (h : rng n) : Tot base 143 [.int .i64 n] (.string ⟨(Lib.itoa n).toArray⟩) := fun E hE hp _ m => by
  have hE' : EnvOk (env []) base := env_ok (rules := []) (fun _ h => by cases h)
  refine (FuncSem.ofContract (E := env []) hE' (fn := Tryz.f143) Tryz.func143 (by kernel_rfl) (pure1 (by kernel_rfl)) (by kernel_rfl) fun w hb => ?_).env hE
  exact (Tryz.strconv_Itoa n h.1 h.2 w (tabIs_base B.tab B.low hb)).mono fun e w' ⟨he, k, os, hw⟩ => ⟨he, by rw [hw]; exact Lib.below_grow _ _ (Nat.le_refl _) _ _⟩
theorem itoa_ok {base : World} (B : Begun base) : RuleOk Tryz.prog base 143 ruleItoa := ruleOk_of fun args T K hT hK => by
  split at hT
  · cases hT
    rename_i n
    obtain ⟨h, k1, k2, k3, k4⟩ := hK
    have ht := itoa_tot B h
    obtain ⟨c, l, hl, hlen⟩ := itoa_cases n h
    rw [hl] at ht
    refine ⟨_, ?_, ht⟩
    match l, hlen with
    | [], _ => exact k1 c
    | [b], _ => exact k2 c b
    | [b, d], _ => exact k3 c b d
    | b :: d :: e :: r, hlen => exact k4 c b d e r (by simp at hlen; omega)
  · cases hT
theorem rulesT1_ok {base : World} (B : Begun base) : ∀ x ∈ rulesT1, RuleOk Tryz.prog base x.1 x.2 := List.forall_mem_cons.2 ⟨itoa_ok B, rules4_ok base⟩
theorem padded_hk {n w : Int} (h : rng n) (hw : w = 2 ∨ w = 4) : ReckE (envN 5 rulesT1) 30 229 [.int .i64 n, .int .i64 w] (isShort 24) := by
  rcases hw with rfl | rfl
  · constructor
    rw [padded2_tree fun u mw => isShort 24 u ∧ Tryz.prog.globals.size ≤ mw]
    refine ⟨h, ?_, ?_, ?_, ?_⟩ <;> intros <;> exact ⟨⟨_, rfl, by simp only [strLen_cat, sl0, sl1, slL, List.length_cons, List.length_nil]; omega⟩, globals_big⟩
  · constructor
    rw [padded4_tree fun u mw => isShort 24 u ∧ Tryz.prog.globals.size ≤ mw]
    refine ⟨h, ?_, ?_, ?_, ?_⟩ <;> intros <;> exact ⟨⟨_, rfl, by simp only [strLen_cat, sl0, sl1, slL, List.length_cons, List.length_nil]; omega⟩, globals_big⟩
theorem padded_ok {base : World} (B : Begun base) : RuleOk Tryz.prog base 229 rulePadded := ruleOk_of fun args T K hT hK => by
  split at hT
  · cases hT
    obtain ⟨h, hw, hK⟩ := hK
    obtain ⟨v, ⟨s, rfl, hs⟩, ht⟩ := tot_ofE (envN_ok (rulesT1_ok B)) envN_loops rfl (padded_hk h hw) isShort_pure (List.forall_mem_cons.2 ⟨by kernel_rfl, pure1 (by kernel_rfl)⟩)
    exact ⟨_, hK s hs, ht⟩
  · cases hT
theorem gpiece_hk {n : Int} (h : rng n) {l : ByteArray} (hl : strLen l ≤ 1) : ReckE (env rulesT1) 30 233 [.int .i64 n, .string l] (isShort 24) := by
  constructor
  rw [gpiece_tree fun u mw => isShort 24 u ∧ Tryz.prog.globals.size ≤ mw]
  repeat' (first
    | exact ⟨⟨_, rfl, by first | exact Nat.zero_le _ | omega | (simp only [strLen_cat, sl0, sl1, slL, List.length_cons, List.length_nil]; omega)⟩, globals_big⟩
    | assumption
    | exact Or.inl rfl
    | exact Or.inr rfl
    | exact rng_wrap _
    | exact rngT (by decide) (by decide)
    | exact Nat.le_refl _
    | refine And.intro ?_ ?_
    | refine bsel_of (fun _ => ?_) (fun h => noBig (by first | omega | (simp only [strLen_cat, sl0, sl1, slL, List.length_cons, List.length_nil]; omega)) h)
    | refine bsel_of (fun _ => ?_) (fun _ => ?_)
    | intro _)
theorem piece_ok {base : World} (B : Begun base) : RuleOk Tryz.prog base 233 rulePiece := ruleOk_of fun args T K hT hK => by
  split at hT
  · cases hT
    obtain ⟨h, hl, hK⟩ := hK
    obtain ⟨v, ⟨s, rfl, hs⟩, ht⟩ := tot_ofE (env_ok (rulesT1_ok B)) env_loops rfl (gpiece_hk h hl) isShort_pure (List.forall_mem_cons.2 ⟨by kernel_rfl, pure1 (by kernel_rfl)⟩)
    exact ⟨_, hK s hs, ht⟩
  · cases hT
theorem rulesT2_ok {base : World} (B : Begun base) : ∀ x ∈ rulesT2, RuleOk Tryz.prog base x.1 x.2 := List.forall_mem_cons.2 ⟨padded_ok B, List.forall_mem_cons.2 ⟨piece_ok B, rules4_ok base⟩⟩
theorem ldate_hk {y m d : Int} (hd : dateOk y m d) : ReckE (env rulesT2) 30 178 [dateC y m d] (isShort 200) := by
  have d31 := dateOk_len hd
  obtain ⟨hy, hm, hdd⟩ : rng y ∧ rng m ∧ rng d := by
    obtain ⟨a1, a2, a3, a4, a5, _⟩ := hd
    unfold rng
    omega
  constructor
  rw [ldate_tree fun u mw => isShort 200 u ∧ Tryz.prog.globals.size ≤ mw]
  refine And.intro hd ?_
  repeat' (first
    | exact ⟨⟨_, rfl, by first | exact Nat.zero_le _ | omega | (simp only [strLen_cat, sl0, sl1, slL, List.length_cons, List.length_nil]; omega)⟩, globals_big⟩
    | assumption
    | exact Or.inl rfl
    | exact Or.inr rfl
    | exact rng_wrap _
    | exact rngT (by decide) (by decide)
    | exact Nat.le_refl _
    | refine And.intro ?_ ?_
    | refine bsel_of (fun _ => ?_) (fun h => noBig (by first | omega | (simp only [strLen_cat, sl0, sl1, slL, List.length_cons, List.length_nil]; omega)) h)
    | refine bsel_of (fun _ => ?_) (fun _ => ?_)
    | intro _)
theorem ltime_hk {s o : Int} {z : Bool} (ht : timeOk s z o) : ReckE (env rulesT2) 30 183 [timeC s z o] (isShort 200) := by
  cases z
  · obtain rfl := ht.2.2.2.2 rfl
    constructor
    rw [ltime_tree2 fun u mw => isShort 200 u ∧ Tryz.prog.globals.size ≤ mw]
    refine And.intro ht ?_
    repeat' (first
    | exact ⟨⟨_, rfl, by first | exact Nat.zero_le _ | omega | (simp only [strLen_cat, sl0, sl1, slL, List.length_cons, List.length_nil]; omega)⟩, globals_big⟩
    | assumption
    | exact Or.inl rfl
    | exact Or.inr rfl
    | exact rng_wrap _
    | exact rngT (by decide) (by decide)
    | exact Nat.le_refl _
    | refine And.intro ?_ ?_
    | refine bsel_of (fun _ => ?_) (fun h => noBig (by first | omega | (simp only [strLen_cat, sl0, sl1, slL, List.length_cons, List.length_nil]; omega)) h)
    | refine bsel_of (fun _ => ?_) (fun _ => ?_)
    | intro _)
  · constructor
    rw [ltime_tree1 fun u mw => isShort 200 u ∧ Tryz.prog.globals.size ≤ mw]
    refine And.intro ht ?_
    repeat' (first
    | exact ⟨⟨_, rfl, by first | exact Nat.zero_le _ | omega | (simp only [strLen_cat, sl0, sl1, slL, List.length_cons, List.length_nil]; omega)⟩, globals_big⟩
    | assumption
    | exact Or.inl rfl
    | exact Or.inr rfl
    | exact rng_wrap _
    | exact rngT (by decide) (by decide)
    | exact Nat.le_refl _
    | refine And.intro ?_ ?_
    | refine bsel_of (fun _ => ?_) (fun h => noBig (by first | omega | (simp only [strLen_cat, sl0, sl1, slL, List.length_cons, List.length_nil]; omega)) h)
    | refine bsel_of (fun _ => ?_) (fun _ => ?_)
    | intro _)
end Go.Proofs.YthmogphlnjpakaaGreatDoor

namespace Go.Proofs.YthmogphlnjpakaaGreatDoor
open Go Go.Pe Go.RowKit
def ruleLTime : Rule := rule1 fun args => match args with
  | [.agg ⟨[.int .i64 s, .bool z, .int .i64 o]⟩] => some fun K => timeOk s z o ∧ ∀ t, strLen t ≤ 200 → K (.string t)
  | _ => none
theorem lTime_ok {base : World} (B : Begun base) : RuleOk Tryz.prog base 183 ruleLTime := ruleOk_of fun args T K hT hK => by
  split at hT
  · cases hT
    obtain ⟨hd, hK⟩ := hK
    obtain ⟨v, ⟨s, rfl, hs⟩, ht⟩ := tot_ofE (env_ok (rulesT2_ok B)) env_loops rfl (ltime_hk hd) isShort_pure (pure1 (by kernel_rfl))
    exact ⟨_, hK s hs, ht⟩
  · cases hT
end Go.Proofs.YthmogphlnjpakaaGreatDoor

namespace Go.Proofs.YthmogphlnjpakaaGreatDoor
open Go Go.Pe Go.RowKit
def ruleMayD : Rule := rule1 fun args => match args with
  | [.agg ⟨[.int .i64 y, .int .i64 m, .int .i64 d]⟩] => some fun K => (dateOk y m d → K (.bool true)) ∧ (¬ dateOk y m d → K (.bool false))
  | _ => none
theorem may2_tree (K : Value → Nat → Prop) (y m d : Int) :
 funcK (env rules1) 30 179 [dateC y m d] tabs Tryz.prog.globals.size (fun u _ _ mw => K u mw) =
 (bsel (decide (y ≥ (-999999999 : Int)))
 (bsel (decide (y ≤ (999999999 : Int)))
 (bsel (decide (d ≥ (1 : Int)))
 (bsel (m == (1 : Int))
 (bsel (decide (d ≤ (31 : Int))) (K (.bool true) big) (K (.bool false) big))
 (bsel (m == (3 : Int))
 (bsel (decide (d ≤ (31 : Int))) (K (.bool true) big) (K (.bool false) big))
 (bsel (m == (5 : Int))
 (bsel (decide (d ≤ (31 : Int))) (K (.bool true) big) (K (.bool false) big))
 (bsel (m == (7 : Int))
 (bsel (decide (d ≤ (31 : Int))) (K (.bool true) big) (K (.bool false) big))
 (bsel (m == (8 : Int))
 (bsel (decide (d ≤ (31 : Int))) (K (.bool true) big) (K (.bool false) big))
 (bsel (m == (10 : Int))
 (bsel (decide (d ≤ (31 : Int))) (K (.bool true) big) (K (.bool false) big))
 (bsel (m == (12 : Int))
 (bsel (decide (d ≤ (31 : Int))) (K (.bool true) big) (K (.bool false) big))
 (bsel (m == (4 : Int))
 (bsel (decide (d ≤ (30 : Int))) (K (.bool true) big) (K (.bool false) big))
 (bsel (m == (6 : Int))
 (bsel (decide (d ≤ (30 : Int))) (K (.bool true) big) (K (.bool false) big))
 (bsel (m == (9 : Int))
 (bsel (decide (d ≤ (30 : Int))) (K (.bool true) big) (K (.bool false) big))
 (bsel (m == (11 : Int))
 (bsel (decide (d ≤ (30 : Int))) (K (.bool true) big) (K (.bool false) big))
 (bsel (m == (2 : Int))
 (bsel (Int.tmod y (4 : Int) == (0 : Int))
 (bsel (Int.tmod y (100 : Int) != (0 : Int))
 (bsel (decide (d ≤ (29 : Int))) (K (.bool true) big)
 (K (.bool false) big))
 (bsel (Int.tmod y (400 : Int) == (0 : Int))
 (bsel (decide (d ≤ (29 : Int))) (K (.bool true) big)
 (K (.bool false) big))
 (bsel (decide (d ≤ (28 : Int))) (K (.bool true) big)
 (K (.bool false) big))))
 (bsel (decide (d ≤ (28 : Int))) (K (.bool true) big) (K (.bool false) big)))
 (bsel (decide (d ≤ (0 : Int))) (K (.bool true) big)
 (K (.bool false) big))))))))))))))
 (K (.bool false) big))
 (K (.bool false) big))
 (K (.bool false) big)) := by kernel_rfl
def isMayD (y m d : Int) (u : Value) : Prop := (u = .bool true ∧ dateOk y m d) ∨ (u = .bool false ∧ ¬ dateOk y m d)
theorem isMayD_pure {y m d : Int} : ∀ v, isMayD y m d v → pureV 6 v = true := by
  rintro v (⟨rfl, _⟩ | ⟨rfl, _⟩) <;> kernel_rfl
theorem mayD_hk (y m d : Int) : ReckE (env rules1) 30 179 [dateC y m d] (isMayD y m d) := by
  constructor
  rw [may2_tree fun u mw => isMayD y m d u ∧ Tryz.prog.globals.size ≤ mw]
  repeat' (refine bsel_of (fun _ => ?_) (fun _ => ?_))
  all_goals first
    | exact ⟨.inl ⟨rfl, by grind [dateOk, lenF, leapF]⟩, globals_big⟩
    | exact ⟨.inr ⟨rfl, by grind [dateOk, lenF, leapF]⟩, globals_big⟩
    | (exfalso; grind)
theorem mayD_ok (base : World) : RuleOk Tryz.prog base 179 ruleMayD := ruleOk_of fun args T K hT hK => by
  split at hT
  · cases hT
    rename_i y m d
    obtain ⟨v, hv, ht⟩ := tot_ofE (env_ok (rules1_ok base)) env_loops rfl (mayD_hk y m d) isMayD_pure (pure1 (by kernel_rfl))
    rcases hv with ⟨rfl, h⟩ | ⟨rfl, h⟩
    · exact ⟨_, hK.1 h, ht⟩
    · exact ⟨_, hK.2 h, ht⟩
  · cases hT
end Go.Proofs.YthmogphlnjpakaaGreatDoor
