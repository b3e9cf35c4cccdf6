/-
  A decimal number as a text.
-/
import Derived.Test.YtdbjbmdaekgbhaaGreatDoorWl
import Derived.Test.YtdbjbmdaekgbhaaGreatDoorEr
namespace Go.Proofs.YtdbjbmdaekgbhaaGreatDoor
open Go Go.Pe Go.RowKit

structure ntxS where
  (n : Bool) (a b e : Int) (s : ByteArray)
noncomputable def ntxL : LoopS ntxS where
  fn := 48
  keys := [1, 3]
  kv := fun ⟨n, a, b, e, s⟩ => [ptr 10, .string s]
  hp := fun ⟨n, a, b, e, s⟩ => [(10, blkD n a b e)]
  lo := 11
  nx := 11
  mw := 10
  size := 53
theorem ntx_tree (P : Exit → Bool → List Value → Heap → Nat → Nat → Nat → FuncId → List (FuncId × List Value) → Prop) (n : Bool) (a b e : Int) (s : ByteArray) :
    codeK (envW rulesSc []) (funcK (envW rulesSc []) 30) (loopOf Tryz.prog 48 3) (ntxL.st ⟨n, a, b, e, s⟩) (ntxL.look P) =
  (bsel (decide (↑(strLen s) ≤ IntKind.wrap IntKind.i64 ((0 : Int) - e))) (bsel (Nat.ble (1 + strLen s) 9223372036854775807) (P Go.Exit.normal Bool.true [Value.pointer (Option.some (Go.Addr.mk 10 0 Option.none)), Value.string (strCat (ByteArray.mk #[(48 : UInt8)]) s)] [(10, Blk.mk [Option.some (Value.bool n), Option.some (Value.int IntKind.u64 a), Option.some (Value.int IntKind.u64 b), Option.some (Value.int IntKind.i64 e)] 28 Bool.true 0 Option.none Bool.false)] 11 10 53 48 []) False) (P (Go.Exit.exit 1) Bool.true [Value.pointer (Option.some (Go.Addr.mk 10 0 Option.none)), Value.string s] [(10, Blk.mk [Option.some (Value.bool n), Option.some (Value.int IntKind.u64 a), Option.some (Value.int IntKind.u64 b), Option.some (Value.int IntKind.i64 e)] 28 Bool.true 0 Option.none Bool.false)] 11 10 53 48 [])) := by kernel_rfl
def ntxI (k : Nat) (x : ntxS) : Prop := (-40 ≤ x.e ∧ x.e < 0) ∧ strLen x.s ≤ 41 ∧ k = 41 - strLen x.s
def ntxO (x : ntxS) : Prop := (-40 ≤ x.e ∧ x.e < 0) ∧ strLen x.s ≤ 41 ∧ -x.e < (strLen x.s : Int)
theorem ntx_round (n0 : Nat) (n : Bool) (a b e : Int) (s : ByteArray) (hI : ntxI n0 ⟨n, a, b, e, s⟩) :
    Hush (codeK (envW rulesSc []) (funcK (envW rulesSc []) 30) (loopOf Tryz.prog 48 3) (ntxL.st ⟨n, a, b, e, s⟩) (ntxL.look (ntxL.To ntxI ntxO (fun _ => False) 1 n0))) := by
  constructor
  rw [ntx_tree]
  obtain ⟨⟨h1, h2⟩, h3, hn⟩ := hI
  try simp only at *
  have hw : IntKind.wrap .i64 (0 - e) = -e := by
    rw [wrap_i64r (by unfold i64; omega)]
    omega
  have l1 : strLen ⟨#[48]⟩ = 1 := rfl
  rw [hw]
  refine bsel_of (fun hc => ?_) (fun hc => ⟨rfl, ⟨n, a, b, e, s⟩, ⟨⟨h1, h2⟩, h3, ?_⟩, LoopS.At.quick [] rfl rfl (by kernel_rfl) rfl (by kernel_rfl) rfl rfl rfl⟩)
  · have hc : (strLen s : Int) ≤ -e := of_decide_eq_true hc
    refine bsel_of (fun _ => ⟨41 - strLen (strCat ⟨#[48]⟩ s), ⟨n, a, b, e, strCat ⟨#[48]⟩ s⟩, ?_, ⟨⟨h1, h2⟩, ?_, rfl⟩, LoopS.At.quick [] rfl rfl (by kernel_rfl) rfl (by kernel_rfl) rfl rfl rfl⟩) (fun h => absurd (ble_false h) (by omega))
    · rw [strLen_cat]
      omega
    · show strLen (strCat ⟨#[48]⟩ s) ≤ 41
      rw [strLen_cat]
      omega
  · have hc : ¬ (strLen s : Int) ≤ -e := of_decide_eq_false hc
    show -e < (strLen s : Int)
    omega
theorem ntx_rounds : Rounds (envW rulesSc []) 30 (loopOf Tryz.prog 48 3) ntxL ntxI ntxO (fun _ => False) 1 := ⟨fun n x hI => ntx_round n x.n x.a x.b x.e x.s hI⟩
def ntxT : LoopW := fun c s K => loopT (loopOf Tryz.prog 48 3) ntxL ntxI ntxO 1 c s K
theorem ntxT_ok {E : Env} (hP : E.P = Tryz.prog) (hW : E.weak = true) {base : World} : LoopOk E base ntxT := fun c s K h =>
  loopT_ok (E := envW rulesSc []) hP hW (envW_ok (rulesSc_ok base)) (findL_ok (l := []) rfl fun _ h => nomatch h) (by kernel_rfl) (by kernel_rfl) ntx_rounds h
def loopsNt : List ((Nat × Nat) × LoopW) := [((48, 3), ntxT)]
theorem loopsNt_ok {E : Env} (hP : E.P = Tryz.prog) (hW : E.weak = true) (base : World) : ∀ x ∈ loopsNt, LoopOk E base x.2 := List.forall_mem_cons.2 ⟨ntxT_ok hP hW, fun _ h => nomatch h⟩
def ruleItoaL : Rule := rule1 fun args => match args with
  | [.int .i64 n] => some fun K => rng n ∧ ∀ s, strLen s ≤ 24 → K (.string s)
  | _ => none
theorem itoaL_ok {base : World} (B : Begun base) : RuleOk Tryz.prog base 133 ruleItoaL := ruleOk_of fun args T K hT hK => by
  split at hT
  · cases hT
    rename_i n
    obtain ⟨h, hK⟩ := hK
    have ht := itoa_tot B h
    obtain ⟨c, l, hl, hlen⟩ := itoa_cases n h
    rw [hl] at ht
    refine ⟨_, hK _ ?_, ht⟩
    show (c :: l).length ≤ 24
    simp only [List.length_cons]
    omega
  · cases hT
def rulesNt : List (Nat × Rule) := (132, ruleUtext) :: (133, ruleItoaL) :: rulesSc
theorem rulesNt_ok {base : World} (B : Begun base) : ∀ x ∈ rulesNt, RuleOk Tryz.prog base x.1 x.2 := List.forall_mem_cons.2 ⟨utext_ok, List.forall_mem_cons.2 ⟨itoaL_ok B, rulesSc_ok base⟩⟩
def isNt (u : Value) : Prop := ∃ s, u = .string s ∧ strLen s ≤ 200
theorem ntext_hk_tree (K : Value → Nat → Prop) (n : Bool) (a b e : Int) :
    funcK (envW rulesNt loopsNt) 30 48 [decC n a b e] tabs Tryz.prog.globals.size (fun u _ _ mw => K u mw) =
  ((u64 a ∧ u64 b) ∧ ∀ (s : ByteArray), strLen s ≤ 40 → bsel (decide (e < (0 : Int))) (bsel (decide (e ≥ (-40 : Int))) (Is (loopOf Go.Proofs.Tryz.prog 48 3) (loopOf Go.Proofs.Tryz.prog 48 3) ∧ ∃ (x : Nat), ∃ (x_1 : ntxS), (ntxI x x_1 ∧ Bool.true = Bool.true ∧ LoopS.At ntxL x_1 Bool.true [Value.pointer (Option.some (Go.Addr.mk 10 0 Option.none)), Value.string s] [(10, Blk.mk [Option.some (Value.bool n), Option.some (Value.int IntKind.u64 a), Option.some (Value.int IntKind.u64 b), Option.some (Value.int IntKind.i64 e)] 28 Bool.true 0 Option.none Bool.false), (7, Blk.mk [Option.some (Value.int IntKind.u64 (Int.ofNat 1)), Option.some (Value.int IntKind.u64 (Int.ofNat 10)), Option.some (Value.int IntKind.u64 (Int.ofNat 100)), Option.some (Value.int IntKind.u64 (Int.ofNat 1000)), Option.some (Value.int IntKind.u64 (Int.ofNat 10000)), Option.some (Value.int IntKind.u64 (Int.ofNat 100000)), Option.some (Value.int IntKind.u64 (Int.ofNat 1000000)), Option.some (Value.int IntKind.u64 (Int.ofNat 10000000)), Option.some (Value.int IntKind.u64 (Int.ofNat 100000000)), Option.some (Value.int IntKind.u64 (Int.ofNat 1000000000)), Option.some (Value.int IntKind.u64 (Int.ofNat 10000000000)), Option.some (Value.int IntKind.u64 (Int.ofNat 100000000000)), Option.some (Value.int IntKind.u64 (Int.ofNat 1000000000000)), Option.some (Value.int IntKind.u64 (Int.ofNat 10000000000000)), Option.some (Value.int IntKind.u64 (Int.ofNat 100000000000000)), Option.some (Value.int IntKind.u64 (Int.ofNat 1000000000000000)), Option.some (Value.int IntKind.u64 (Int.ofNat 10000000000000000)), Option.some (Value.int IntKind.u64 (Int.ofNat 100000000000000000)), Option.some (Value.int IntKind.u64 (Int.ofNat 1000000000000000000)), Option.some (Value.int IntKind.u64 (Int.ofNat 10000000000000000000))] 0 Bool.false 0 Option.none Bool.false)] 11 18446744073709551616 53 48 []) ∧ ∀ (a' : ntxS), ntxO a' → bsel (decide ((0 : Int) ≤ IntKind.wrap IntKind.i64 (↑(strLen a'.5) + a'.4)) && decide (IntKind.wrap IntKind.i64 (↑(strLen a'.5) + a'.4) ≤ ↑(strLen a'.5))) (bsel (Nat.ble (strLen (strCut a'.5 0 (Int.toNat (IntKind.wrap IntKind.i64 (↑(strLen a'.5) + a'.4)))) + 1) 9223372036854775807) (bsel (decide ((0 : Int) ≤ IntKind.wrap IntKind.i64 (↑(strLen a'.5) + a'.4)) && decide (IntKind.wrap IntKind.i64 (↑(strLen a'.5) + a'.4) ≤ ↑(strLen a'.5))) (bsel (Nat.ble (strLen (strCat (strCut a'.5 0 (Int.toNat (IntKind.wrap IntKind.i64 (↑(strLen a'.5) + a'.4)))) (ByteArray.mk #[(46 : UInt8)])) + strLen (strCut a'.5 (Int.toNat (IntKind.wrap IntKind.i64 (↑(strLen a'.5) + a'.4))) (strLen a'.5))) 9223372036854775807) (bsel a'.1 (bsel (Nat.ble (1 + strLen (strCat (strCat (strCut a'.5 0 (Int.toNat (IntKind.wrap IntKind.i64 (↑(strLen a'.5) + a'.4)))) (ByteArray.mk #[(46 : UInt8)])) (strCut a'.5 (Int.toNat (IntKind.wrap IntKind.i64 (↑(strLen a'.5) + a'.4))) (strLen a'.5)))) 9223372036854775807) (K (Value.string (strCat (ByteArray.mk #[(45 : UInt8)]) (strCat (strCat (strCut a'.5 0 (Int.toNat (IntKind.wrap IntKind.i64 (↑(strLen a'.5) + a'.4)))) (ByteArray.mk #[(46 : UInt8)])) (strCut a'.5 (Int.toNat (IntKind.wrap IntKind.i64 (↑(strLen a'.5) + a'.4))) (strLen a'.5))))) 10) False) (K (Value.string (strCat (strCat (strCut a'.5 0 (Int.toNat (IntKind.wrap IntKind.i64 (↑(strLen a'.5) + a'.4)))) (ByteArray.mk #[(46 : UInt8)])) (strCut a'.5 (Int.toNat (IntKind.wrap IntKind.i64 (↑(strLen a'.5) + a'.4))) (strLen a'.5)))) 10)) False) False) False) False) (bsel (e != (0 : Int)) (rng e ∧ ∀ (s_1 : ByteArray), strLen s_1 ≤ 24 → bsel (Nat.ble (1 + strLen s_1) 9223372036854775807) (bsel (Nat.ble (strLen s + strLen (strCat (ByteArray.mk #[(69 : UInt8)]) s_1)) 9223372036854775807) (bsel n (bsel (Nat.ble (1 + strLen (strCat s (strCat (ByteArray.mk #[(69 : UInt8)]) s_1))) 9223372036854775807) (K (Value.string (strCat (ByteArray.mk #[(45 : UInt8)]) (strCat s (strCat (ByteArray.mk #[(69 : UInt8)]) s_1)))) 18446744073709551616) False) (K (Value.string (strCat s (strCat (ByteArray.mk #[(69 : UInt8)]) s_1))) 18446744073709551616)) False) False) (bsel n (bsel (Nat.ble (1 + strLen s) 9223372036854775807) (K (Value.string (strCat (ByteArray.mk #[(45 : UInt8)]) s)) 18446744073709551616) False) (K (Value.string s) 18446744073709551616)))) (bsel (e != (0 : Int)) (rng e ∧ ∀ (s_1 : ByteArray), strLen s_1 ≤ 24 → bsel (Nat.ble (1 + strLen s_1) 9223372036854775807) (bsel (Nat.ble (strLen s + strLen (strCat (ByteArray.mk #[(69 : UInt8)]) s_1)) 9223372036854775807) (bsel n (bsel (Nat.ble (1 + strLen (strCat s (strCat (ByteArray.mk #[(69 : UInt8)]) s_1))) 9223372036854775807) (K (Value.string (strCat (ByteArray.mk #[(45 : UInt8)]) (strCat s (strCat (ByteArray.mk #[(69 : UInt8)]) s_1)))) 18446744073709551616) False) (K (Value.string (strCat s (strCat (ByteArray.mk #[(69 : UInt8)]) s_1))) 18446744073709551616)) False) False) (bsel n (bsel (Nat.ble (1 + strLen s) 9223372036854775807) (K (Value.string (strCat (ByteArray.mk #[(45 : UInt8)]) s)) 18446744073709551616) False) (K (Value.string s) 18446744073709551616)))) := by kernel_rfl
theorem ntext_hk (n : Bool) (a b e : Int) (h1 : u64 a) (h2 : u64 b) (h3 : i64 e) : ReckE (envW rulesNt loopsNt) 30 48 [decC n a b e] (isNt) := by
  constructor
  rw [ntext_hk_tree fun u mw => (isNt) u ∧ Tryz.prog.globals.size ≤ mw]
  have l1 : strLen ⟨#[46]⟩ = 1 := rfl
  have l2 : strLen ⟨#[45]⟩ = 1 := rfl
  have l3 : strLen ⟨#[69]⟩ = 1 := rfl
  have hrng : rng e := by
    unfold i64 at h3
    unfold rng
    omega
  refine ⟨⟨h1, h2⟩, fun s hs => ?_⟩
  refine bsel_of (fun he => bsel_of (fun he2 => ?_) (fun _ => ?_)) (fun _ => ?_)
  · have he : e < 0 := of_decide_eq_true he
    have he2 : e ≥ -40 := of_decide_eq_true he2
    refine ⟨⟨rfl⟩, _, ⟨n, a, b, e, s⟩, ⟨⟨⟨he2, he⟩, by show strLen s ≤ 41; omega, rfl⟩, by kernel_rfl, LoopS.At.quick [] rfl rfl (by kernel_rfl) rfl (by kernel_rfl) rfl rfl rfl⟩, fun ⟨n', a', b', e', s'⟩ ⟨⟨q1, q2⟩, q3, q4⟩ => ?_⟩
    simp only at q1 q2 q3 q4 ⊢
    have hw : IntKind.wrap .i64 (↑(strLen s') + e') = ↑(strLen s') + e' := wrap_i64r (by unfold i64; omega)
    rw [hw]
    have hj : ∃ j : Nat, (↑(strLen s') + e' : Int) = j := ⟨(↑(strLen s') + e' : Int).toNat, by omega⟩
    obtain ⟨j, hj⟩ := hj
    rw [hj, Int.toNat_natCast]
    have c1 := strLen_cut s' 0 j
    have c2 := strLen_cut s' j (strLen s')
    repeat' (first | exact ⟨⟨_, rfl, by (try simp only [strLen_cat]); omega⟩, Nat.le_of_ble_eq_true (by kernel_rfl)⟩ | refine bsel_of (fun _ => ?_) (fun h => absurd (ble_false h) (by (try simp only [strLen_cat]); omega)) | refine bsel_of (fun _ => ?_) (fun h => absurd h (by simp; omega)) | refine bsel_of (fun _ => ?_) (fun _ => ?_))
  · repeat' (first | exact ⟨⟨_, rfl, by (try simp only [strLen_cat]); omega⟩, Nat.le_of_ble_eq_true (by kernel_rfl)⟩ | refine ⟨hrng, fun s hs => ?_⟩ | refine bsel_of (fun _ => ?_) (fun h => absurd (ble_false h) (by (try simp only [strLen_cat]); omega)) | refine bsel_of (fun _ => ?_) (fun _ => ?_))
  · repeat' (first | exact ⟨⟨_, rfl, by (try simp only [strLen_cat]); omega⟩, Nat.le_of_ble_eq_true (by kernel_rfl)⟩ | refine ⟨hrng, fun s hs => ?_⟩ | refine bsel_of (fun _ => ?_) (fun h => absurd (ble_false h) (by (try simp only [strLen_cat]); omega)) | refine bsel_of (fun _ => ?_) (fun _ => ?_))
theorem ntext_tot {base : World} (B : Begun base) (n : Bool) {a b e : Int} (h1 : u64 a) (h2 : u64 b) (h3 : i64 e) : ∃ s, strLen s ≤ 200 ∧ Tot base 48 [decC n a b e] (.string s) := by
  obtain ⟨_, ⟨s, rfl, hs⟩, ht⟩ := tot_ofE (base := base) (envW_ok (rulesNt_ok B)) (findL_ok rfl (loopsNt_ok rfl rfl base)) rfl (ntext_hk n a b e h1 h2 h3) (fun v ⟨_, hv, _⟩ => by subst hv; kernel_rfl) (pure1 (by kernel_rfl))
  exact ⟨s, hs, ht⟩
end Go.Proofs.YtdbjbmdaekgbhaaGreatDoor
