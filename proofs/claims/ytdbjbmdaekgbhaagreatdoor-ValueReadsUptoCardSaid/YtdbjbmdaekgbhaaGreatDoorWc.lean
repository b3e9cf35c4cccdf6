/-
  The number that a law makes.
-/
import Derived.Test.YtdbjbmdaekgbhaaGreatDoorWb
import Derived.Test.YtdbjbmdaekgbhaaGreatDoorEcA
namespace Go.Proofs.YtdbjbmdaekgbhaaGreatDoor
open Go Go.Pe Go.RowKit

theorem TotA.tot {base : World} {f : FuncId} {args : List Value} {v : Value} (h : TotA base f args v) : Tot base f args v := fun E hE hp _ n => h E hE hp n

theorem u64_lit {x : Nat} (h : Nat.blt x 18446744073709551616 = true) : u64 (Int.ofNat x) := by
  have h : x < 18446744073709551616 := by simpa [Nat.blt_eq] using h
  exact ⟨Int.natCast_nonneg x, by show (x : Int) < _; omega⟩

/-! The rules that stand so far, out of what is reckoned -/

theorem cmp_ok {base : World} : RuleOk Tryz.prog base 169 ruleCmp := ruleOkA fun args T K hT hK => by
  split at hT
  · rename_i h l p q
    cases hT
    obtain ⟨⟨h1, h2, h3, h4⟩, hK⟩ := hK
    obtain ⟨v, ⟨c, rfl, hc⟩, ht⟩ := totA_of (envW_ok (loops := []) (rules0_ok base)) (findL_ok (l := []) rfl fun _ h => nomatch h) rfl (cmp_hk h l p q h1 h2 h3 h4) (fun v ⟨_, hv, _⟩ => by subst hv; kernel_rfl)
      (List.forall_mem_cons.2 ⟨by kernel_rfl, List.forall_mem_cons.2 ⟨by kernel_rfl, fun _ h => nomatch h⟩⟩)
    exact ⟨_, hK c hc, ht⟩
  · cases hT

theorem wsub_ok {base : World} : RuleOk Tryz.prog base 171 ruleWSub := ruleOkA fun args T K hT hK => by
  split at hT
  · rename_i h l p q
    cases hT
    obtain ⟨⟨h1, h2, h3, h4⟩, hK⟩ := hK
    obtain ⟨v, ⟨x, y, c, rfl, hx, hy, hv⟩, ht⟩ := totA_of (envW_ok (loops := []) (rules0_ok base)) (findL_ok (l := []) rfl fun _ h => nomatch h) rfl (sub_hk h l p q h1 h2 h3 h4) (fun v ⟨_, _, _, hv, _⟩ => by subst hv; kernel_rfl)
      (List.forall_mem_cons.2 ⟨by kernel_rfl, List.forall_mem_cons.2 ⟨by kernel_rfl, fun _ h => nomatch h⟩⟩)
    exact ⟨_, hK x y c hx hy hv, ht⟩
  · cases hT

theorem shl_ok {base : World} : RuleOk Tryz.prog base 170 ruleShl := ruleOkA fun args T K hT hK => by
  split at hT
  · rename_i h l p q z
    cases hT
    obtain ⟨⟨rfl, h1, h2, h3, h4⟩, hK⟩ := hK
    obtain ⟨v, ⟨x, y, z, w, rfl, hx, hy, hz, hw, hp, hv⟩, ht⟩ := totA_of (envW_ok (loops := []) (rules0_ok base)) (findL_ok (l := []) rfl fun _ h => nomatch h) rfl (shl_hk h l p q h1 h2 h3 h4) (fun v ⟨_, _, _, _, hv, _⟩ => by subst hv; kernel_rfl)
      (List.forall_mem_cons.2 ⟨by kernel_rfl, List.forall_mem_cons.2 ⟨by kernel_rfl, List.forall_mem_cons.2 ⟨by kernel_rfl, fun _ h => nomatch h⟩⟩⟩)
    exact ⟨_, hK x y z w hx hy hz hw hp hv, ht⟩
  · cases hT

theorem rulesW1_ok (base : World) : ∀ x ∈ rulesW1, RuleOk Tryz.prog base x.1 x.2 :=
  List.forall_mem_cons.2 ⟨cmp_ok, List.forall_mem_cons.2 ⟨wsub_ok, List.forall_mem_cons.2 ⟨shl_ok, rules0_ok base⟩⟩⟩

theorem divT_ok {E : Env} (hP : E.P = Tryz.prog) (hW : E.weak = true) {base : World} : LoopOk E base divT := fun c s K ⟨e, f, h⟩ =>
  loopT_ok (E := envW rulesW1 []) hP hW (envW_ok (rulesW1_ok base)) (findL_ok (l := []) rfl fun _ h => nomatch h) (by kernel_rfl) (by kernel_rfl) (div_rounds e f) h

theorem loopsD_ok {E : Env} (hP : E.P = Tryz.prog) (hW : E.weak = true) (base : World) : ∀ x ∈ loopsD, LoopOk E base x.2 := List.forall_mem_cons.2 ⟨divT_ok hP hW, fun _ h => nomatch h⟩

/-- The division. -/
theorem div_tot {base : World} {a b c d e f : Int} (h1 : u64 a) (h2 : u64 b) (h3 : u64 c) (h4 : u64 d) (h5 : u64 e) (h6 : u64 f) : ∃ v, isDiv a b e f v ∧ TotA base 87 [wU a b, wU c d, wU e f] v := by
  refine totA_of (envW_ok (rulesW1_ok base)) (findL_ok rfl (loopsD_ok rfl rfl base)) rfl (div_hk a b c d e f h1 h2 h3 h4 h5 h6) (fun v hv => ?_) (List.forall_mem_cons.2 ⟨by kernel_rfl, List.forall_mem_cons.2 ⟨by kernel_rfl, List.forall_mem_cons.2 ⟨by kernel_rfl, fun _ h => nomatch h⟩⟩⟩)
  rcases hv with ⟨_, rfl⟩ | ⟨_, _, _, _, _, rfl, _⟩ <;> kernel_rfl

def ruleDiv : Rule := ruleA fun args => match args with
  | [.agg ⟨[.int .u64 a, .int .u64 b]⟩, .agg ⟨[.int .u64 c, .int .u64 d]⟩, .agg ⟨[.int .u64 e, .int .u64 f]⟩] => some fun K => (u64 a ∧ u64 b ∧ u64 c ∧ u64 d ∧ u64 e ∧ u64 f) ∧ (wV e f ≤ wV a b → K (.tuple #[wU 0 0, wU 0 0, .bool false])) ∧
      (wV a b < wV e f → ∀ x y z w, u64 x → u64 y → u64 z → u64 w → wV z w < wV e f → K (.tuple #[wU x y, wU z w, .bool true]))
  | _ => none
theorem div_ok {base : World} : RuleOk Tryz.prog base 87 ruleDiv := ruleOkA fun args T K hT hK => by
  split at hT
  · cases hT
    obtain ⟨⟨h1, h2, h3, h4, h5, h6⟩, k1, k2⟩ := hK
    obtain ⟨v, hv, ht⟩ := div_tot (base := base) h1 h2 h3 h4 h5 h6
    rcases hv with ⟨hv, rfl⟩ | ⟨hv, x, y, z, w, rfl, q1, q2, q3, q4, q5⟩
    · exact ⟨_, k1 hv, ht⟩
    · exact ⟨_, k2 hv x y z w q1 q2 q3 q4 q5, ht⟩
  · cases hT

/-! The number -/

def decOk (b : Bool) (h l e : Int) : Prop := u64 h ∧ u64 l ∧ wV h l < 10000000000000000000000000000000000 ∧ -6176 ≤ e ∧ e ≤ 6111 ∧ (b = true → wV h l ≠ 0)
def isYes (u : Value) : Prop := u = .bool true
theorem dmay_hk_tree (K : Value → Nat → Prop) (n : Bool) (h l e : Int) :
 funcK (envW ((172, rulePlain mostV) :: rulesW1) []) 30 89 [decC n h l e] [] Tryz.prog.globals.size (fun u _ _ mw => K u mw) =
 ((u64 h ∧ u64 l ∧ u64 (Int.ofNat 542101086242752) ∧ u64 (Int.ofNat 4003012203950112768)) ∧ ∀ (c : Int), c = Int.negSucc 0 ∧ wV h l < Int.ofNat 10000000000000000000000000000000000 ∨ c = Int.ofNat 0 ∧ wV h l = Int.ofNat 10000000000000000000000000000000000 ∨ c = Int.ofNat 1 ∧ Int.ofNat 10000000000000000000000000000000000 < wV h l → bsel (decide (c < (0 : Int))) (bsel (decide (e ≥ (-6176 : Int))) (bsel (decide (e ≤ (6111 : Int))) (bsel n (bsel (h == (0 : Int)) (bsel (l == (0 : Int)) (K (Value.bool false) 18446744073709551616) (K (Value.bool true) 18446744073709551616)) (K (Value.bool true) 18446744073709551616)) (K (Value.bool true) 18446744073709551616)) (K (Value.bool false) 18446744073709551616)) (K (Value.bool false) 18446744073709551616)) (K (Value.bool false) 18446744073709551616)) := by kernel_rfl
theorem dmay_hk (n : Bool) (h l e : Int) (hd : decOk n h l e) : ReckA (envW ((172, rulePlain mostV) :: rulesW1) []) 30 89 [decC n h l e] (isYes) := by
  constructor
  rw [dmay_hk_tree fun u mw => (isYes) u ∧ Tryz.prog.globals.size ≤ mw]
  obtain ⟨h1, h2, h3, h4, h5, h6⟩ := hd
  refine ⟨⟨h1, h2, u64_lit rfl, u64_lit rfl⟩, fun c hc => ?_⟩
  have hc : c = -1 ∧ wV h l < 10000000000000000000000000000000000 ∨ c = 0 ∧ wV h l = 10000000000000000000000000000000000 ∨ c = 1 ∧ 10000000000000000000000000000000000 < wV h l := hc
  unfold u64 at h1 h2
  unfold wV at *
  repeat' (refine bsel_of (fun _ => ?_) (fun _ => ?_))
  all_goals simp only [beq_iff_eq, beq_eq_false_iff_ne, ne_eq, decide_eq_true_eq, decide_eq_false_iff_not] at *
  all_goals first
    | exact ⟨rfl, Nat.le_of_ble_eq_true (by kernel_rfl)⟩
    | (exfalso; omega)
    | (exfalso; have := h6 (by assumption); omega)

theorem most_okA {base : World} : RuleOk Tryz.prog base 172 (rulePlain mostV) := most_ok base

theorem dmay_tot {base : World} {n : Bool} {h l e : Int} (hd : decOk n h l e) : TotA base 89 [decC n h l e] (.bool true) := by
  obtain ⟨v, hv, ht⟩ := totA_of (envW_ok (List.forall_mem_cons.2 ⟨most_okA, rulesW1_ok base⟩)) (findL_ok (l := []) rfl fun _ h => nomatch h) rfl (dmay_hk n h l e hd) (fun v hv => by rw [show v = .bool true from hv]; kernel_rfl) (List.forall_mem_cons.2 ⟨by kernel_rfl, fun _ h => nomatch h⟩)
  rw [show v = .bool true from hv] at ht
  exact ht

end Go.Proofs.YtdbjbmdaekgbhaaGreatDoor
