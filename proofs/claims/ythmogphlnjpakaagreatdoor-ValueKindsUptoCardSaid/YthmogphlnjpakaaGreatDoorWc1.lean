/-
  The number that a law makes.
  Words multiplied, added; a number of 256 bits by a word.
  How many digits a number of 256 bits has.
  Numbers cut and rounded: it comes to an end, with words.
  Numbers of 34 digits: a wide number fitted, products.
-/
import Derived.Test.YthmogphlnjpakaaGreatDoorWa1
import Derived.Test.YthmogphlnjpakaaGreatDoorEc1

namespace Go.Proofs.YthmogphlnjpakaaGreatDoor
open Go Go.Pe Go.RowKit
theorem TotA.tot {base : World} {f : FuncId} {args : List Value} {v : Value} (h : TotA base f args v) : Tot base f args v := fun E hE hp _ n => h E hE hp n
theorem u64_lit {x : Nat} (h : Nat.blt x 18446744073709551616 = true) : u64 (Int.ofNat x) := by
  have h : x < 18446744073709551616 := by simpa [Nat.blt_eq] using h
  exact ⟨Int.natCast_nonneg x, by show (x : Int) < _; omega⟩
/-! The rules that stand so far, out of what is reckoned -/
theorem cmp_ok {base : World} : RuleOk Tryz.prog base 218 ruleCmp := ruleOkA fun args T K hT hK => by
  split at hT
  · rename_i h l p q
    cases hT
    obtain ⟨⟨h1, h2, h3, h4⟩, hK⟩ := hK
    obtain ⟨v, ⟨c, rfl, hc⟩, ht⟩ := totA_of (envW_ok (loops := []) (rules0_ok base)) (findL_ok (l := []) rfl fun _ h => nomatch h) rfl (cmp_hk h l p q h1 h2 h3 h4) (fun v ⟨_, hv, _⟩ => by subst hv; kernel_rfl)
      (List.forall_mem_cons.2 ⟨by kernel_rfl, List.forall_mem_cons.2 ⟨by kernel_rfl, fun _ h => nomatch h⟩⟩)
    exact ⟨_, hK c hc, ht⟩
  · cases hT
theorem wsub_ok {base : World} : RuleOk Tryz.prog base 289 ruleWSub := ruleOkA fun args T K hT hK => by
  split at hT
  · rename_i h l p q
    cases hT
    obtain ⟨⟨h1, h2, h3, h4⟩, hK⟩ := hK
    obtain ⟨v, ⟨x, y, c, rfl, hx, hy, hv⟩, ht⟩ := totA_of (envW_ok (loops := []) (rules0_ok base)) (findL_ok (l := []) rfl fun _ h => nomatch h) rfl (sub_hk h l p q h1 h2 h3 h4) (fun v ⟨_, _, _, hv, _⟩ => by subst hv; kernel_rfl)
      (List.forall_mem_cons.2 ⟨by kernel_rfl, List.forall_mem_cons.2 ⟨by kernel_rfl, fun _ h => nomatch h⟩⟩)
    exact ⟨_, hK x y c hx hy hv, ht⟩
  · cases hT
theorem shl_ok {base : World} : RuleOk Tryz.prog base 288 ruleShl := ruleOkA fun args T K hT hK => by
  split at hT
  · rename_i h l p q z
    cases hT
    obtain ⟨⟨rfl, h1, h2, h3, h4⟩, hK⟩ := hK
    obtain ⟨v, ⟨x, y, z, w, rfl, hx, hy, hz, hw, hp, hv⟩, ht⟩ := totA_of (envW_ok (loops := []) (rules0_ok base)) (findL_ok (l := []) rfl fun _ h => nomatch h) rfl (shl_hk h l p q h1 h2 h3 h4) (fun v ⟨_, _, _, _, hv, _⟩ => by subst hv; kernel_rfl)
      (List.forall_mem_cons.2 ⟨by kernel_rfl, List.forall_mem_cons.2 ⟨by kernel_rfl, List.forall_mem_cons.2 ⟨by kernel_rfl, fun _ h => nomatch h⟩⟩⟩)
    exact ⟨_, hK x y z w hx hy hz hw hp hv, ht⟩
  · cases hT
theorem rulesW1_ok (base : World) : ∀ x ∈ rulesW1, RuleOk Tryz.prog base x.1 x.2 :=
  List.forall_mem_cons.2 ⟨cmp_ok, List.forall_mem_cons.2 ⟨wsub_ok, List.forall_mem_cons.2 ⟨shl_ok, rules0_ok base⟩⟩⟩
theorem divT_ok {E : Env} (hP : E.P = Tryz.prog) (hW : E.weak = true) {base : World} : LoopOk E base divT := fun c s K ⟨e, f, h⟩ =>
  loopT_ok (E := envW rulesW1 []) hP hW (envW_ok (rulesW1_ok base)) (findL_ok (l := []) rfl fun _ h => nomatch h) (by kernel_rfl) (by kernel_rfl) (div_rounds e f) h
theorem loopsD_ok {E : Env} (hP : E.P = Tryz.prog) (hW : E.weak = true) (base : World) : ∀ x ∈ loopsD, LoopOk E base x.2 := List.forall_mem_cons.2 ⟨divT_ok hP hW, fun _ h => nomatch h⟩
theorem div_tot {base : World} {a b c d e f : Int} (h1 : u64 a) (h2 : u64 b) (h3 : u64 c) (h4 : u64 d) (h5 : u64 e) (h6 : u64 f) : ∃ v, isDiv a b e f v ∧ TotA base 266 [wU a b, wU c d, wU e f] v := by
  refine totA_of (envW_ok (rulesW1_ok base)) (findL_ok rfl (loopsD_ok rfl rfl base)) rfl (div_hk a b c d e f h1 h2 h3 h4 h5 h6) (fun v hv => ?_) (List.forall_mem_cons.2 ⟨by kernel_rfl, List.forall_mem_cons.2 ⟨by kernel_rfl, List.forall_mem_cons.2 ⟨by kernel_rfl, fun _ h => nomatch h⟩⟩⟩)
  rcases hv with ⟨_, rfl⟩ | ⟨_, _, _, _, _, rfl, _⟩ <;> kernel_rfl
def ruleDiv : Rule := ruleA fun args => match args with
  | [.agg ⟨[.int .u64 a, .int .u64 b]⟩, .agg ⟨[.int .u64 c, .int .u64 d]⟩, .agg ⟨[.int .u64 e, .int .u64 f]⟩] => some fun K => (u64 a ∧ u64 b ∧ u64 c ∧ u64 d ∧ u64 e ∧ u64 f) ∧ (wV e f ≤ wV a b → K (.tuple #[wU 0 0, wU 0 0, .bool false])) ∧
      (wV a b < wV e f → ∀ x y z w, u64 x → u64 y → u64 z → u64 w → wV z w < wV e f → K (.tuple #[wU x y, wU z w, .bool true]))
  | _ => none
theorem div_ok {base : World} : RuleOk Tryz.prog base 266 ruleDiv := ruleOkA fun args T K hT hK => by
  split at hT
  · cases hT
    obtain ⟨⟨h1, h2, h3, h4, h5, h6⟩, k1, k2⟩ := hK
    obtain ⟨v, hv, ht⟩ := div_tot (base := base) h1 h2 h3 h4 h5 h6
    rcases hv with ⟨hv, rfl⟩ | ⟨hv, x, y, z, w, rfl, q1, q2, q3, q4, q5⟩
    · exact ⟨_, k1 hv, ht⟩
    · exact ⟨_, k2 hv x y z w q1 q2 q3 q4 q5, ht⟩
  · cases hT
/-! The number -/
def decOk (b : Bool) (h l e : Int) : Prop := u64 h ∧ u64 l ∧ wV h l < 10000000000000000000000000000000000 ∧ -6176 ≤ e ∧ e ≤ 6111 ∧ (b = true → wV h l ≠ 0)
def isYes (u : Value) : Prop := u = .bool true
theorem dmay_hk_tree (K : Value → Nat → Prop) (n : Bool) (h l e : Int) :
 funcK (envW ((219, rulePlain mostV) :: rulesW1) []) 30 158 [decC n h l e] [] Tryz.prog.globals.size (fun u _ _ mw => K u mw) =
 ((u64 h ∧ u64 l ∧ u64 (Int.ofNat 542101086242752) ∧ u64 (Int.ofNat 4003012203950112768)) ∧ ∀ (c : Int), c = Int.negSucc 0 ∧ wV h l < Int.ofNat 10000000000000000000000000000000000 ∨ c = Int.ofNat 0 ∧ wV h l = Int.ofNat 10000000000000000000000000000000000 ∨ c = Int.ofNat 1 ∧ Int.ofNat 10000000000000000000000000000000000 < wV h l → bsel (decide (c < (0 : Int))) (bsel (decide (e ≥ (-6176 : Int))) (bsel (decide (e ≤ (6111 : Int))) (bsel n (bsel (h == (0 : Int)) (bsel (l == (0 : Int)) (K (.bool false) 18446744073709551616) (K (.bool true) 18446744073709551616)) (K (.bool true) 18446744073709551616)) (K (.bool true) 18446744073709551616)) (K (.bool false) 18446744073709551616)) (K (.bool false) 18446744073709551616)) (K (.bool false) 18446744073709551616)) := by kernel_rfl
theorem dmay_hk (n : Bool) (h l e : Int) (hd : decOk n h l e) : ReckA (envW ((219, rulePlain mostV) :: rulesW1) []) 30 158 [decC n h l e] (isYes) := by
  constructor
  rw [dmay_hk_tree fun u mw => (isYes) u ∧ Tryz.prog.globals.size ≤ mw]
  obtain ⟨h1, h2, h3, h4, h5, h6⟩ := hd
  refine ⟨⟨h1, h2, u64_lit rfl, u64_lit rfl⟩, fun c hc => ?_⟩
  have hc : c = -1 ∧ wV h l < 10000000000000000000000000000000000 ∨ c = 0 ∧ wV h l = 10000000000000000000000000000000000 ∨ c = 1 ∧ 10000000000000000000000000000000000 < wV h l := hc
  unfold u64 at h1 h2
  unfold wV at *
  repeat' (refine bsel_of (fun _ => ?_) (fun _ => ?_))
  all_goals simp only [beq_iff_eq, beq_eq_false_iff_ne, ne_eq, decide_eq_true_eq, decide_eq_false_iff_not] at *
  all_goals first
    | exact ⟨rfl, Nat.le_of_ble_eq_true (by kernel_rfl)⟩
    | (exfalso; omega)
    | (exfalso; have := h6 (by assumption); omega)
theorem most_okA {base : World} : RuleOk Tryz.prog base 219 (rulePlain mostV) := most_ok base
theorem dmay_tot {base : World} {n : Bool} {h l e : Int} (hd : decOk n h l e) : TotA base 158 [decC n h l e] (.bool true) := by
  obtain ⟨v, hv, ht⟩ := totA_of (envW_ok (List.forall_mem_cons.2 ⟨most_okA, rulesW1_ok base⟩)) (findL_ok (l := []) rfl fun _ h => nomatch h) rfl (dmay_hk n h l e hd) (fun v hv => by rw [show v = .bool true from hv]; kernel_rfl) (List.forall_mem_cons.2 ⟨by kernel_rfl, fun _ h => nomatch h⟩)
  rw [show v = .bool true from hv] at ht
  exact ht
end Go.Proofs.YthmogphlnjpakaaGreatDoor

namespace Go.Proofs.YthmogphlnjpakaaGreatDoor
open Go Go.Pe Go.RowKit
def rulesWE : List (Nat × Rule) := (259, ruleMul64) :: (236, ruleDiv64) :: rules0
theorem rulesWE_ok (base : World) : ∀ x ∈ rulesWE, RuleOk Tryz.prog base x.1 x.2 := List.forall_mem_cons.2 ⟨mul64_ok, List.forall_mem_cons.2 ⟨div64_ok, rules0_ok base⟩⟩
noncomputable def envK (k : Nat) (rules : List (Nat × Rule)) (loops : List ((Nat × Nat) × LoopW)) : Env :=
  { P := Tryz.prog, isBool := bools, oracle := findR rules, eqAgg := eqA (env []) tEqs, loops := k, loopP := findL loops, guess := fun _ _ => none, strF := strAt, weak := true }
theorem envK_ok {k : Nat} {rules : List (Nat × Rule)} {loops : List ((Nat × Nat) × LoopW)} {base : World} (hr : ∀ x ∈ rules, RuleOk Tryz.prog base x.1 x.2) : EnvOk (envK k rules loops) base :=
  envOk_of (E := envK k rules loops) rfl rfl mixed_ok plain_ok hr fun t a b r h μ κ w => eqA_sound (E := env []) tEqs_ok t a b r h μ κ w
theorem u64_wrap (x : Int) : u64 (IntKind.wrap .u64 x) := by
  rw [wrap_u64']
  unfold u64
  omega
theorem u64_mod (x : Int) : u64 (x % 18446744073709551616) := by
  unfold u64
  omega
def wW (a b c d : Int) : Int := wV a b * 340282366920938463463374607431768211456 + wV c d
def isAdd (u : Value) : Prop := ∃ x y z, u = .tuple #[wU x y, w64 z] ∧ u64 x ∧ u64 y ∧ u64 z
def isMulWord (u : Value) : Prop := ∃ x y z, u = .tuple #[w64 x, wU y z] ∧ u64 x ∧ u64 y ∧ u64 z
def isMul (u : Value) : Prop := ∃ x y z w, u = .tuple #[wU x y, wU z w] ∧ u64 x ∧ u64 y ∧ u64 z ∧ u64 w
def isAdd2 (u : Value) : Prop := ∃ x y z w c, u = .tuple #[wU x y, wU z w, w64 c] ∧ u64 x ∧ u64 y ∧ u64 z ∧ u64 w ∧ u64 c
def isDW (a b c d x : Int) (u : Value) : Prop := ∃ e f g h r, u = .tuple #[wU e f, wU g h, w64 r, .bool true] ∧ u64 e ∧ u64 f ∧ u64 g ∧ u64 h ∧ u64 r ∧ r < x ∧ wW e f g h * x + r = wW a b c d
theorem dw_sum {q q1 q2 q3 r r1 r2 r3 a b c d x : Int} (e1 : q * x + r = a) (e2 : q1 * x + r1 = r * 18446744073709551616 + b) (e3 : q2 * x + r2 = r1 * 18446744073709551616 + c) (e4 : q3 * x + r3 = r2 * 18446744073709551616 + d) :
    wW q q1 q2 q3 * x + r3 = wW a b c d := by
  have h1 : q * 18446744073709551616 * x = q * x * 18446744073709551616 := Int.mul_right_comm _ _ _
  have h2 : q2 * 18446744073709551616 * x = q2 * x * 18446744073709551616 := Int.mul_right_comm _ _ _
  have h3 : (q * 18446744073709551616 + q1) * 340282366920938463463374607431768211456 * x = (q * 18446744073709551616 + q1) * x * 340282366920938463463374607431768211456 := Int.mul_right_comm _ _ _
  unfold wW wV
  rw [Int.add_mul, h3, Int.add_mul, Int.add_mul, Int.add_mul, h1, h2]
  omega
theorem add_hk_tree (K : Value → Nat → Prop) (a b c d : Int) :
 funcK (envK 6 rulesWE []) 30 255 [wU a b, wU c d] [] Tryz.prog.globals.size (fun u _ _ mw => K u mw) =
 (bsel (decide ((0 : Int) ≤ b) && decide ((0 : Int) ≤ d) && decide ((0 : Int) ≤ (0 : Int)) && decide ((0 : Int) ≤ (1 : Int))) (bsel (decide ((0 : Int) ≤ a) && decide ((0 : Int) ≤ c) && decide ((0 : Int) ≤ (b + d + (0 : Int)) / (18446744073709551616 : Int)) && decide ((b + d + (0 : Int)) / (18446744073709551616 : Int) ≤ (1 : Int))) (K (.tuple (Array.mk [.agg (Array.mk [.int .u64 ((a + c + (b + d + (0 : Int)) / (18446744073709551616 : Int)) % (18446744073709551616 : Int)), .int .u64 ((b + d + (0 : Int)) % (18446744073709551616 : Int))]), .int .u64 ((a + c + (b + d + (0 : Int)) / (18446744073709551616 : Int)) / (18446744073709551616 : Int))])) 12) False) False) := by kernel_rfl
theorem add_hk (a b c d : Int) (h1 : u64 a) (h2 : u64 b) (h3 : u64 c) (h4 : u64 d) : ReckA (envK 6 rulesWE []) 30 255 [wU a b, wU c d] (isAdd) := by
  constructor
  rw [add_hk_tree fun u mw => (isAdd) u ∧ Tryz.prog.globals.size ≤ mw]
  refine bsel_of (fun _ => bsel_of (fun _ => ⟨⟨_, _, _, rfl, u64_mod _, u64_mod _, by unfold u64 at *; omega⟩, Nat.le_of_ble_eq_true (by kernel_rfl)⟩) (fun hn => by simp only [Bool.and_eq_false_iff, decide_eq_false_iff_not, wrap_u64'] at hn; unfold u64 at *; omega)) (fun hn => by simp only [Bool.and_eq_false_iff, decide_eq_false_iff_not, wrap_u64'] at hn; unfold u64 at *; omega)
theorem mulw_hk_tree (K : Value → Nat → Prop) (a b x : Int) :
 funcK (envK 6 rulesWE []) 30 220 [wU a b, w64 x] [] Tryz.prog.globals.size (fun u _ _ mw => K u mw) =
 ((u64 b ∧ u64 x) ∧ ∀ (h l : Int), u64 h → u64 l → (u64 a ∧ u64 x) ∧ ∀ (h_1 l_1 : Int), u64 h_1 → u64 l_1 → bsel (decide ((0 : Int) ≤ l_1) && decide ((0 : Int) ≤ h) && decide ((0 : Int) ≤ (0 : Int)) && decide ((0 : Int) ≤ (1 : Int))) (K (.tuple (Array.mk [.int .u64 (IntKind.wrap .u64 (h_1 + (l_1 + h + (0 : Int)) / (18446744073709551616 : Int))), .agg (Array.mk [.int .u64 ((l_1 + h + (0 : Int)) % (18446744073709551616 : Int)), .int .u64 l])])) 11) False) := by kernel_rfl
theorem mulw_hk (a b x : Int) (h1 : u64 a) (h2 : u64 b) (h3 : u64 x) : ReckA (envK 6 rulesWE []) 30 220 [wU a b, w64 x] (isMulWord) := by
  constructor
  rw [mulw_hk_tree fun u mw => (isMulWord) u ∧ Tryz.prog.globals.size ≤ mw]
  refine ⟨⟨h2, h3⟩, fun h l hh hl => ⟨⟨h1, h3⟩, fun h' l' hh' hl' => bsel_of (fun _ => ⟨⟨_, _, _, rfl, u64_wrap _, u64_mod _, hl⟩, Nat.le_of_ble_eq_true (by kernel_rfl)⟩) (fun hn => by simp only [Bool.and_eq_false_iff, decide_eq_false_iff_not, wrap_u64'] at hn; unfold u64 at *; omega)⟩⟩
theorem mul_hk_tree (K : Value → Nat → Prop) (a b c d : Int) :
 funcK (envK 6 rulesWE []) 30 262 [wU a b, wU c d] [] Tryz.prog.globals.size (fun u _ _ mw => K u mw) =
 ((u64 b ∧ u64 d) ∧ ∀ (h l : Int), u64 h → u64 l → (u64 a ∧ u64 d) ∧ ∀ (h_1 l_1 : Int), u64 h_1 → u64 l_1 → bsel (decide ((0 : Int) ≤ l_1) && decide ((0 : Int) ≤ h) && decide ((0 : Int) ≤ (0 : Int)) && decide ((0 : Int) ≤ (1 : Int))) ((u64 b ∧ u64 c) ∧ ∀ (h_2 l_2 : Int), u64 h_2 → u64 l_2 → (u64 a ∧ u64 c) ∧ ∀ (h_3 l_3 : Int), u64 h_3 → u64 l_3 → bsel (decide ((0 : Int) ≤ l_3) && decide ((0 : Int) ≤ h_2) && decide ((0 : Int) ≤ (0 : Int)) && decide ((0 : Int) ≤ (1 : Int))) (bsel (decide ((0 : Int) ≤ (l_1 + h + (0 : Int)) % (18446744073709551616 : Int)) && decide ((0 : Int) ≤ l_2) && decide ((0 : Int) ≤ (0 : Int)) && decide ((0 : Int) ≤ (1 : Int))) (bsel (decide ((0 : Int) ≤ IntKind.wrap .u64 (h_1 + (l_1 + h + (0 : Int)) / (18446744073709551616 : Int))) && decide ((0 : Int) ≤ (l_3 + h_2 + (0 : Int)) % (18446744073709551616 : Int)) && decide ((0 : Int) ≤ ((l_1 + h + (0 : Int)) % (18446744073709551616 : Int) + l_2 + (0 : Int)) / (18446744073709551616 : Int)) && decide (((l_1 + h + (0 : Int)) % (18446744073709551616 : Int) + l_2 + (0 : Int)) / (18446744073709551616 : Int) ≤ (1 : Int))) (K (.tuple (Array.mk [.agg (Array.mk [.int .u64 (IntKind.wrap .u64 (IntKind.wrap .u64 (h_3 + (l_3 + h_2 + (0 : Int)) / (18446744073709551616 : Int)) + (IntKind.wrap .u64 (h_1 + (l_1 + h + (0 : Int)) / (18446744073709551616 : Int)) + (l_3 + h_2 + (0 : Int)) % (18446744073709551616 : Int) + ((l_1 + h + (0 : Int)) % (18446744073709551616 : Int) + l_2 + (0 : Int)) / (18446744073709551616 : Int)) / (18446744073709551616 : Int))), .int .u64 ((IntKind.wrap .u64 (h_1 + (l_1 + h + (0 : Int)) / (18446744073709551616 : Int)) + (l_3 + h_2 + (0 : Int)) % (18446744073709551616 : Int) + ((l_1 + h + (0 : Int)) % (18446744073709551616 : Int) + l_2 + (0 : Int)) / (18446744073709551616 : Int)) % (18446744073709551616 : Int))]), .agg (Array.mk [.int .u64 (((l_1 + h + (0 : Int)) % (18446744073709551616 : Int) + l_2 + (0 : Int)) % (18446744073709551616 : Int)), .int .u64 l])])) 12) False) False) False) False) := by kernel_rfl
theorem mul_hk (a b c d : Int) (h1 : u64 a) (h2 : u64 b) (h3 : u64 c) (h4 : u64 d) : ReckA (envK 6 rulesWE []) 30 262 [wU a b, wU c d] (isMul) := by
  constructor
  rw [mul_hk_tree fun u mw => (isMul) u ∧ Tryz.prog.globals.size ≤ mw]
  refine ⟨⟨h2, h4⟩, fun h l hh hl => ⟨⟨h1, h4⟩, fun h' l' hh' hl' => bsel_of (fun _ => ⟨⟨h2, h3⟩, fun h5 l5 hh5 hl5 => ⟨⟨h1, h3⟩, fun h6 l6 hh6 hl6 => bsel_of (fun _ => bsel_of (fun _ => bsel_of (fun _ => ⟨⟨_, _, _, _, rfl, u64_wrap _, u64_mod _, u64_mod _, hl⟩, Nat.le_of_ble_eq_true (by kernel_rfl)⟩) (fun hn => by simp only [Bool.and_eq_false_iff, decide_eq_false_iff_not, wrap_u64'] at hn; unfold u64 at *; omega)) (fun hn => by simp only [Bool.and_eq_false_iff, decide_eq_false_iff_not, wrap_u64'] at hn; unfold u64 at *; omega)) (fun hn => by simp only [Bool.and_eq_false_iff, decide_eq_false_iff_not, wrap_u64'] at hn; unfold u64 at *; omega)⟩⟩) (fun hn => by simp only [Bool.and_eq_false_iff, decide_eq_false_iff_not, wrap_u64'] at hn; unfold u64 at *; omega)⟩⟩
theorem add2_hk_tree (K : Value → Nat → Prop) (a b c d e f g h : Int) :
 funcK (envK 6 rulesWE []) 30 286 [wU a b, wU c d, wU e f, wU g h] [] Tryz.prog.globals.size (fun u _ _ mw => K u mw) =
 (bsel (decide ((0 : Int) ≤ d) && decide ((0 : Int) ≤ h) && decide ((0 : Int) ≤ (0 : Int)) && decide ((0 : Int) ≤ (1 : Int))) (bsel (decide ((0 : Int) ≤ c) && decide ((0 : Int) ≤ g) && decide ((0 : Int) ≤ (d + h + (0 : Int)) / (18446744073709551616 : Int)) && decide ((d + h + (0 : Int)) / (18446744073709551616 : Int) ≤ (1 : Int))) (bsel (decide ((0 : Int) ≤ b) && decide ((0 : Int) ≤ f) && decide ((0 : Int) ≤ (0 : Int)) && decide ((0 : Int) ≤ (1 : Int))) (bsel (decide ((0 : Int) ≤ a) && decide ((0 : Int) ≤ e) && decide ((0 : Int) ≤ (b + f + (0 : Int)) / (18446744073709551616 : Int)) && decide ((b + f + (0 : Int)) / (18446744073709551616 : Int) ≤ (1 : Int))) (bsel (decide ((0 : Int) ≤ (b + f + (0 : Int)) % (18446744073709551616 : Int)) && decide ((0 : Int) ≤ (c + g + (d + h + (0 : Int)) / (18446744073709551616 : Int)) / (18446744073709551616 : Int)) && decide ((0 : Int) ≤ (0 : Int)) && decide ((0 : Int) ≤ (1 : Int))) (bsel (decide ((0 : Int) ≤ (a + e + (b + f + (0 : Int)) / (18446744073709551616 : Int)) % (18446744073709551616 : Int)) && decide ((0 : Int) ≤ (0 : Int)) && decide ((0 : Int) ≤ ((b + f + (0 : Int)) % (18446744073709551616 : Int) + (c + g + (d + h + (0 : Int)) / (18446744073709551616 : Int)) / (18446744073709551616 : Int) + (0 : Int)) / (18446744073709551616 : Int)) && decide (((b + f + (0 : Int)) % (18446744073709551616 : Int) + (c + g + (d + h + (0 : Int)) / (18446744073709551616 : Int)) / (18446744073709551616 : Int) + (0 : Int)) / (18446744073709551616 : Int) ≤ (1 : Int))) (K (.tuple (Array.mk [.agg (Array.mk [.int .u64 (((a + e + (b + f + (0 : Int)) / (18446744073709551616 : Int)) % (18446744073709551616 : Int) + (0 : Int) + ((b + f + (0 : Int)) % (18446744073709551616 : Int) + (c + g + (d + h + (0 : Int)) / (18446744073709551616 : Int)) / (18446744073709551616 : Int) + (0 : Int)) / (18446744073709551616 : Int)) % (18446744073709551616 : Int)), .int .u64 (((b + f + (0 : Int)) % (18446744073709551616 : Int) + (c + g + (d + h + (0 : Int)) / (18446744073709551616 : Int)) / (18446744073709551616 : Int) + (0 : Int)) % (18446744073709551616 : Int))]), .agg (Array.mk [.int .u64 ((c + g + (d + h + (0 : Int)) / (18446744073709551616 : Int)) % (18446744073709551616 : Int)), .int .u64 ((d + h + (0 : Int)) % (18446744073709551616 : Int))]), .int .u64 (IntKind.wrap .u64 ((a + e + (b + f + (0 : Int)) / (18446744073709551616 : Int)) / (18446744073709551616 : Int) + ((a + e + (b + f + (0 : Int)) / (18446744073709551616 : Int)) % (18446744073709551616 : Int) + (0 : Int) + ((b + f + (0 : Int)) % (18446744073709551616 : Int) + (c + g + (d + h + (0 : Int)) / (18446744073709551616 : Int)) / (18446744073709551616 : Int) + (0 : Int)) / (18446744073709551616 : Int)) / (18446744073709551616 : Int)))])) 14) False) False) False) False) False) False) := by kernel_rfl
theorem add2_hk (a b c d e f g h : Int) (h1 : u64 a) (h2 : u64 b) (h3 : u64 c) (h4 : u64 d) (h5 : u64 e) (h6 : u64 f) (h7 : u64 g) (h8 : u64 h) : ReckA (envK 6 rulesWE []) 30 286 [wU a b, wU c d, wU e f, wU g h] (isAdd2) := by
  constructor
  rw [add2_hk_tree fun u mw => (isAdd2) u ∧ Tryz.prog.globals.size ≤ mw]
  refine bsel_of (fun _ => bsel_of (fun _ => bsel_of (fun _ => bsel_of (fun _ => bsel_of (fun _ => bsel_of (fun _ => ⟨⟨_, _, _, _, _, rfl, u64_mod _, u64_mod _, u64_mod _, u64_mod _, u64_wrap _⟩, Nat.le_of_ble_eq_true (by kernel_rfl)⟩) (fun hn => by simp only [Bool.and_eq_false_iff, decide_eq_false_iff_not, wrap_u64'] at hn; unfold u64 at *; omega)) (fun hn => by simp only [Bool.and_eq_false_iff, decide_eq_false_iff_not, wrap_u64'] at hn; unfold u64 at *; omega)) (fun hn => by simp only [Bool.and_eq_false_iff, decide_eq_false_iff_not, wrap_u64'] at hn; unfold u64 at *; omega)) (fun hn => by simp only [Bool.and_eq_false_iff, decide_eq_false_iff_not, wrap_u64'] at hn; unfold u64 at *; omega)) (fun hn => by simp only [Bool.and_eq_false_iff, decide_eq_false_iff_not, wrap_u64'] at hn; unfold u64 at *; omega)) (fun hn => by simp only [Bool.and_eq_false_iff, decide_eq_false_iff_not, wrap_u64'] at hn; unfold u64 at *; omega)
theorem dw_hk_tree (K : Value → Nat → Prop) (a b c d x : Int) :
 funcK (envK 6 rulesWE []) 30 203 [wU a b, wU c d, w64 x] [] Tryz.prog.globals.size (fun u _ _ mw => K u mw) =
 (bsel (x == (0 : Int)) (K (.tuple (Array.mk [.agg (Array.mk [.int .u64 (Int.ofNat 0), .int .u64 (Int.ofNat 0)]), .agg (Array.mk [.int .u64 (Int.ofNat 0), .int .u64 (Int.ofNat 0)]), .int .u64 (Int.ofNat 0), .bool false])) 12) ((u64 (Int.ofNat 0) ∧ u64 a ∧ u64 x ∧ Int.ofNat 0 < x) ∧ ∀ (q r : Int), u64 q → Int.ofNat 0 ≤ r → r < x → q * x + r = Int.ofNat 0 + a → (u64 r ∧ u64 b ∧ u64 x ∧ r < x) ∧ ∀ (q_1 r_1 : Int), u64 q_1 → Int.ofNat 0 ≤ r_1 → r_1 < x → q_1 * x + r_1 = r * Int.ofNat 18446744073709551616 + b → (u64 r_1 ∧ u64 c ∧ u64 x ∧ r_1 < x) ∧ ∀ (q_2 r : Int), u64 q_2 → Int.ofNat 0 ≤ r → r < x → q_2 * x + r = r_1 * Int.ofNat 18446744073709551616 + c → (u64 r ∧ u64 d ∧ u64 x ∧ r < x) ∧ ∀ (q_3 r_2 : Int), u64 q_3 → Int.ofNat 0 ≤ r_2 → r_2 < x → q_3 * x + r_2 = r * Int.ofNat 18446744073709551616 + d → K (.tuple (Array.mk [.agg (Array.mk [.int .u64 q, .int .u64 q_1]), .agg (Array.mk [.int .u64 q_2, .int .u64 q_3]), .int .u64 r_2, .bool true])) 12)) := by kernel_rfl
theorem dw_hk (a b c d x : Int) (h1 : u64 a) (h2 : u64 b) (h3 : u64 c) (h4 : u64 d) (h5 : u64 x) (h0 : 0 < x) : ReckA (envK 6 rulesWE []) 30 203 [wU a b, wU c d, w64 x] (isDW a b c d x) := by
  constructor
  rw [dw_hk_tree fun u mw => (isDW a b c d x) u ∧ Tryz.prog.globals.size ≤ mw]
  have ur : ∀ r : Int, 0 ≤ r → r < x → u64 r := fun r k0 k1 => by unfold u64 at *; omega
  refine bsel_of (fun hx => absurd (eq_of_beq hx) (by omega)) (fun _ => ⟨⟨by unfold u64; decide, h1, h5, h0⟩, fun q r k1 k2 k3 e1 => ⟨⟨ur r k2 k3, h2, h5, k3⟩, fun q' r' k1' k2' k3' e2 => ⟨⟨ur r' k2' k3', h3, h5, k3'⟩, fun p s k4 k5 k6 e3 => ⟨⟨ur s k5 k6, h4, h5, k6⟩, fun p' s' k4' k5' k6' e4 => ?_⟩⟩⟩⟩)
  exact ⟨⟨_, _, _, _, _, rfl, k1, k1', k4, k4', ur s' k5' k6', k6', dw_sum (e1.trans (Int.zero_add _)) e2 e3 e4⟩, Nat.le_of_ble_eq_true (by kernel_rfl)⟩
def isZero (a b : Int) (u : Value) : Prop := u = .bool (a == 0 && b == 0)
theorem zero_hk_tree (K : Value → Nat → Prop) (a b : Int) :
 funcK (envK 6 rulesWE []) 30 202 [wU a b] [] Tryz.prog.globals.size (fun u _ _ mw => K u mw) =
 (bsel (a == (0 : Int)) (bsel (b == (0 : Int)) (K (.bool true) 18446744073709551616) (K (.bool false) 18446744073709551616)) (K (.bool false) 18446744073709551616)) := by kernel_rfl
theorem zero_hk (a b : Int) (h1 : u64 a) (h2 : u64 b) : ReckA (envK 6 rulesWE []) 30 202 [wU a b] (isZero a b) := by
  constructor
  rw [zero_hk_tree fun u mw => (isZero a b) u ∧ Tryz.prog.globals.size ≤ mw]
  refine bsel_of (fun h => bsel_of (fun h' => ⟨by unfold isZero; rw [h, h']; rfl, Nat.le_of_ble_eq_true (by kernel_rfl)⟩) (fun h' => ⟨by unfold isZero; rw [h, h']; rfl, Nat.le_of_ble_eq_true (by kernel_rfl)⟩)) (fun h => ⟨by unfold isZero; rw [h]; rfl, Nat.le_of_ble_eq_true (by kernel_rfl)⟩)
theorem wide_tot {base : World} {f : FuncId} {args : List Value} {S : Value → Prop} (hk : ReckA (envK 6 rulesWE []) 30 f args S) (hp : ∀ v, S v → pureV 6 v = true) (ha : ∀ x ∈ args, pureV 6 x = true) : ∃ v, S v ∧ TotA base f args v :=
  totA_of (envK_ok (rulesWE_ok base)) (findL_ok (l := []) rfl fun _ h => nomatch h) rfl hk hp ha
def ruleAdd : Rule := ruleA fun args => match args with
  | [.agg ⟨[.int .u64 a, .int .u64 b]⟩, .agg ⟨[.int .u64 c, .int .u64 d]⟩] => some fun K => (u64 a ∧ u64 b ∧ u64 c ∧ u64 d) ∧ ∀ x y z, u64 x → u64 y → u64 z → K (.tuple #[wU x y, w64 z])
  | _ => none
theorem add_ok {base : World} : RuleOk Tryz.prog base 255 ruleAdd := ruleOkA fun args T K hT hK => by
  split at hT
  · cases hT
    obtain ⟨⟨h1, h2, h3, h4⟩, hK⟩ := hK
    obtain ⟨v, ⟨x, y, z, rfl, k1, k2, k3⟩, ht⟩ := wide_tot (base := base) (add_hk _ _ _ _ h1 h2 h3 h4) (fun v ⟨_, _, _, hv, _⟩ => by subst hv; kernel_rfl) (List.forall_mem_cons.2 ⟨by kernel_rfl, List.forall_mem_cons.2 ⟨by kernel_rfl, fun _ h => nomatch h⟩⟩)
    exact ⟨_, hK x y z k1 k2 k3, ht⟩
  · cases hT
def ruleMulW : Rule := ruleA fun args => match args with
  | [.agg ⟨[.int .u64 a, .int .u64 b]⟩, .int .u64 x] => some fun K => (u64 a ∧ u64 b ∧ u64 x) ∧ ∀ x y z, u64 x → u64 y → u64 z → K (.tuple #[w64 x, wU y z])
  | _ => none
theorem mulw_ok {base : World} : RuleOk Tryz.prog base 220 ruleMulW := ruleOkA fun args T K hT hK => by
  split at hT
  · cases hT
    obtain ⟨⟨h1, h2, h3⟩, hK⟩ := hK
    obtain ⟨v, ⟨x, y, z, rfl, k1, k2, k3⟩, ht⟩ := wide_tot (base := base) (mulw_hk _ _ _ h1 h2 h3) (fun v ⟨_, _, _, hv, _⟩ => by subst hv; kernel_rfl) (List.forall_mem_cons.2 ⟨by kernel_rfl, List.forall_mem_cons.2 ⟨by kernel_rfl, fun _ h => nomatch h⟩⟩)
    exact ⟨_, hK x y z k1 k2 k3, ht⟩
  · cases hT
def ruleMul : Rule := ruleA fun args => match args with
  | [.agg ⟨[.int .u64 a, .int .u64 b]⟩, .agg ⟨[.int .u64 c, .int .u64 d]⟩] => some fun K => (u64 a ∧ u64 b ∧ u64 c ∧ u64 d) ∧ ∀ x y z w, u64 x → u64 y → u64 z → u64 w → K (.tuple #[wU x y, wU z w])
  | _ => none
theorem mul_ok {base : World} : RuleOk Tryz.prog base 262 ruleMul := ruleOkA fun args T K hT hK => by
  split at hT
  · cases hT
    obtain ⟨⟨h1, h2, h3, h4⟩, hK⟩ := hK
    obtain ⟨v, ⟨x, y, z, w, rfl, k1, k2, k3, k4⟩, ht⟩ := wide_tot (base := base) (mul_hk _ _ _ _ h1 h2 h3 h4) (fun v ⟨_, _, _, _, hv, _⟩ => by subst hv; kernel_rfl) (List.forall_mem_cons.2 ⟨by kernel_rfl, List.forall_mem_cons.2 ⟨by kernel_rfl, fun _ h => nomatch h⟩⟩)
    exact ⟨_, hK x y z w k1 k2 k3 k4, ht⟩
  · cases hT
def ruleAdd2 : Rule := ruleA fun args => match args with
  | [.agg ⟨[.int .u64 a, .int .u64 b]⟩, .agg ⟨[.int .u64 c, .int .u64 d]⟩, .agg ⟨[.int .u64 e, .int .u64 f]⟩, .agg ⟨[.int .u64 g, .int .u64 h]⟩] => some fun K => (u64 a ∧ u64 b ∧ u64 c ∧ u64 d ∧ u64 e ∧ u64 f ∧ u64 g ∧ u64 h) ∧ ∀ x y z w o, u64 x → u64 y → u64 z → u64 w → u64 o → K (.tuple #[wU x y, wU z w, w64 o])
  | _ => none
theorem add2_ok {base : World} : RuleOk Tryz.prog base 286 ruleAdd2 := ruleOkA fun args T K hT hK => by
  split at hT
  · cases hT
    obtain ⟨⟨h1, h2, h3, h4, h5, h6, h7, h8⟩, hK⟩ := hK
    obtain ⟨v, ⟨x, y, z, w, o, rfl, k1, k2, k3, k4, k5⟩, ht⟩ := wide_tot (base := base) (add2_hk _ _ _ _ _ _ _ _ h1 h2 h3 h4 h5 h6 h7 h8) (fun v ⟨_, _, _, _, _, hv, _⟩ => by subst hv; kernel_rfl) (List.forall_mem_cons.2 ⟨by kernel_rfl, List.forall_mem_cons.2 ⟨by kernel_rfl, List.forall_mem_cons.2 ⟨by kernel_rfl, List.forall_mem_cons.2 ⟨by kernel_rfl, fun _ h => nomatch h⟩⟩⟩⟩)
    exact ⟨_, hK x y z w o k1 k2 k3 k4 k5, ht⟩
  · cases hT
def ruleDW : Rule := ruleA fun args => match args with
  | [.agg ⟨[.int .u64 a, .int .u64 b]⟩, .agg ⟨[.int .u64 c, .int .u64 d]⟩, .int .u64 x] => some fun K => (u64 a ∧ u64 b ∧ u64 c ∧ u64 d ∧ u64 x ∧ 0 < x) ∧ ∀ e f g h r, u64 e → u64 f → u64 g → u64 h → u64 r → wW e f g h * x + r = wW a b c d → K (.tuple #[wU e f, wU g h, w64 r, .bool true])
  | _ => none
theorem dw_ok {base : World} : RuleOk Tryz.prog base 203 ruleDW := ruleOkA fun args T K hT hK => by
  split at hT
  · cases hT
    obtain ⟨⟨h1, h2, h3, h4, h5, h6⟩, hK⟩ := hK
    obtain ⟨v, ⟨e, f, g, h, r, rfl, k1, k2, k3, k4, k5, _, k7⟩, ht⟩ := wide_tot (base := base) (dw_hk _ _ _ _ _ h1 h2 h3 h4 h5 h6) (fun v ⟨_, _, _, _, _, hv, _⟩ => by subst hv; kernel_rfl) (List.forall_mem_cons.2 ⟨by kernel_rfl, List.forall_mem_cons.2 ⟨by kernel_rfl, List.forall_mem_cons.2 ⟨by kernel_rfl, fun _ h => nomatch h⟩⟩⟩)
    exact ⟨_, hK e f g h r k1 k2 k3 k4 k5 k7, ht⟩
  · cases hT
def ruleZero : Rule := ruleA fun args => match args with
  | [.agg ⟨[.int .u64 a, .int .u64 b]⟩] => some fun K => (u64 a ∧ u64 b) ∧ K (.bool (a == 0 && b == 0))
  | _ => none
theorem zero_ok {base : World} : RuleOk Tryz.prog base 202 ruleZero := ruleOkA fun args T K hT hK => by
  split at hT
  · cases hT
    obtain ⟨⟨h1, h2⟩, hK⟩ := hK
    obtain ⟨v, rfl, ht⟩ := wide_tot (base := base) (zero_hk _ _ h1 h2) (fun v hv => by rw [show v = _ from hv]; kernel_rfl) (List.forall_mem_cons.2 ⟨by kernel_rfl, fun _ h => nomatch h⟩)
    exact ⟨_, hK, ht⟩
  · cases hT
def rulesWF : List (Nat × Rule) := (202, ruleZero) :: (218, ruleCmp) :: (255, ruleAdd) :: (220, ruleMulW) :: (262, ruleMul) :: (286, ruleAdd2) :: (203, ruleDW) :: (266, ruleDiv) :: (219, rulePlain mostV) :: rules0
theorem rulesWF_ok (base : World) : ∀ x ∈ rulesWF, RuleOk Tryz.prog base x.1 x.2 := List.forall_mem_cons.2 ⟨zero_ok, List.forall_mem_cons.2 ⟨cmp_ok, List.forall_mem_cons.2 ⟨add_ok, List.forall_mem_cons.2 ⟨mulw_ok, List.forall_mem_cons.2 ⟨mul_ok, List.forall_mem_cons.2 ⟨add2_ok, List.forall_mem_cons.2 ⟨dw_ok, List.forall_mem_cons.2 ⟨div_ok, List.forall_mem_cons.2 ⟨most_okA, rules0_ok base⟩⟩⟩⟩⟩⟩⟩⟩⟩
end Go.Proofs.YthmogphlnjpakaaGreatDoor

namespace Go.Proofs.YthmogphlnjpakaaGreatDoor
open Go Go.Pe Go.RowKit
def i64 (x : Int) : Prop := -9223372036854775808 ≤ x ∧ x < 9223372036854775808
theorem i64_wrap (x : Int) : i64 (IntKind.wrap .i64 x) := by
  have h : IntKind.wrap .i64 x = if x % 18446744073709551616 ≥ 9223372036854775808 then x % 18446744073709551616 - 18446744073709551616 else x % 18446744073709551616 := by
    simp [IntKind.wrap, IntKind.bits, IntKind.signed]
  rw [h]
  unfold i64
  split <;> omega
end Go.Proofs.YthmogphlnjpakaaGreatDoor

namespace Go.Proofs.YthmogphlnjpakaaGreatDoor
open Go Go.Pe Go.RowKit
def isBoolV (u : Value) : Prop := ∃ b, u = .bool b
theorem up_hk_tree (K : Value → Nat → Prop) (m : Int) (neg odd more : Bool) (last : Int) :
 funcK (envK 6 rules0 []) 30 285 [.int .i64 m, .bool neg, .bool odd, w64 last, .bool more] [] Tryz.prog.globals.size (fun u _ _ mw => K u mw) =
 (bsel (last == (5 : Int)) (bsel more (bsel (m == (1 : Int)) (bsel (decide (last > (5 : Int))) (K (.bool true) 18446744073709551616) (bsel (last == (5 : Int)) (bsel more (K (.bool true) 18446744073709551616) (K (.bool false) 18446744073709551616)) (K (.bool false) 18446744073709551616))) (bsel (m == (2 : Int)) (bsel (decide (last ≥ (5 : Int))) (K (.bool true) 18446744073709551616) (K (.bool false) 18446744073709551616)) (bsel (m == (3 : Int)) (bsel (decide (last > (5 : Int))) (K (.bool true) 18446744073709551616) (bsel (last == (5 : Int)) (bsel more (K (.bool true) 18446744073709551616) (K (.bool false) 18446744073709551616)) (K (.bool false) 18446744073709551616))) (bsel (m == (4 : Int)) (bsel (decide (last > (0 : Int))) (K (.bool true) 18446744073709551616) (bsel more (K (.bool true) 18446744073709551616) (K (.bool false) 18446744073709551616))) (bsel (m == (6 : Int)) (bsel neg (bsel (decide (last > (0 : Int))) (K (.bool true) 18446744073709551616) (bsel more (K (.bool true) 18446744073709551616) (K (.bool false) 18446744073709551616))) (K (.bool false) 18446744073709551616)) (bsel (m == (7 : Int)) (bsel neg (K (.bool false) 18446744073709551616) (bsel (decide (last > (0 : Int))) (K (.bool true) 18446744073709551616) (bsel more (K (.bool true) 18446744073709551616) (K (.bool false) 18446744073709551616)))) (K (.bool false) 18446744073709551616))))))) (bsel (m == (1 : Int)) (bsel (decide (last > (5 : Int))) (K (.bool true) 18446744073709551616) (bsel (last == (5 : Int)) (bsel more (K (.bool true) 18446744073709551616) (bsel odd (K (.bool true) 18446744073709551616) (K (.bool false) 18446744073709551616))) (bsel odd (K (.bool true) 18446744073709551616) (K (.bool false) 18446744073709551616)))) (bsel (m == (2 : Int)) (bsel (decide (last ≥ (5 : Int))) (K (.bool true) 18446744073709551616) (K (.bool false) 18446744073709551616)) (bsel (m == (3 : Int)) (bsel (decide (last > (5 : Int))) (K (.bool true) 18446744073709551616) (bsel (last == (5 : Int)) (bsel more (K (.bool true) 18446744073709551616) (K (.bool false) 18446744073709551616)) (K (.bool false) 18446744073709551616))) (bsel (m == (4 : Int)) (bsel (decide (last > (0 : Int))) (K (.bool true) 18446744073709551616) (bsel more (K (.bool true) 18446744073709551616) (K (.bool false) 18446744073709551616))) (bsel (m == (6 : Int)) (bsel neg (bsel (decide (last > (0 : Int))) (K (.bool true) 18446744073709551616) (bsel more (K (.bool true) 18446744073709551616) (K (.bool false) 18446744073709551616))) (K (.bool false) 18446744073709551616)) (bsel (m == (7 : Int)) (bsel neg (K (.bool false) 18446744073709551616) (bsel (decide (last > (0 : Int))) (K (.bool true) 18446744073709551616) (bsel more (K (.bool true) 18446744073709551616) (K (.bool false) 18446744073709551616)))) (K (.bool false) 18446744073709551616)))))))) (bsel (m == (1 : Int)) (bsel (decide (last > (5 : Int))) (K (.bool true) 18446744073709551616) (bsel (last == (5 : Int)) (bsel more (K (.bool true) 18446744073709551616) (K (.bool false) 18446744073709551616)) (K (.bool false) 18446744073709551616))) (bsel (m == (2 : Int)) (bsel (decide (last ≥ (5 : Int))) (K (.bool true) 18446744073709551616) (K (.bool false) 18446744073709551616)) (bsel (m == (3 : Int)) (bsel (decide (last > (5 : Int))) (K (.bool true) 18446744073709551616) (bsel (last == (5 : Int)) (bsel more (K (.bool true) 18446744073709551616) (K (.bool false) 18446744073709551616)) (K (.bool false) 18446744073709551616))) (bsel (m == (4 : Int)) (bsel (decide (last > (0 : Int))) (K (.bool true) 18446744073709551616) (bsel more (K (.bool true) 18446744073709551616) (K (.bool false) 18446744073709551616))) (bsel (m == (6 : Int)) (bsel neg (bsel (decide (last > (0 : Int))) (K (.bool true) 18446744073709551616) (bsel more (K (.bool true) 18446744073709551616) (K (.bool false) 18446744073709551616))) (K (.bool false) 18446744073709551616)) (bsel (m == (7 : Int)) (bsel neg (K (.bool false) 18446744073709551616) (bsel (decide (last > (0 : Int))) (K (.bool true) 18446744073709551616) (bsel more (K (.bool true) 18446744073709551616) (K (.bool false) 18446744073709551616)))) (K (.bool false) 18446744073709551616)))))))) := by kernel_rfl
theorem up_hk (m : Int) (neg odd more : Bool) (last : Int) (h1 : u64 last) : ReckA (envK 6 rules0 []) 30 285 [.int .i64 m, .bool neg, .bool odd, w64 last, .bool more] (isBoolV) := by
  constructor
  rw [up_hk_tree fun u mw => (isBoolV) u ∧ Tryz.prog.globals.size ≤ mw]
  repeat' (first | exact ⟨⟨_, rfl⟩, Nat.le_of_ble_eq_true (by kernel_rfl)⟩ | refine bsel_of (fun _ => ?_) (fun _ => ?_))
def ruleUp : Rule := ruleA fun args => match args with
  | [.int .i64 _, .bool _, .bool _, .int .u64 l, .bool _] => some fun K => u64 l ∧ ∀ b, K (.bool b)
  | _ => none
theorem up_ok {base : World} : RuleOk Tryz.prog base 285 ruleUp := ruleOkA fun args T K hT hK => by
  split at hT
  · cases hT
    obtain ⟨h1, hK⟩ := hK
    obtain ⟨v, ⟨b, rfl⟩, ht⟩ := totA_of (base := base) (envK_ok (rules0_ok base)) (findL_ok (l := []) rfl fun _ h => nomatch h) rfl (up_hk _ _ _ _ _ h1) (fun v ⟨_, hv⟩ => by subst hv; kernel_rfl) (List.forall_mem_cons.2 ⟨by kernel_rfl, List.forall_mem_cons.2 ⟨by kernel_rfl, List.forall_mem_cons.2 ⟨by kernel_rfl, List.forall_mem_cons.2 ⟨by kernel_rfl, List.forall_mem_cons.2 ⟨by kernel_rfl, fun _ h => nomatch h⟩⟩⟩⟩⟩)
    exact ⟨_, hK b, ht⟩
  · cases hT
def wWide (n : Bool) (a b c d e : Int) (m : Bool) : Value := .agg ⟨[.bool n, .int .u64 a, .int .u64 b, .int .u64 c, .int .u64 d, .int .i64 e, .bool m]⟩
def celW (n : Bool) (a b c d e : Int) (m : Bool) : List (Option Value) := [some (.bool n), some (w64 a), some (w64 b), some (w64 c), some (w64 d), some (.int .i64 e), some (.bool m)]
def blkW (n : Bool) (a b c d e : Int) (m : Bool) : Blk := { cells := celW n a b c d e m, elem := 251, own := true, room := 0, iter := none }
theorem wrap_i64r {x : Int} (h : i64 x) : IntKind.wrap .i64 x = x := by
  have e : IntKind.wrap .i64 x = if x % 18446744073709551616 ≥ 9223372036854775808 then x % 18446744073709551616 - 18446744073709551616 else x % 18446744073709551616 := by
    simp [IntKind.wrap, IntKind.bits, IntKind.signed]
  rw [e]
  unfold i64 at h
  split <;> omega
end Go.Proofs.YthmogphlnjpakaaGreatDoor

namespace Go.Proofs.YthmogphlnjpakaaGreatDoor
open Go Go.Pe Go.RowKit
theorem i64_pick {p : Bool} {a b : Int} (ha : i64 a) (hb : i64 b) : i64 (match p with | true => a | false => b) := by cases p <;> assumption
theorem i64_lit {x : Int} (h : (decide (-9223372036854775808 ≤ x) && decide (x < 9223372036854775808)) = true) : i64 x := by
  simp only [Bool.and_eq_true, decide_eq_true_eq] at h
  exact h
def blkD0 : Blk := { cells := [some (.bool false), some (w64 0), some (w64 0), some (.int .i64 0)], elem := 88, own := true, room := 0, iter := none }
end Go.Proofs.YthmogphlnjpakaaGreatDoor
