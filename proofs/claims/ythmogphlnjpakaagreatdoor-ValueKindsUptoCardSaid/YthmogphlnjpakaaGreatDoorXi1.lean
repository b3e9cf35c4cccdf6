/-
  numeral.Signed: what is read may be.
  Calls that lay one block and return it whole: strings.Split.
-/
import Derived.Test.YthmogphlnjpakaaGreatDoorXg1
import Derived.Lib.SplitLaws
import Derived.Lib.ReplaceLaws

namespace Go.Proofs.YthmogphlnjpakaaGreatDoor
open Go Go.Pe Go.RowKit
def rulesSg : List (Nat × Rule) := (156, ruleNread) :: rulesAt
theorem rulesSg_ok {base : World} (B : Stood base) : ∀ x ∈ rulesSg, RuleOk Tryz.prog base x.1 x.2 := List.forall_mem_cons.2 ⟨nread_ok B, rulesAt_ok B⟩
theorem decOk_pos {n : Bool} {a b e : Int} (h : decOk n a b e) : decOk false a b e := ⟨h.1, h.2.1, h.2.2.1, h.2.2.2.1, h.2.2.2.2.1, fun h => nomatch h⟩
theorem decOk_neg {n : Bool} {a b e : Int} (h : decOk n a b e) (hn : (a == 0) = false ∨ (b == 0) = false) : decOk true a b e := ⟨h.1, h.2.1, h.2.2.1, h.2.2.2.1, h.2.2.2.2.1, fun _ => by
  obtain ⟨a1, _⟩ := h.1
  obtain ⟨b1, _⟩ := h.2.1
  have hn : a ≠ 0 ∨ b ≠ 0 := hn.imp (fun h => by simpa using h) (fun h => by simpa using h)
  unfold wV
  omega⟩
def isNsigned (s : ByteArray) (u : Value) : Prop := ∃ (n : Bool) (a b e : Int) (ok : Bool), u = .tuple #[decC n a b e, .bool ok] ∧ (decOk n a b e)
theorem nsigned_hk_tree (K : Value → Nat → Prop) (s : ByteArray) :
 funcK (envW rulesSg []) 30 106 [.string s] [] Tryz.prog.globals.size (fun u _ _ mw => K u mw) =
 ((ByteArray.mk #[45] = ByteArray.mk #[45] ∨ ByteArray.mk #[45] = ByteArray.mk #[43]) ∧ ∀ (t : ByteArray), strLen t ≤ strLen s → strLen t ≤ 140737488355328 ∧ ∀ (n : Bool) (a b e : Int) (ok : Bool), decOk n a b e → bsel ok (bsel ((↑(strLen t) : Int) != (↑(strLen s) : Int)) (bsel n (K (.tuple (Array.mk [.agg (Array.mk [.bool false, .int .u64 a, .int .u64 b, .int .i64 e]), .bool true])) 10) (bsel (a == (0 : Int)) (bsel (b == (0 : Int)) (K (.tuple (Array.mk [.agg (Array.mk [.bool false, .int .u64 a, .int .u64 b, .int .i64 e]), .bool true])) 10) (K (.tuple (Array.mk [.agg (Array.mk [.bool true, .int .u64 a, .int .u64 b, .int .i64 e]), .bool true])) 10)) (K (.tuple (Array.mk [.agg (Array.mk [.bool true, .int .u64 a, .int .u64 b, .int .i64 e]), .bool true])) 10))) (K (.tuple (Array.mk [.agg (Array.mk [.bool n, .int .u64 a, .int .u64 b, .int .i64 e]), .bool true])) 10)) (bsel ((↑(strLen t) : Int) != (↑(strLen s) : Int)) (bsel n (K (.tuple (Array.mk [.agg (Array.mk [.bool false, .int .u64 a, .int .u64 b, .int .i64 e]), .bool false])) 10) (bsel (a == (0 : Int)) (bsel (b == (0 : Int)) (K (.tuple (Array.mk [.agg (Array.mk [.bool false, .int .u64 a, .int .u64 b, .int .i64 e]), .bool false])) 10) (K (.tuple (Array.mk [.agg (Array.mk [.bool true, .int .u64 a, .int .u64 b, .int .i64 e]), .bool false])) 10)) (K (.tuple (Array.mk [.agg (Array.mk [.bool true, .int .u64 a, .int .u64 b, .int .i64 e]), .bool false])) 10))) (K (.tuple (Array.mk [.agg (Array.mk [.bool n, .int .u64 a, .int .u64 b, .int .i64 e]), .bool false])) 10))) := by kernel_rfl
theorem nsigned_hk (s : ByteArray) (hs : strLen s ≤ 140737488355328) : ReckA (envW rulesSg []) 30 106 [.string s] (isNsigned s) := by
  constructor
  rw [nsigned_hk_tree fun u mw => (isNsigned s) u ∧ Tryz.prog.globals.size ≤ mw]
  repeat' (first | exact ⟨⟨_, _, _, _, _, rfl, by assumption⟩, Nat.le_of_ble_eq_true (by kernel_rfl)⟩ | exact ⟨⟨_, _, _, _, _, rfl, decOk_pos (by assumption)⟩, Nat.le_of_ble_eq_true (by kernel_rfl)⟩ | exact ⟨⟨_, _, _, _, _, rfl, decOk_neg (by assumption) (.inl (by assumption))⟩, Nat.le_of_ble_eq_true (by kernel_rfl)⟩ | exact ⟨⟨_, _, _, _, _, rfl, decOk_neg (by assumption) (.inr (by assumption))⟩, Nat.le_of_ble_eq_true (by kernel_rfl)⟩ | refine bsel_of (fun _ => ?_) (fun _ => ?_) | refine And.intro (by (first | exact True.intro | assumption | exact rfl | exact .inl rfl | exact .inr rfl | omega)) ?_ | intro _)
def ruleNsigned : Rule := ruleA fun args => match args with
  | [.string s] => some fun K => (strLen s ≤ 140737488355328) ∧ ∀ (n : Bool) (a b e : Int) (ok : Bool), decOk n a b e → K (.tuple #[decC n a b e, .bool ok])
  | _ => none
theorem nsigned_ok {base : World} (B : Stood base) : RuleOk Tryz.prog base 106 ruleNsigned := ruleOkA fun args T K hT hK => by
  split at hT
  · cases hT
    obtain ⟨hs, hK⟩ := hK
    obtain ⟨v, ⟨r0, r1, r2, r3, r4, rfl, hf⟩, ht⟩ := totA_of (base := base) (envW_ok (rulesSg_ok B)) (findL_ok (l := []) rfl fun _ h => nomatch h) rfl (nsigned_hk _ hs) (fun v ⟨_, _, _, _, _, hv, _⟩ => by subst hv; kernel_rfl) (List.forall_mem_cons.2 ⟨by kernel_rfl, fun _ h => nomatch h⟩)
    exact ⟨_, hK r0 r1 r2 r3 r4 hf, ht⟩
  · cases hT
end Go.Proofs.YthmogphlnjpakaaGreatDoor

namespace Go.Pe
open Go Go.RowKit
def symBlk (y : Bool) (vs : List Value) (e : TypeId) : Blk := { cells := vs.map some, elem := e, own := true, room := 0, iter := none, sym := y }
theorem FuncSem.ofAlloc {y : Bool} {E : Env} {base : World} (hE : EnvOk E base) {f : FuncId} {fn : Func} (hf : E.P.funcs[f]? = some fn) (hb : fn.body.isSome = true) {args : List Value} (ha : ∀ x ∈ args, pureV 6 x = true) {vs : List Value} {e : TypeId}
    (hv : ∀ v ∈ vs, pureV 6 v = true) {h : Heap} {n : Nat}
    (H : ∀ w : World, Below base.heap.size base w → Calls E.P f args.toArray w fun ev w' => ev = .returned (.slice (some ⟨w.heap.size, 0, none⟩) vs.length vs.length) ∧ w' = w.alloc (.cells vs.toArray e)) (hs : vs.length < big) :
    FuncSem E base f args h n (.slice (some ⟨n, 0, none⟩) vs.length vs.length) ((n, symBlk y vs e) :: h) (n + 1) big := by
  have hcells : ∀ D : Nat → Prop, ∀ v, some v ∈ (symBlk y vs e).cells → WF D v := fun D v hm => by
    simp only [symBlk, List.mem_map, Option.some.injEq, exists_eq_right] at hm
    exact WF.pure (hv v hm)
  refine ⟨⟨by omega, fun D hD hG hx hh => ⟨WF.slc.2 (.inr ⟨by simp, by simp⟩), (hh.mono Dp_mono).cons (.inr ⟨by omega, by omega⟩) (hcells _)⟩⟩, fun μ κ w hr hh hx hg => ?_⟩
  have hargs : args.map (renV μ κ) = args := by
    have : args.map (renV μ κ) = args.map id := List.map_congr_left fun x hx => ren_pure _ _ 6 x (ha x hx)
    simpa using this
  rw [hargs, hE.enter f fn hf hb]
  refine ⟨rfl, (H w hr.below).mono fun ev w' ⟨he, hw⟩ => ⟨_, he, upd μ n w.heap.size, upd κ n 0, ?_, ?_, ?_⟩⟩
  · rw [hw]; exact Step.alloc big n μ κ w _ 0
  · rw [renV_slice_some]
    have hc : renCap (upd κ n 0) n vs.length = vs.length := by
      unfold renCap
      cases hbl : Nat.ble big vs.length
      · rfl
      · exact absurd (ble_true hbl) (by omega)
    simp only [renAd, upd_same, hc]
  · rw [hw]
    refine hr.alloc hh hg _ _ 0 ?_
    have key : ∃ c e' fr, (w.alloc (.cells vs.toArray e)).heap[upd μ n w.heap.size n]? = some (.cells c e' fr) ∧ ((symBlk y vs e).own = true → e' = (symBlk y vs e).elem ∧ base.heap.size ≤ upd μ n w.heap.size n ∧ fr = (0, 0)) ∧
        (symBlk y vs e).cells.length ≤ c.size ∧ (∀ (j : Nat) v, (symBlk y vs e).cells[j]? = some (some v) → c[j]? = some (renV (upd μ n w.heap.size) (upd κ n 0) v)) ∧ ((symBlk y vs e).room ≠ 0 → c.size = upd κ n 0 n * (symBlk y vs e).room) ∧ ((symBlk y vs e).room = 0 → (symBlk y vs e).own = true → c.size = (symBlk y vs e).cells.length) := by
      refine ⟨vs.toArray, e, (0, 0), ?_, fun _ => ⟨rfl, ?_, rfl⟩, by simp [symBlk], fun j v hj => ?_, fun h => absurd rfl h, fun _ _ => by simp [symBlk]⟩
      · rw [upd_same]
        show (w.heap.push _)[w.heap.size]? = _
        simp
      · rw [upd_same]; exact hr.below.size
      · simp only [symBlk, List.getElem?_map, Option.map_eq_some_iff] at hj
        obtain ⟨a, ha, e2⟩ := hj
        cases e2
        rw [ren_pure _ _ 6 v (hv v (List.mem_of_getElem? ha))]
        simpa using ha
    exact key
theorem FuncSem.ofSlice {E : Env} {base : World} (hE : EnvOk E base) {f : FuncId} {fn : Func} (hf : E.P.funcs[f]? = some fn) (hb : fn.body.isSome = true) {args : List Value} (ha : ∀ x ∈ args, pureV 6 x = true) {m : Nat} {h : Heap} {n : Nat} (hm : m < big)
    (H : ∀ w : World, Below base.heap.size base w → Calls E.P f args.toArray w fun ev w' => ∃ N, ev = .returned (.slice (some ⟨N, 0, none⟩) m m) ∧ w.heap.size ≤ N ∧ Below w.heap.size w w') :
    FuncSem E base f args h n (.slice (some ⟨n, 0, none⟩) m m) h (n + 1) big := by
  refine ⟨⟨by omega, fun D hD hG hx hh => ⟨WF.slc.2 (.inr ⟨by simp, by simp⟩), hh.mono Dp_mono⟩⟩, fun μ κ w hr hh hx hg => ?_⟩
  have hargs : args.map (renV μ κ) = args := by
    have : args.map (renV μ κ) = args.map id := List.map_congr_left fun x hx => ren_pure _ _ 6 x (ha x hx)
    simpa using this
  rw [hargs, hE.enter f fn hf hb]
  refine ⟨rfl, (H w hr.below).mono fun ev w' ⟨N, he, hN, hw⟩ => ⟨_, he, upd μ n N, upd κ n 0, ?_, ?_, ?_⟩⟩
  · refine ⟨by omega, fun k hk => ?_, hw.size, fun b hb _ => hw.block b hb, fun k h1 h2 => .inl ?_⟩
    · have : k ≠ n := by omega
      simp [upd, this]
    · have : k = n := by omega
      subst this
      simpa [upd] using hN
  · rw [renV_slice_some]
    have hc : renCap (upd κ n 0) n m = m := by
      unfold renCap
      cases hbl : Nat.ble big m
      · rfl
      · exact absurd (ble_true hbl) (by omega)
    simp only [renAd, upd_same, hc]
  · have hg' := hr.grow hw
    refine ⟨hg'.below, fun k b hk => ?_, fun i j a b hi hj hij => ?_, fun g hgl => ?_, hg'.gsz⟩
    · obtain ⟨h1, h2⟩ := hh k b hk
      have hne : k ≠ n := by omega
      refine (hg'.blk k b hk).same (upd_other _ _ hne) (upd_other _ _ hne) (fun v hv => h2 v hv _ _ _ _ fun j hj => ?_) rfl
      have hj' : j ≠ n := by omega
      exact ⟨upd_other _ _ hj', upd_other _ _ hj'⟩
    · have h1 := (hh i a hi).1
      have h2 := (hh j b hj).1
      rw [upd_other _ _ (by omega), upd_other _ _ (by omega)] at hij
      exact hg'.inj i j a b hi hj hij
    · rw [upd_other _ _ (by omega)]
      exact hg'.glob g hgl
end Go.Pe
namespace Go.Proofs.YthmogphlnjpakaaGreatDoor
open Go Go.Pe Go.RowKit
theorem splitB_size (sep : ByteArray) : ∀ (k : Nat) (s : ByteArray), ∀ x ∈ Lib.splitB sep 0 k s, x.size ≤ s.size
  | 0, s, x, hx => by
    rw [Lib.splitB_zero, List.mem_singleton] at hx
    rw [hx]
    exact Nat.le_refl _
  | k + 1, s, x, hx => by
    unfold Lib.splitB at hx
    split at hx
    · rw [List.mem_singleton] at hx
      rw [hx]
      exact Nat.le_refl _
    · rcases List.mem_cons.1 hx with rfl | hx
      · rw [ByteArray.size_extract]; omega
      · have := splitB_size sep k _ x hx
        rw [ByteArray.size_extract] at this
        omega
def ruleSplit3 : Rule := fun args h n => match args with
  | [.string s, .string z] => some fun K => (strLen s < 4294967281 ∧ 1 ≤ strLen z) ∧ ∀ (e : Bool) (a b c : ByteArray) (m : Nat), strLen a ≤ strLen s → strLen b ≤ strLen s → strLen c ≤ strLen s → m ≠ 3 → m < big → (e = true → 2 ≤ strLen s) →
      bsel e (K (.slice (some ⟨n, 0, none⟩) 3 3) ((n, symBlk false [.string a, .string b, .string c] 9) :: h) (n + 1) big) (K (.slice (some ⟨n, 0, none⟩) m m) h (n + 1) big)
  | _ => none
theorem split3_ok {base : World} (B : Stood base) : RuleOk Tryz.prog base 176 ruleSplit3 := by
  intro E hE args h n T K hT hK
  unfold ruleSplit3 at hT
  split at hT
  · rename_i s z
    cases hT
    obtain ⟨⟨hs, hz⟩, hK⟩ := hK
    have hs : s.size < 4294967281 := hs
    have hz : 1 ≤ z.size := hz
    have hE' : EnvOk (env []) base := env_ok (rules := []) (fun _ h => by cases h)
    have hp : ∀ x ∈ [Value.string s, .string z], pureV 6 x = true := List.forall_mem_cons.2 ⟨by kernel_rfl, List.forall_mem_cons.2 ⟨by kernel_rfl, fun _ h => nomatch h⟩⟩
    have hb : Tryz.f176.body.isSome = true := by kernel_rfl
    obtain ⟨m, hm⟩ := B.mx
    have hc : ∀ w : World, Below base.heap.size base w → w.cell? ⟨2, 0, none⟩ = some (.int .i64 m) := fun w hw => by
      rw [← hm]
      exact hw.cell (p := ⟨2, 0, none⟩) (Nat.lt_of_lt_of_le (Nat.le_of_ble_eq_true (by kernel_rfl)) B.low)
    have hlen : (Lib.splitB z 0 (Lib.countB s z) s).length = Lib.countB s z + 1 := Lib.splitB_all z hz 0 _ s rfl
    have hsz := splitB_size z (Lib.countB s z) s
    by_cases h3 : Lib.countB s z + 1 = 3
    · rw [h3] at hlen
      match hl : Lib.splitB z 0 (Lib.countB s z) s, hlen with
      | [a, b, c], _ =>
        rw [hl] at hsz
        refine ⟨_, _, _, _, hK true a b c 0 (hsz a (by simp)) (hsz b (by simp)) (hsz c (by simp)) (by decide) (by decide) (fun _ => show 2 ≤ s.size from ?_), ?_⟩
        · have := Lib.countB_mul_le z hz _ s (Nat.le_refl _)
          have h2 : Lib.countB s z = 2 := by omega
          rw [h2] at this
          omega
        exact (FuncSem.ofAlloc (y := false) (E := env []) hE' (fn := Tryz.f176) (vs := [.string a, .string b, .string c]) Tryz.func176 hb hp (by intro v hv; simp only [List.mem_cons, List.not_mem_nil, or_false] at hv; rcases hv with rfl | rfl | rfl <;> kernel_rfl) (fun w hw => (Tryz.strings_Split s z m w hs (hc w hw) hz).mono fun e w' ⟨he, hw'⟩ => by
          rw [hl] at hw'
          rw [h3] at he
          exact ⟨he, hw'⟩) (show 3 < big by decide)).env hE
    · have hcb : Lib.countB s z + 1 < big := by
        have : Lib.countB s z ≤ s.size := Lib.countB_le z hz _ s (Nat.le_refl _)
        show _ < 18446744073709551616
        omega
      refine ⟨_, _, _, _, hK false s s s (Lib.countB s z + 1) (Nat.le_refl _) (Nat.le_refl _) (Nat.le_refl _) h3 hcb (fun h => nomatch h), ?_⟩
      exact (FuncSem.ofSlice (E := env []) hE' (fn := Tryz.f176) Tryz.func176 hb hp hcb (fun w hw => (Tryz.strings_Split s z m w hs (hc w hw) hz).mono fun e w' ⟨he, hw'⟩ => ⟨_, he, Nat.le_refl _, by
        rw [hw']
        exact Below.alloc (Below.refl _ _) (Nat.le_refl _) _⟩)).env hE
  · cases hT
end Go.Proofs.YthmogphlnjpakaaGreatDoor
