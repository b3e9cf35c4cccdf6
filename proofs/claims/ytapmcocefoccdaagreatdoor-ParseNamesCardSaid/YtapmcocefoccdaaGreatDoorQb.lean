/-
  Closed runs that read the tables of UTF-8, and closed runs of calls that are handed a list of names.
-/
import Derived.Test.YtapmcocefoccdaaGreatDoorPeW
import Derived.Test.YtapmcocefoccdaaGreatDoorBl
import Derived.Shelf.Unicode.DecodeSlow
namespace Go.Proofs.YtapmcocefoccdaaGreatDoor
open Go Go.Pe Go.RowKit

def firstL : List Int := [240, 240, 240, 240, 240, 240, 240, 240, 240, 240, 240, 240, 240, 240, 240, 240, 240, 240, 240, 240, 240, 240, 240, 240, 240, 240, 240, 240, 240, 240, 240, 240, 240, 240, 240, 240, 240, 240, 240, 240, 240, 240, 240, 240, 240, 240, 240, 240, 240, 240, 240, 240, 240, 240, 240, 240, 240, 240, 240, 240, 240, 240, 240, 240, 240, 240, 240, 240, 240, 240, 240, 240, 240, 240, 240, 240, 240, 240, 240, 240, 240, 240, 240, 240, 240, 240, 240, 240, 240, 240, 240, 240, 240, 240, 240, 240, 240, 240, 240, 240, 240, 240, 240, 240, 240, 240, 240, 240, 240, 240, 240, 240, 240, 240, 240, 240, 240, 240, 240, 240, 240, 240, 240, 240, 240, 240, 240, 240, 241, 241, 241, 241, 241, 241, 241, 241, 241, 241, 241, 241, 241, 241, 241, 241, 241, 241, 241, 241, 241, 241, 241, 241, 241, 241, 241, 241, 241, 241, 241, 241, 241, 241, 241, 241, 241, 241, 241, 241, 241, 241, 241, 241, 241, 241, 241, 241, 241, 241, 241, 241, 241, 241, 241, 241, 241, 241, 241, 241, 241, 241, 241, 241, 241, 241, 2, 2, 2, 2, 2, 2, 2, 2, 2, 2, 2, 2, 2, 2, 2, 2, 2, 2, 2, 2, 2, 2, 2, 2, 2, 2, 2, 2, 2, 2, 19, 3, 3, 3, 3, 3, 3, 3, 3, 3, 3, 3, 3, 35, 3, 3, 52, 4, 4, 4, 68, 241, 241, 241, 241, 241, 241, 241, 241, 241, 241, 241]
def acceptL : List Int := [128, 191, 160, 191, 128, 159, 144, 191, 128, 143, 0, 0, 0, 0, 0, 0, 0, 0, 0, 0, 0, 0, 0, 0, 0, 0, 0, 0, 0, 0, 0, 0]
def u8s (l : List Int) : List Value := l.map fun n => .int .u8 n

theorem u8s_pure (l : List Int) : ∀ v ∈ u8s l, pureV 6 v = true := by
  intro v hv
  simp only [u8s, List.mem_map] at hv
  obtain ⟨_, _, rfl⟩ := hv
  rfl

set_option maxRecDepth 100000 in
theorem firstL_eq : ((List.range 256).map fun c => (Lib.firstT c : Int)) = firstL := by kernel_rfl
set_option maxRecDepth 100000 in
theorem acceptL_eq : ((List.range 16).map fun i => [(Lib.accLo i : Int), (Lib.accHi i : Int)]).flatten = acceptL := by kernel_rfl

/-- The tables and the error's variable in a world. -/
structure AtU (base : World) : Prop extends AtP base where
  utf : Lib.Utf8Tabs 0 1 base

theorem cell_heap {w : World} {g j : Nat} {v : Value} (h : w.cell? ⟨g, j, none⟩ = some v) : ∃ cs e fr, w.heap[g]? = some (.cells cs e fr) ∧ cs[j]? = some v := by
  unfold World.cell? at h
  simp only at h
  split at h
  · rename_i c t fr hw
    exact ⟨c, t, fr, hw, h⟩
  · cases h

theorem first_cells {w : World} (hT : Lib.Utf8Tabs 0 1 w) : ∃ cs e fr, w.heap[0]? = some (.cells cs e fr) ∧ ∀ (j : Nat) v, (u8s firstL)[j]? = some v → cs[j]? = some v := by
  obtain ⟨cs, e, fr, hw, _⟩ := cell_heap (hT.1 0 (by omega))
  refine ⟨cs, e, fr, hw, fun j v hj => ?_⟩
  simp only [u8s, ← firstL_eq, List.map_map, List.getElem?_map, Option.map_eq_some_iff, List.getElem?_eq_some_iff, List.length_range, List.getElem_range] at hj
  obtain ⟨_, ⟨hlt, rfl⟩, rfl⟩ := hj
  obtain ⟨cs', _, _, hw', hc⟩ := cell_heap (hT.1 j hlt)
  rw [hw] at hw'
  cases hw'
  exact hc

theorem flat2 (f g : Nat → Int) (n : Nat) : ∀ (j : Nat) x, (((List.range n).map fun i => [f i, g i]).flatten)[j]? = some x → (j / 2 < n ∧ x = if j % 2 = 0 then f (j / 2) else g (j / 2)) := by
  induction n with
  | zero => intro j x h; simp at h
  | succ n ih =>
    intro j x h
    have hlen : (((List.range n).map fun i => [f i, g i]).flatten).length = 2 * n := by
      clear ih h
      induction n with
      | zero => rfl
      | succ n ih => rw [List.range_succ, List.map_append, List.flatten_append, List.length_append, ih]; simp; omega
    rw [List.range_succ, List.map_append, List.flatten_append, List.getElem?_append, hlen] at h
    split at h
    · obtain ⟨h1, h2⟩ := ih j x h
      exact ⟨by omega, h2⟩
    · have : j - 2 * n = 0 ∨ j - 2 * n = 1 ∨ 2 ≤ j - 2 * n := by omega
      rcases this with e | e | e
      · rw [e] at h
        simp at h
        have e1 : j / 2 = n := by omega
        have e2 : j % 2 = 0 := by omega
        refine ⟨by omega, ?_⟩
        rw [if_pos e2, e1, h]
      · rw [e] at h
        simp at h
        have e1 : j / 2 = n := by omega
        have e2 : ¬ j % 2 = 0 := by omega
        refine ⟨by omega, ?_⟩
        rw [if_neg e2, e1, h]
      · have := (List.getElem?_eq_some_iff.1 h).1
        simp at this
        omega

theorem accept_cells {w : World} (hT : Lib.Utf8Tabs 0 1 w) : ∃ cs e fr, w.heap[1]? = some (.cells cs e fr) ∧ ∀ (j : Nat) v, (u8s acceptL)[j]? = some v → cs[j]? = some v := by
  obtain ⟨cs, e, fr, hw, _⟩ := cell_heap (hT.2 0 (by omega)).1
  refine ⟨cs, e, fr, hw, fun j v hj => ?_⟩
  simp only [u8s, List.getElem?_map, Option.map_eq_some_iff] at hj
  obtain ⟨x, hx, rfl⟩ := hj
  rw [← acceptL_eq] at hx
  obtain ⟨h1, h2⟩ := flat2 (fun i => (Lib.accLo i : Int)) (fun i => (Lib.accHi i : Int)) 16 j x hx
  by_cases h0 : j % 2 = 0
  · rw [if_pos h0] at h2
    obtain ⟨cs', _, _, hw', hc⟩ := cell_heap (hT.2 (j / 2) h1).1
    rw [hw] at hw'
    cases hw'
    have : 2 * (j / 2) = j := by omega
    rw [this] at hc
    rw [h2]
    exact hc
  · rw [if_neg h0] at h2
    obtain ⟨cs', _, _, hw', hc⟩ := cell_heap (hT.2 (j / 2) h1).2
    rw [hw] at hw'
    cases hw'
    have : 2 * (j / 2) + 1 = j := by omega
    rw [this] at hc
    rw [h2]
    exact hc

theorem utf_over {base w : World} (hT : Lib.Utf8Tabs 0 1 base) (hlow : Tryz.prog.globals.size ≤ base.heap.size) (hb : Below base.heap.size base w) : Lib.Utf8Tabs 0 1 w := by
  have g1 : 0 < base.heap.size := Nat.lt_of_lt_of_le (ltB (by kernel_rfl)) hlow
  have g2 : 1 < base.heap.size := Nat.lt_of_lt_of_le (ltB (by kernel_rfl)) hlow
  have key : ∀ g j, g < base.heap.size → w.cell? ⟨g, j, none⟩ = base.cell? ⟨g, j, none⟩ := fun g j hg => by
    unfold World.cell?
    simp only [hb.block g hg]
  exact ⟨fun c hc => by rw [key _ _ g1]; exact hT.1 c hc, fun i hi => ⟨by rw [key _ _ g2]; exact (hT.2 i hi).1, by rw [key _ _ g2]; exact (hT.2 i hi).2⟩⟩

theorem AtU.over {base w : World} (A : AtU base) (hb : Below base.heap.size base w) : AtU w := ⟨A.toAtP.over hb, utf_over A.utf A.low hb⟩

/-- What the evaluator is told of: the tables, the error's variable. -/
noncomputable def tabsU (off : Nat) (spot : Option Nat) : Heap := (0, roBlk (u8s firstL)) :: (1, roBlk (u8s acceptL)) :: tabsE off spot

theorem getE_lt {off : Nat} {spot : Option Nat} {i : Nat} {x : Blk} (h : getBlk (tabsE off spot) i = some x) : i < Tryz.prog.globals.size ∧ i ≠ 0 ∧ i ≠ 1 := by
  unfold tabsE tabs at h
  rw [getBlk_cons] at h
  split at h
  · rename_i e
    rw [← e]
    exact ⟨ltB (by kernel_rfl), by decide, by decide⟩
  · rw [getBlk_cons] at h
    split at h
    · rename_i e
      rw [← e]
      exact ⟨ltB (by kernel_rfl), by decide, by decide⟩
    · simp [getBlk] at h

theorem tabsU_wf (off : Nat) (spot : Option Nat) : HWF (· < Tryz.prog.globals.size + 1) (tabsU off spot) :=
  ((tabsE_wf off spot).cons (Nat.lt_succ_of_lt (ltB (by kernel_rfl))) (roBlk_wf (u8s_pure _))).cons (Nat.lt_succ_of_lt (ltB (by kernel_rfl))) (roBlk_wf (u8s_pure _))

theorem relU {base w : World} (A : AtU base) (hb : Below base.heap.size base w) : ∃ (a : Addr), Rel Tryz.prog base (upd id Tryz.prog.globals.size a.block) (fun _ => 0) (tabsU a.off a.spot) w := by
  have A' := A.over hb
  obtain ⟨a, cs, t, fr, h1, h2⟩ := A'.err
  refine ⟨a, ?_⟩
  have r0 := (relE A'.low A'.tab gPow h1 h2).rebase (tabsE_own _ _) hb A.low
  have low : ∀ g, g < Tryz.prog.globals.size → upd id Tryz.prog.globals.size a.block g = g := fun g hg => upd_other _ _ (by omega)
  have g1 : 0 < Tryz.prog.globals.size := ltB (by kernel_rfl)
  have g2 : 1 < Tryz.prog.globals.size := ltB (by kernel_rfl)
  obtain ⟨c1, e1, f1, k1, k2⟩ := first_cells A'.utf
  obtain ⟨c2, e2, f2, m1, m2⟩ := accept_cells A'.utf
  have r1 := r0.consG (g := 1) (roBlk_ok (u8s_pure acceptL) (by rw [low _ g2]; exact m1) m2) fun i x hi e => by
    rw [low _ g2, low _ (getE_lt hi).1] at e
    exact e
  refine r1.consG (roBlk_ok (u8s_pure firstL) (by rw [low _ g1]; exact k1) k2) fun i x hi e => ?_
  have hi' : i < Tryz.prog.globals.size := by
    rw [getBlk_cons] at hi
    split at hi
    · rename_i ek; rw [← ek]; exact g2
    · exact (getE_lt hi).1
  rw [low _ g1, low _ hi'] at e
  exact e

/-- The environment of these runs: names below a bound are nobody's. -/
noncomputable def envU (goods : Nat) (wilds : List Nat) (lo : Nat) (rules : List (Nat × Rule)) : Env :=
  { P := Tryz.prog, isBool := bools, oracle := findR rules, eqAgg := eqA (env []) eqTs, loops := 100000, loopP := fun _ _ => none, guess := fun _ _ => none, strF := strAt, wild := fun f _ => elemN f wilds, sure := fun f => Nat.blt f goods,
    low := Tryz.prog.globals.size + lo }
theorem envU_ok {goods : Nat} {wilds : List Nat} {lo : Nat} (hgood : allGood Tryz.prog goods = true) {rules : List (Nat × Rule)} {base : World} (hr : ∀ x ∈ rules, RuleOk Tryz.prog base x.1 x.2) : EnvOk (envU goods wilds lo rules) base :=
  envOk_of (E := envU goods wilds lo rules) rfl rfl mixed_ok plain_ok hr (fun t a b r h μ κ w => eqA_sound (E := env []) eqTs_ok t a b r h μ κ w) fun f _ _ hs hf hb => good_code (P := Tryz.prog) (good_of hgood f (Nat.le_of_ble_eq_true (show Nat.ble (f + 1) goods = true from hs))) hf hb
theorem envU_loops {goods : Nat} {wilds : List Nat} {lo : Nat} {rules : List (Nat × Rule)} {base : World} : LoopsOk (envU goods wilds lo rules) base := fun _ _ _ _ _ _ h => by cases h

/-- A closed run as a contract, at a later world that the evaluator is told of by some names; what is handed over may be told by names. -/
theorem calls_by {E : Env} {base w : World} (hE : EnvOk E base) (hL : LoopsOk E base) {d : Nat} {f : FuncId} {fn : Func} (hf : E.P.funcs[f]? = some fn) (hb : fn.body.isSome = true) {args xs : List Value} {h : Heap} {n : Nat} {v : Value} {μ κ : Nat → Nat}
    (hk : (funcK E d f args h n fun u _ _ mw => u = v ∧ Nat.ble n mw = true) = (v = v ∧ true = true)) (hrel : Rel E.P base μ κ h w) (hh : HWF (· < n) h) (ha : ∀ x ∈ args, WF (· < n) x) (hx : args.map (renV μ κ) = xs) (hv : pureV 6 v = true) (hg : E.P.globals.size ≤ n) :
    Calls E.P f xs.toArray w fun e w' => e = .returned v ∧ Below w.heap.size w w' := by
  obtain ⟨u, h', n', mw, ⟨rfl, hmw⟩, hs⟩ := funcK_sound hE hL d f args h n _ (cast hk.symm ⟨rfl, rfl⟩)
  have hout := hs.2 μ κ w hrel hh ha hg
  rw [hx, hE.enter f fn hf hb] at hout
  refine hout.2.mono fun e w' ⟨x, he, μ', κ', hst, hx, hr'⟩ => ?_
  subst he
  rw [hx, ren_pure _ _ 6 u hv]
  have hmw := Nat.le_of_ble_eq_true hmw
  have b1 := hrel.below
  have b2 := hr'.below
  exact ⟨rfl, ⟨b2.os.trans b1.os.symm, b2.tape.trans b1.tape.symm, b2.output.trans b1.output.symm, hst.sz, fun k hk => hst.fr k hk fun j j1 j2 => by omega⟩⟩

/-- A closed run, told of every world. -/
theorem totU_closed {goods : Nat} {wilds : List Nat} (hgood : allGood Tryz.prog goods = true) {rules : List (Nat × Rule)} {base : World} (A : AtU base) (hr : ∀ x ∈ rules, RuleOk Tryz.prog base x.1 x.2) {d : Nat} {f : FuncId} {fn : Func} {args : List Value} {v : Value}
    (hf : Tryz.prog.funcs[f]? = some fn) (hb : fn.body.isSome = true) (ha : args.all (pureV 6) = true) (hv : pureV 6 v = true)
    (hk : ∀ off spot, (funcK (envU goods wilds 1 rules) d f args (tabsU off spot) (Tryz.prog.globals.size + 1) fun u _ _ mw => u = v ∧ Nat.ble (Tryz.prog.globals.size + 1) mw = true) = (v = v ∧ true = true)) : TotP base f args v := fun E hP h n => by
  have hE : EnvOk (envU goods wilds 1 rules) base := envU_ok (wilds := wilds) hgood hr
  have ha : ∀ x ∈ args, pureV 6 x = true := List.all_eq_true.1 ha
  refine (FuncSem.ofContract (E := envU goods wilds 1 rules) hE hf hb ha hv fun w hbel => ?_).env hP
  obtain ⟨a, hrel⟩ := relU A hbel
  exact calls_by hE envU_loops hf hb (hk a.off a.spot) hrel (tabsU_wf _ _) (fun x hx => WF.pure (ha x hx)) (by
    have : args.map (renV (upd id Tryz.prog.globals.size a.block) (fun _ => 0)) = args.map id := List.map_congr_left fun x hx => ren_pure _ _ 6 x (ha x hx)
    simpa using this) hv (Nat.le_succ _)

/-- A call of plain values and of a list of texts, told for every heap. -/
def TotS (base : World) (f : FuncId) (args : List Value) (ns : List ByteArray) (v : Value) : Prop :=
  ∀ E : Env, E.P = Tryz.prog → ∀ (h : Heap) (n k : Nat) (b : Blk), getBlk h k = some b → b.iter = none → b.own = true → b.cells = (ns.map Value.string).map some → FuncSem E base f (args ++ [.slice (some ⟨k, 0, none⟩) ns.length ns.length]) h n v h n big

theorem strs_pure (ns : List ByteArray) : ∀ v ∈ ns.map Value.string, pureV 6 v = true := by
  intro v hv
  simp only [List.mem_map] at hv
  obtain ⟨_, _, rfl⟩ := hv
  rfl

theorem totS_closed {goods : Nat} {wilds : List Nat} (hgood : allGood Tryz.prog goods = true) {rules : List (Nat × Rule)} {base : World} (A : AtU base) (hr : ∀ x ∈ rules, RuleOk Tryz.prog base x.1 x.2) {d : Nat} {f : FuncId} {fn : Func} {args : List Value} {ns : List ByteArray} {v : Value}
    (hf : Tryz.prog.funcs[f]? = some fn) (hb : fn.body.isSome = true) (ha : args.all (pureV 6) = true) (hv : pureV 6 v = true) (hl : Nat.blt ns.length big = true)
    (hk : ∀ off spot, (funcK (envU goods wilds 2 rules) d f (args ++ [.slice (some ⟨Tryz.prog.globals.size + 1, 0, none⟩) ns.length ns.length]) ((Tryz.prog.globals.size + 1, roBlk (ns.map Value.string)) :: tabsU off spot) (Tryz.prog.globals.size + 2)
      fun u _ _ mw => u = v ∧ Nat.ble (Tryz.prog.globals.size + 2) mw = true) = (v = v ∧ true = true)) : TotS base f args ns v := fun E hP h n k b hb1 hi hown hcells => by
  have hE : EnvOk (envU goods wilds 2 rules) base := envU_ok (wilds := wilds) hgood hr
  have ha : ∀ x ∈ args, pureV 6 x = true := List.all_eq_true.1 ha
  have hlb : ns.length < big := by simpa [Nat.blt_eq] using hl
  have capE : ∀ (κ : Nat → Nat) j, renCap κ j ns.length = ns.length := fun κ j => by
    unfold renCap
    have : Nat.ble big ns.length = false := by
      cases hh : Nat.ble big ns.length with
      | false => rfl
      | true => have := Nat.le_of_ble_eq_true hh; omega
    rw [this]
  have argsE : ∀ (μ κ : Nat → Nat) (j : Nat), (args ++ [Value.slice (some ⟨j, 0, none⟩) ns.length ns.length]).map (renV μ κ) = args ++ [Value.slice (some ⟨μ j, 0, none⟩) ns.length ns.length] := fun μ κ j => by
    have e : args.map (renV μ κ) = args := by
      have : args.map (renV μ κ) = args.map id := List.map_congr_left fun x hx => ren_pure _ _ 6 x (ha x hx)
      simpa using this
    rw [List.map_append, e]
    simp [renAd, capE]
  refine (FuncSem.ofCalls (E := envU goods wilds 2 rules) (fun μ κ w hrel => ⟨hE.enter f fn hf hb _ _, ?_⟩) (fun D _ _ => WF.pure hv) n).env hP
  rw [argsE, ren_pure μ κ 6 v hv]
  obtain ⟨c, e, fr, q1, q2, q3⟩ := (hrel.blk k b hb1).cells_pure hi hcells (strs_pure ns)
  have q2 := q2 hown
  obtain ⟨a, r0⟩ := relU A hrel.below
  have r1 := r0.rename (tabsU_wf _ _) (Nat.le_succ _) (μ k)
  have eN : upd (upd id Tryz.prog.globals.size a.block) (Tryz.prog.globals.size + 1) (μ k) (Tryz.prog.globals.size + 1) = μ k := upd_same _ _ _
  have r2 := r1.consG (g := Tryz.prog.globals.size + 1) (roBlk_ok (strs_pure ns) (by rw [eN]; exact q1) q3) fun i x hi e => by
    rw [eN] at e
    have hi' := (tabsU_wf _ _ i x hi).1
    have hig : i < Tryz.prog.globals.size := by
      unfold tabsU at hi
      rw [getBlk_cons] at hi
      split at hi
      · rename_i ek; rw [← ek]; exact ltB (by kernel_rfl)
      · rw [getBlk_cons] at hi
        split at hi
        · rename_i ek; rw [← ek]; exact ltB (by kernel_rfl)
        · exact (getE_lt hi).1
    rw [upd_other _ _ (by omega), upd_other _ _ (by omega)] at e
    have hlow := A.low
    simp only [id] at e
    omega
  exact calls_by hE envU_loops hf hb (hk a.off a.spot) r2 (((tabsU_wf _ _).mono fun j hj => Nat.lt_succ_of_lt hj).cons (Nat.lt_succ_self _) (roBlk_wf (strs_pure ns))) (fun x hx => by
    rcases List.mem_append.1 hx with hx | hx
    · exact WF.pure (ha x hx)
    · simp only [List.mem_singleton] at hx
      subst hx
      exact WF.slc.2 (Nat.lt_succ_self _)) (by rw [argsE, eN]) hv (by show Tryz.prog.globals.size ≤ Tryz.prog.globals.size + 2; omega)

end Go.Proofs.YtapmcocefoccdaaGreatDoor
