/-
  Equality of structs in an environment; the examples of the law's package 11.
-/
import Derived.Test.YtdbjbmdaekgbhaaGreatDoorPeP1
import Derived.Test.YtdbjbmdaekgbhaaGreatDoorFa
namespace Go.Proofs.YtdbjbmdaekgbhaaGreatDoor
open Go Go.Pe Go.RowKit

theorem ltB {a b : Nat} (h : Nat.ble (a + 1) b = true) : a < b := Nat.le_of_ble_eq_true h

def eqTs : List TypeId := [28, 24, 79, 58, 62, 64]
theorem eqTs_ok : ∀ t ∈ eqTs, Tryz.prog.eqGuardType Tryz.prog.depth t = false := by
  unfold eqTs
  exact List.forall_mem_cons.2 ⟨by kernel_rfl, List.forall_mem_cons.2 ⟨by kernel_rfl, List.forall_mem_cons.2 ⟨by kernel_rfl, List.forall_mem_cons.2 ⟨by kernel_rfl, List.forall_mem_cons.2 ⟨by kernel_rfl, List.forall_mem_cons.2 ⟨by kernel_rfl, fun _ h => nomatch h⟩⟩⟩⟩⟩⟩

/-- Environments in which structs are held against each other: one that parts bools, one that doesn't. -/
noncomputable def envC (rules : List (Nat × Rule)) : Env :=
  { P := Tryz.prog, isBool := bools, oracle := findR rules, eqAgg := eqA (env []) eqTs, loops := 100000, loopP := fun _ _ => none, guess := fun _ _ => none, strF := strAt }
theorem envC_ok {rules : List (Nat × Rule)} {base : World} (hr : ∀ x ∈ rules, RuleOk Tryz.prog base x.1 x.2) : EnvOk (envC rules) base :=
  envOk_of (E := envC rules) rfl rfl mixed_ok plain_ok hr fun t a b r h μ κ w => eqA_sound (E := env []) eqTs_ok t a b r h μ κ w
theorem envC_loops {rules : List (Nat × Rule)} {base : World} : LoopsOk (envC rules) base := fun _ _ _ _ _ _ h => by cases h
/-- What the evaluator is told of the error's variable: it holds a pointer. -/
noncomputable def errBlk (off : Nat) (spot : Option Nat) : Blk := { cells := [some (.iface 316 (.pointer (some ⟨Tryz.prog.globals.size, off, spot⟩)))], elem := 0, own := false, room := 0, iter := none }
noncomputable def tabsE (off : Nat) (spot : Option Nat) : Heap := (5, errBlk off spot) :: tabs

set_option maxRecDepth 1000000 in
theorem awake11_tree (off : Nat) (spot : Option Nat) : (funcK (envC rules1) 80 45 [] (tabsE off spot) (Tryz.prog.globals.size + 1) fun u _ _ mw => u = .bool true ∧ Nat.ble (Tryz.prog.globals.size + 1) mw = true) = (Value.bool true = Value.bool true ∧ true = true) := by
  kernel_rfl

/-- The error's variable holds a pointer. -/
def ErrAt (w : World) : Prop := ∃ (a : Addr) (cs : Array Value) (e : TypeId) (fr : Nat × Nat), w.heap[5]? = some (.cells cs e fr) ∧ cs[0]? = some (.iface 316 (.pointer (some a)))

theorem tabsE_wf (off : Nat) (spot : Option Nat) : HWF (· < Tryz.prog.globals.size + 1) (tabsE off spot) := by
  unfold tabsE
  refine (tabs_ok.mono fun k hk => Nat.lt_succ_of_lt hk).cons (Nat.lt_succ_of_lt (ltB (by kernel_rfl))) fun v hv => ?_
  simp only [errBlk, List.mem_singleton, Option.some.injEq] at hv
  subst hv
  exact WF.iface.2 (WF.ptr.2 (Nat.lt_succ_self _))

theorem relE {w : World} (hg : Tryz.prog.globals.size ≤ w.heap.size) (hT : Lib.TabIs Tryz.prog w "internal/strconv.uint64pow10" .u64 pow10s) (gPow : Tryz.prog.globalNamed "internal/strconv.uint64pow10" = some 7)
    {a : Addr} {cs : Array Value} {e : TypeId} {fr : Nat × Nat} (h1 : w.heap[5]? = some (.cells cs e fr)) (h2 : cs[0]? = some (.iface 316 (.pointer (some a)))) :
    Rel Tryz.prog w (upd id Tryz.prog.globals.size a.block) (fun _ => 0) (tabsE a.off a.spot) w := by
  have low : ∀ g, g < Tryz.prog.globals.size → upd id Tryz.prog.globals.size a.block g = g := fun g hg => upd_other _ _ (by omega)
  have g1 : 5 < Tryz.prog.globals.size := ltB (by kernel_rfl)
  have g2 : 7 < Tryz.prog.globals.size := ltB (by kernel_rfl)
  have bp := blkOk_tab hT gPow
  refine ⟨Below.refl _ _, fun k b hb => ?_, fun i j x y hx hy hxy => ?_, low, hg⟩
  · unfold tabsE at hb
    rw [getBlk_cons] at hb
    split at hb
    · rename_i ek
      subst ek
      cases hb
      have key : ∃ c e fr, w.heap[upd id Tryz.prog.globals.size a.block 5]? = some (.cells c e fr) ∧ ((errBlk a.off a.spot).own = true → e = (errBlk a.off a.spot).elem ∧ w.heap.size ≤ upd id Tryz.prog.globals.size a.block 5 ∧ fr = (0, 0)) ∧
          (errBlk a.off a.spot).cells.length ≤ c.size ∧ (∀ (j : Nat) v, (errBlk a.off a.spot).cells[j]? = some (some v) → c[j]? = some (renV (upd id Tryz.prog.globals.size a.block) (fun _ => 0) v)) ∧ ((errBlk a.off a.spot).room ≠ 0 → c.size = 0 * (errBlk a.off a.spot).room) ∧
          ((errBlk a.off a.spot).room = 0 → (errBlk a.off a.spot).own = true → c.size = (errBlk a.off a.spot).cells.length) := by
        refine ⟨cs, e, fr, by rw [low _ g1]; exact h1, fun h => (by cases h), ?_, fun j v hj => ?_, fun h => absurd rfl h, fun _ h => (by cases h)⟩
        · have := (Array.getElem?_eq_some_iff.1 h2).1
          show 1 ≤ cs.size
          omega
        · match j, hj with
          | 0, hj =>
            have hv : v = .iface 316 (.pointer (some ⟨Tryz.prog.globals.size, a.off, a.spot⟩)) := by
              simpa [errBlk] using hj.symm
            subst hv
            rw [h2]
            simp [renAd, upd_same]
          | j + 1, hj => simp [errBlk] at hj
      exact key
    · unfold tabs at hb
      rw [getBlk_cons] at hb
      split at hb
      · rename_i ek
        subst ek
        cases hb
        refine bp.same (low _ g2) rfl (fun v hv => ?_) rfl
        simp only [tabBlk, List.mem_map, Option.some.injEq] at hv
        obtain ⟨z, _, rfl⟩ := hv
        rfl
      · simp [getBlk] at hb
  · have hlt : ∀ i x, getBlk (tabsE a.off a.spot) i = some x → i < Tryz.prog.globals.size := fun i x hx => by
      unfold tabsE tabs at hx
      rw [getBlk_cons] at hx
      split at hx
      · rename_i ek
        rw [← ek]
        exact g1
      · rw [getBlk_cons] at hx
        split at hx
        · rename_i ek
          rw [← ek]
          exact g2
        · simp [getBlk] at hx
    rw [low _ (hlt i x hx), low _ (hlt j y hy)] at hxy
    exact hxy

/-- A closed call's word as a contract, at a world that the evaluator is told of by some names. -/
theorem calls_at {E : Env} {base : World} (hE : EnvOk E base) (hL : LoopsOk E base) {d : Nat} {f : FuncId} {fn : Func} (hf : E.P.funcs[f]? = some fn) (hb : fn.body.isSome = true) {h : Heap} {n : Nat} {v : Value} {μ κ : Nat → Nat}
    (hk : (funcK E d f [] h n fun u _ _ mw => u = v ∧ Nat.ble n mw = true) = (v = v ∧ true = true)) (hrel : Rel E.P base μ κ h base) (hh : HWF (· < n) h) (hv : pureV 6 v = true) (hg : E.P.globals.size ≤ n) :
    Calls E.P f #[] base fun e w' => e = .returned v ∧ Below base.heap.size base w' := by
  obtain ⟨u, h', n', mw, ⟨rfl, hmw⟩, hs⟩ := funcK_sound hE hL d f [] h n _ (cast hk.symm ⟨rfl, rfl⟩)
  have hout := hs.2 μ κ base hrel hh (fun _ h => by cases h) hg
  rw [hE.enter f fn hf hb] at hout
  refine hout.2.mono fun e w' ⟨x, he, μ', κ', hst, hx, hr⟩ => ?_
  subst he
  rw [hx, ren_pure _ _ 6 u hv]
  exact ⟨rfl, hr.below⟩

/-- The examples are right, in every such world. -/
theorem awake11_calls {w : World} (hg : Tryz.prog.globals.size ≤ w.heap.size) (hT : Lib.TabIs Tryz.prog w "internal/strconv.uint64pow10" .u64 pow10s) (gPow : Tryz.prog.globalNamed "internal/strconv.uint64pow10" = some 7) (hE : ErrAt w) :
    Calls Tryz.prog 45 #[] w fun e w' => e = .returned (.bool true) ∧ Below w.heap.size w w' := by
  obtain ⟨a, cs, e, fr, h1, h2⟩ := hE
  exact calls_at (envC_ok (rules1_ok w)) envC_loops Tryz.func45 (by kernel_rfl) (awake11_tree a.off a.spot) (relE hg hT gPow h1 h2) (tabsE_wf _ _) (by kernel_rfl) (Nat.le_succ _)

/-- So it is told of a call amid others. -/
theorem awake11_tot {base : World} (B : Begun base) (gPow : Tryz.prog.globalNamed "internal/strconv.uint64pow10" = some 7) (hE : ErrAt base) : Tot base 45 [] (.bool true) := fun E hP h _ m => by
  have hE' : EnvOk (env []) base := env_ok (rules := []) (fun _ h => by cases h)
  refine (FuncSem.ofContract (E := env []) hE' (fn := Tryz.f45) Tryz.func45 (by kernel_rfl) (fun _ h => by cases h) (by kernel_rfl) fun w hb => ?_).env hP
  have e : Lib.pow10Tab = pow10s := by decide
  refine awake11_calls (Nat.le_trans B.low hb.size) (by rw [← e]; exact tabIs_base B.tab B.low hb) gPow ?_
  obtain ⟨a, cs, t, fr, h1, h2⟩ := hE
  have g1 : 5 < base.heap.size := Nat.lt_of_lt_of_le (ltB (by kernel_rfl)) B.low
  exact ⟨a, cs, t, fr, by rw [hb.block _ g1]; exact h1, h2⟩

end Go.Proofs.YtdbjbmdaekgbhaaGreatDoor
