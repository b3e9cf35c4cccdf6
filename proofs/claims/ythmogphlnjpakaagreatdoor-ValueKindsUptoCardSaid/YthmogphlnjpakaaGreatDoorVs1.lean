/-
  utf8.ValidString: the shelf's contract, laid at this translation by names; what it tells of a text.
  Equality of structs in an environment; the examples of the law's package 11.
-/
import Derived.Shelf.Unicode.ValidAny
import Derived.Test.YthmogphlnjpakaaGreatDoorXo1
import Derived.Test.YthmogphlnjpakaaGreatDoorPeT1
import Derived.Lib.LaidU8T

namespace Go.Proofs.YthmogphlnjpakaaGreatDoor
open Go Go.Pe Go.RowKit Go.Shelf
def vren : Go.Shelf.Ren := ⟨fun | 196 => 15 | 259 => 67 | n => n,
  fun | 0 => 0 | 3 => 3 | 4 => 4 | 5 => 5 | 9 => 9 | 12 => 12 | 46 => 107 | 53 => 84 | 119 => 103 | 138 => 105 | 139 => 106 | n => n, fun | 3 => 0 | 4 => 1 | n => n⟩
theorem lays196 : Go.Proofs.Lays.n196 Tryz.prog vren := {
  mixed := by kernel_rfl
  f196 := Tryz.func15.trans (congrArg some (by kernel_rfl))
  f259 := Tryz.func67.trans (congrArg some (by kernel_rfl))
  t0 := Tryz.underlying0
  a0 := Tryz.isAgg0
  z0 := Tryz.sizeOf0
  v0 := Tryz.zeroValue0
  t3 := Tryz.underlying3
  a3 := Tryz.isAgg3
  z3 := Tryz.sizeOf3
  v3 := Tryz.zeroValue3
  t4 := Tryz.underlying4
  a4 := Tryz.isAgg4
  z4 := Tryz.sizeOf4
  v4 := Tryz.zeroValue4
  t5 := Tryz.underlying5
  a5 := Tryz.isAgg5
  z5 := Tryz.sizeOf5
  v5 := Tryz.zeroValue5
  t9 := Tryz.underlying9
  a9 := Tryz.isAgg9
  z9 := Tryz.sizeOf9
  v9 := Tryz.zeroValue9
  t12 := Tryz.underlying12
  a12 := Tryz.isAgg12
  z12 := Tryz.sizeOf12
  v12 := Tryz.zeroValue12
  t46 := Tryz.underlying107
  a46 := Tryz.isAgg107
  z46 := Tryz.sizeOf107
  v46 := Tryz.zeroValue107
  t53 := Tryz.underlying84
  a53 := Tryz.isAgg84
  z53 := Tryz.sizeOf84
  v53 := Tryz.zeroValue84
  t119 := Tryz.underlying103
  a119 := Tryz.isAgg103
  z119 := Tryz.sizeOf103
  t138 := Tryz.underlying105
  a138 := Tryz.isAgg105
  z138 := Tryz.sizeOf105
  v138 := Tryz.zeroValue105
  t139 := Tryz.underlying106
  a139 := Tryz.isAgg106
  z139 := Tryz.sizeOf106
  v139 := Tryz.zeroValue106
  g3 := by kernel_rfl
  g4 := by kernel_rfl }
theorem ltN {a b : Nat} (h : Nat.ble (a + 1) b = true) : a < b := Nat.le_of_ble_eq_true h
theorem utf8_below {g3 g4 : Nat} {base w : World} (h : Lib.Utf8Tabs g3 g4 base) (hb : Below base.heap.size base w) (h3 : g3 < base.heap.size) (h4 : g4 < base.heap.size) : Lib.Utf8Tabs g3 g4 w := by
  have key : ∀ g off, g < base.heap.size → w.cell? ⟨g, off, none⟩ = base.cell? ⟨g, off, none⟩ := fun g off hg => by
    unfold World.cell?
    rw [hb.block g hg]
  refine ⟨fun c hc => ?_, fun i hi => ?_⟩
  · rw [key _ _ h3]; exact h.1 c hc
  · rw [key _ _ h4, key _ _ h4]; exact h.2 i hi
def Utf8At (w : World) : Prop := Lib.Utf8Tabs 0 1 w
theorem valid_totA {base : World} (hlow : Tryz.prog.globals.size ≤ base.heap.size) (hU : Utf8At base) (s : ByteArray) (hs : s.size ≤ 9223372036854775807) (E : Env) (hP : E.P = Tryz.prog) (h : Heap) (n : Nat) :
    FuncSem E base 15 [.string s] h n (.bool (Lib.validD s.data.toList)) h n big := by
  have hE' : EnvOk (env []) base := env_ok (rules := []) (fun _ h => by cases h)
  refine (FuncSem.ofContract (E := env []) hE' (fn := Tryz.f15) Tryz.func15 (by kernel_rfl) (pure1 (by kernel_rfl)) (by kernel_rfl) fun w hb => ?_).env hP
  have h3 : 0 < base.heap.size := Nat.lt_of_lt_of_le (ltN (by kernel_rfl)) hlow
  have h4 : 1 < base.heap.size := Nat.lt_of_lt_of_le (ltN (by kernel_rfl)) hlow
  exact (Any.utf8_ValidString lays196 s w hs (utf8_below hU hb h3 h4) : Calls Tryz.prog 15 #[.string s] w _)
theorem valid_tot {base : World} (hlow : Tryz.prog.globals.size ≤ base.heap.size) (hU : Utf8At base) (s : ByteArray) (hs : s.size ≤ 9223372036854775807) : Tot base 15 [.string s] (.bool (Lib.validD s.data.toList)) := fun E hP h _ m =>
  valid_totA hlow hU s hs E hP h m
theorem firstSame : Rows.laid_unicode_utf8_first = Lib.firstData := by kernel_rfl
theorem acceptSame : (Rows.laid_unicode_utf8_acceptRanges : DataW Unit) = Lib.acceptData := by kernel_rfl
theorem utf8_at {W : World} {l : List (String × DataW Unit)} (h : laidMet Tryz.prog l W) (h1 : ("unicode/utf8.first", Rows.laid_unicode_utf8_first) ∈ l) (h2 : ("unicode/utf8.acceptRanges", Rows.laid_unicode_utf8_acceptRanges) ∈ l) : Utf8At W := by
  rw [firstSame] at h1
  rw [acceptSame] at h2
  exact utf8Tabs_of_readsT (U8Types.of196 lays196) ⟨by kernel_rfl, by kernel_rfl, by kernel_rfl, by kernel_rfl, by kernel_rfl, by kernel_rfl, by kernel_rfl⟩ (Lib.laidMet.reads h h1) (Lib.laidMet.reads h h2)
end Go.Proofs.YthmogphlnjpakaaGreatDoor

namespace Go.Proofs.YthmogphlnjpakaaGreatDoor
open Go Go.Pe Go.RowKit
theorem ltB {a b : Nat} (h : Nat.ble (a + 1) b = true) : a < b := Nat.le_of_ble_eq_true h
def eqTs : List TypeId := [88, 86, 24, 121, 125, 129]
theorem eqTs_ok : ∀ t ∈ eqTs, Tryz.prog.eqGuardType Tryz.prog.depth t = false := by
  unfold eqTs
  exact List.forall_mem_cons.2 ⟨by kernel_rfl, List.forall_mem_cons.2 ⟨by kernel_rfl, List.forall_mem_cons.2 ⟨by kernel_rfl, List.forall_mem_cons.2 ⟨by kernel_rfl, List.forall_mem_cons.2 ⟨by kernel_rfl, List.forall_mem_cons.2 ⟨by kernel_rfl, fun _ h => nomatch h⟩⟩⟩⟩⟩⟩
noncomputable def envC (rules : List (Nat × Rule)) : Env :=
  { P := Tryz.prog, isBool := bools, oracle := findR rules, eqAgg := eqA (env []) eqTs, loops := 100000, loopP := fun _ _ => none, guess := fun _ _ => none, strF := strAt }
theorem envC_ok {rules : List (Nat × Rule)} {base : World} (hr : ∀ x ∈ rules, RuleOk Tryz.prog base x.1 x.2) : EnvOk (envC rules) base :=
  envOk_of (E := envC rules) rfl rfl mixed_ok plain_ok hr fun t a b r h μ κ w => eqA_sound (E := env []) eqTs_ok t a b r h μ κ w
theorem envC_loops {rules : List (Nat × Rule)} {base : World} : LoopsOk (envC rules) base := fun _ _ _ _ _ _ h => by cases h
noncomputable def errBlk (off : Nat) (spot : Option Nat) : Blk := { cells := [some (.iface 334 (.pointer (some ⟨Tryz.prog.globals.size, off, spot⟩)))], elem := 0, own := false, room := 0, iter := none }
noncomputable def tabsE (off : Nat) (spot : Option Nat) : Heap := (6, errBlk off spot) :: tabs
set_option maxRecDepth 1000000 in
theorem awake11_tree (off : Nat) (spot : Option Nat) : (funcK (envC rules1) 80 10 [] (tabsE off spot) (Tryz.prog.globals.size + 1) fun u _ _ mw => u = .bool true ∧ Nat.ble (Tryz.prog.globals.size + 1) mw = true) = (Value.bool true = Value.bool true ∧ true = true) := by
  kernel_rfl
def ErrAt (w : World) : Prop := ∃ (a : Addr) (cs : Array Value) (e : TypeId) (fr : Nat × Nat), w.heap[6]? = some (.cells cs e fr) ∧ cs[0]? = some (.iface 334 (.pointer (some a)))
theorem tabsE_wf (off : Nat) (spot : Option Nat) : HWF (· < Tryz.prog.globals.size + 1) (tabsE off spot) := by
  unfold tabsE
  refine (tabs_ok.mono fun k hk => Nat.lt_succ_of_lt hk).cons (Nat.lt_succ_of_lt (ltB (by kernel_rfl))) fun v hv => ?_
  simp only [errBlk, List.mem_singleton, Option.some.injEq] at hv
  subst hv
  exact WF.iface.2 (WF.ptr.2 (Nat.lt_succ_self _))
theorem relE {w : World} (hg : Tryz.prog.globals.size ≤ w.heap.size) (hT : Lib.TabIs Tryz.prog w "internal/strconv.uint64pow10" .u64 pow10s) (gPow : Tryz.prog.globalNamed "internal/strconv.uint64pow10" = some 5)
    {a : Addr} {cs : Array Value} {e : TypeId} {fr : Nat × Nat} (h1 : w.heap[6]? = some (.cells cs e fr)) (h2 : cs[0]? = some (.iface 334 (.pointer (some a)))) :
    Rel Tryz.prog w (upd id Tryz.prog.globals.size a.block) (fun _ => 0) (tabsE a.off a.spot) w := by
  have low : ∀ g, g < Tryz.prog.globals.size → upd id Tryz.prog.globals.size a.block g = g := fun g hg => upd_other _ _ (by omega)
  have g1 : 6 < Tryz.prog.globals.size := ltB (by kernel_rfl)
  have g2 : 5 < Tryz.prog.globals.size := ltB (by kernel_rfl)
  have bp := blkOk_tab hT gPow
  refine ⟨Below.refl _ _, fun k b hb => ?_, fun i j x y hx hy hxy => ?_, low, hg⟩
  · unfold tabsE at hb
    rw [getBlk_cons] at hb
    split at hb
    · rename_i ek
      subst ek
      cases hb
      have key : ∃ c e fr, w.heap[upd id Tryz.prog.globals.size a.block 6]? = some (.cells c e fr) ∧ ((errBlk a.off a.spot).own = true → e = (errBlk a.off a.spot).elem ∧ w.heap.size ≤ upd id Tryz.prog.globals.size a.block 6 ∧ fr = (0, 0)) ∧
          (errBlk a.off a.spot).cells.length ≤ c.size ∧ (∀ (j : Nat) v, (errBlk a.off a.spot).cells[j]? = some (some v) → c[j]? = some (renV (upd id Tryz.prog.globals.size a.block) (fun _ => 0) v)) ∧ ((errBlk a.off a.spot).room ≠ 0 → c.size = 0 * (errBlk a.off a.spot).room) ∧
          ((errBlk a.off a.spot).room = 0 → (errBlk a.off a.spot).own = true → c.size = (errBlk a.off a.spot).cells.length) := by
        refine ⟨cs, e, fr, by rw [low _ g1]; exact h1, fun h => (by cases h), ?_, fun j v hj => ?_, fun h => absurd rfl h, fun _ h => (by cases h)⟩
        · have := (Array.getElem?_eq_some_iff.1 h2).1
          show 1 ≤ cs.size
          omega
        · match j, hj with
          | 0, hj =>
            have hv : v = .iface 334 (.pointer (some ⟨Tryz.prog.globals.size, a.off, a.spot⟩)) := by
              simpa [errBlk] using hj.symm
            subst hv
            rw [h2]
            simp [renAd, upd_same]
          | j + 1, hj => simp [errBlk] at hj
      exact key
    · unfold tabs at hb
      rw [getBlk_cons] at hb
      split at hb
      · rename_i ek
        subst ek
        cases hb
        refine bp.same (low _ g2) rfl (fun v hv => ?_) rfl
        simp only [tabBlk, List.mem_map, Option.some.injEq] at hv
        obtain ⟨z, _, rfl⟩ := hv
        rfl
      · simp [getBlk] at hb
  · have hlt : ∀ i x, getBlk (tabsE a.off a.spot) i = some x → i < Tryz.prog.globals.size := fun i x hx => by
      unfold tabsE tabs at hx
      rw [getBlk_cons] at hx
      split at hx
      · rename_i ek
        rw [← ek]
        exact g1
      · rw [getBlk_cons] at hx
        split at hx
        · rename_i ek
          rw [← ek]
          exact g2
        · simp [getBlk] at hx
    rw [low _ (hlt i x hx), low _ (hlt j y hy)] at hxy
    exact hxy
theorem calls_at {E : Env} {base : World} (hE : EnvOk E base) (hL : LoopsOk E base) {d : Nat} {f : FuncId} {fn : Func} (hf : E.P.funcs[f]? = some fn) (hb : fn.body.isSome = true) {h : Heap} {n : Nat} {v : Value} {μ κ : Nat → Nat}
    (hk : (funcK E d f [] h n fun u _ _ mw => u = v ∧ Nat.ble n mw = true) = (v = v ∧ true = true)) (hrel : Rel E.P base μ κ h base) (hh : HWF (· < n) h) (hv : pureV 6 v = true) (hg : E.P.globals.size ≤ n) :
    Calls E.P f #[] base fun e w' => e = .returned v ∧ Below base.heap.size base w' := by
  obtain ⟨u, h', n', mw, ⟨rfl, hmw⟩, hs⟩ := funcK_sound hE hL d f [] h n _ (cast hk.symm ⟨rfl, rfl⟩)
  have hout := hs.2 μ κ base hrel hh (fun _ h => by cases h) hg
  rw [hE.enter f fn hf hb] at hout
  refine hout.2.mono fun e w' ⟨x, he, μ', κ', hst, hx, hr⟩ => ?_
  subst he
  rw [hx, ren_pure _ _ 6 u hv]
  exact ⟨rfl, hr.below⟩
theorem awake11_calls {w : World} (hg : Tryz.prog.globals.size ≤ w.heap.size) (hT : Lib.TabIs Tryz.prog w "internal/strconv.uint64pow10" .u64 pow10s) (gPow : Tryz.prog.globalNamed "internal/strconv.uint64pow10" = some 5) (hE : ErrAt w) :
    Calls Tryz.prog 10 #[] w fun e w' => e = .returned (.bool true) ∧ Below w.heap.size w w' := by
  obtain ⟨a, cs, e, fr, h1, h2⟩ := hE
  exact calls_at (envC_ok (rules1_ok w)) envC_loops Tryz.func10 (by kernel_rfl) (awake11_tree a.off a.spot) (relE hg hT gPow h1 h2) (tabsE_wf _ _) (by kernel_rfl) (Nat.le_succ _)
theorem awake11_tot {base : World} (B : Begun base) (gPow : Tryz.prog.globalNamed "internal/strconv.uint64pow10" = some 5) (hE : ErrAt base) : Tot base 10 [] (.bool true) := fun E hP h _ m => by
  have hE' : EnvOk (env []) base := env_ok (rules := []) (fun _ h => by cases h)
  refine (FuncSem.ofContract (E := env []) hE' (fn := Tryz.f10) Tryz.func10 (by kernel_rfl) (fun _ h => by cases h) (by kernel_rfl) fun w hb => ?_).env hP
  have e : Lib.pow10Tab = pow10s := by decide
  refine awake11_calls (Nat.le_trans B.low hb.size) (by rw [← e]; exact tabIs_base B.tab B.low hb) gPow ?_
  obtain ⟨a, cs, t, fr, h1, h2⟩ := hE
  have g1 : 6 < base.heap.size := Nat.lt_of_lt_of_le (ltB (by kernel_rfl)) B.low
  exact ⟨a, cs, t, fr, by rw [hb.block _ g1]; exact h1, h2⟩
end Go.Proofs.YthmogphlnjpakaaGreatDoor
