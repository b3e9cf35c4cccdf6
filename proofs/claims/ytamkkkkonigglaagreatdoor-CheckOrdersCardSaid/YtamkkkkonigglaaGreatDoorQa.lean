/-
  The environment of closed runs of a program's reader: tables, the error's variable, calls whose results are had already.
-/
import Derived.Test.YtamkkkkonigglaaGreatDoorPeT
import Derived.Test.YtamkkkkonigglaaGreatDoorPeS
import Derived.Test.YtamkkkkonigglaaGreatDoorRows
import Derived.Lib.LaidTab
namespace Go.Proofs.YtamkkkkonigglaaGreatDoor
open Go Go.Pe Go.RowKit

theorem ltB {a b : Nat} (h : Nat.ble (a + 1) b = true) : a < b := Nat.le_of_ble_eq_true h

def pow10s : List Int := [1, 10, 100, 1000, 10000, 100000, 1000000, 10000000, 100000000, 1000000000, 10000000000, 100000000000, 1000000000000, 10000000000000, 100000000000000, 1000000000000000, 10000000000000000, 100000000000000000, 1000000000000000000, 10000000000000000000]
def tabs : Heap := [(7, tabBlk .u64 pow10s)]
def bools (t : TypeId) : Bool := Nat.beq t 4
def rules0 : List (Nat × Rule) :=
  (185, ruleIndexByte) ::
  (178, ruleSame) ::
  (229, ruleAdd) ::
  []

theorem rules0_ok (base : World) : ∀ x ∈ rules0, RuleOk Tryz.prog base x.1 x.2 := by
  unfold rules0
  refine List.forall_mem_cons.2 ⟨ruleOk_indexByte (inPlace Tryz.f185 Tryz.func185 (by kernel_rfl) (by kernel_rfl) (by kernel_rfl) (by kernel_rfl)), ?_⟩
  refine List.forall_mem_cons.2 ⟨ruleOk_same (inPlace Tryz.f178 Tryz.func178 (by kernel_rfl) (by kernel_rfl) (by kernel_rfl) (by kernel_rfl)), ?_⟩
  refine List.forall_mem_cons.2 ⟨ruleOk_add (inPlace Tryz.f229 Tryz.func229 (by kernel_rfl) (by kernel_rfl) (by kernel_rfl) (by kernel_rfl)), ?_⟩
  exact fun _ h => by cases h

theorem plain_ok : plainOk Tryz.prog = true := by kernel_rfl
theorem mixed_ok : Tryz.prog.follows .mixedOrders = true := by kernel_rfl

/-- An environment of these rules. -/
noncomputable def env (rules : List (Nat × Rule)) : Env :=
  { P := Tryz.prog, isBool := bools, oracle := findR rules, eqAgg := fun _ _ _ => none, loops := 100000, loopP := fun _ _ => none, guess := fun _ _ => none, strF := strAt }

theorem env_ok {rules : List (Nat × Rule)} {base : World} (hr : ∀ x ∈ rules, RuleOk Tryz.prog base x.1 x.2) : EnvOk (env rules) base :=
  envOk_of (E := env rules) rfl rfl mixed_ok plain_ok hr fun _ _ _ _ h => by cases h

theorem tabs_ok : HWF (· < Tryz.prog.globals.size) tabs := hwf_of (by kernel_rfl)
theorem gPow : Tryz.prog.globalNamed "internal/strconv.uint64pow10" = some 7 := by kernel_rfl

def eqTs : List TypeId :=
  143 ::
  141 ::
  38 ::
  []
theorem eqTs_ok : ∀ t ∈ eqTs, Tryz.prog.eqGuardType Tryz.prog.depth t = false := by
  unfold eqTs
  repeat (refine List.forall_mem_cons.2 ⟨by kernel_rfl, ?_⟩)
  exact fun _ h => nomatch h

/-- What the evaluator is told of the error's variable: it holds a pointer. -/
noncomputable def errBlk (off : Nat) (spot : Option Nat) : Blk := { cells := [some (.iface 244 (.pointer (some ⟨Tryz.prog.globals.size, off, spot⟩)))], elem := 0, own := false, room := 0, iter := none }
noncomputable def tabsE (off : Nat) (spot : Option Nat) : Heap := (3, errBlk off spot) :: tabs

/-- The error's variable holds a pointer. -/
def ErrAt (w : World) : Prop := ∃ (a : Addr) (cs : Array Value) (e : TypeId) (fr : Nat × Nat), w.heap[3]? = some (.cells cs e fr) ∧ cs[0]? = some (.iface 244 (.pointer (some a)))

theorem tabsE_wf (off : Nat) (spot : Option Nat) : HWF (· < Tryz.prog.globals.size + 1) (tabsE off spot) := by
  unfold tabsE
  refine (tabs_ok.mono fun k hk => Nat.lt_succ_of_lt hk).cons (Nat.lt_succ_of_lt (ltB (by kernel_rfl))) fun v hv => ?_
  simp only [errBlk, List.mem_singleton, Option.some.injEq] at hv
  subst hv
  exact WF.iface.2 (WF.ptr.2 (Nat.lt_succ_self _))

theorem relE {w : World} (hg : Tryz.prog.globals.size ≤ w.heap.size) (hT : Lib.TabIs Tryz.prog w "internal/strconv.uint64pow10" .u64 pow10s) (gPow : Tryz.prog.globalNamed "internal/strconv.uint64pow10" = some 7)
    {a : Addr} {cs : Array Value} {e : TypeId} {fr : Nat × Nat} (h1 : w.heap[3]? = some (.cells cs e fr)) (h2 : cs[0]? = some (.iface 244 (.pointer (some a)))) :
    Rel Tryz.prog w (upd id Tryz.prog.globals.size a.block) (fun _ => 0) (tabsE a.off a.spot) w := by
  have low : ∀ g, g < Tryz.prog.globals.size → upd id Tryz.prog.globals.size a.block g = g := fun g hg => upd_other _ _ (by omega)
  have g1 : 3 < Tryz.prog.globals.size := ltB (by kernel_rfl)
  have g2 : 7 < Tryz.prog.globals.size := ltB (by kernel_rfl)
  have bp := blkOk_tab hT gPow
  refine ⟨Below.refl _ _, fun k b hb => ?_, fun i j x y hx hy hxy => ?_, low, hg⟩
  · unfold tabsE at hb
    rw [getBlk_cons] at hb
    split at hb
    · rename_i ek
      subst ek
      cases hb
      have key : ∃ c e fr, w.heap[upd id Tryz.prog.globals.size a.block 3]? = some (.cells c e fr) ∧ ((errBlk a.off a.spot).own = true → e = (errBlk a.off a.spot).elem ∧ w.heap.size ≤ upd id Tryz.prog.globals.size a.block 3 ∧ fr = (0, 0)) ∧
          (errBlk a.off a.spot).cells.length ≤ c.size ∧ (∀ (j : Nat) v, (errBlk a.off a.spot).cells[j]? = some (some v) → c[j]? = some (renV (upd id Tryz.prog.globals.size a.block) (fun _ => 0) v)) ∧ ((errBlk a.off a.spot).room ≠ 0 → c.size = 0 * (errBlk a.off a.spot).room) ∧
          ((errBlk a.off a.spot).room = 0 → (errBlk a.off a.spot).own = true → c.size = (errBlk a.off a.spot).cells.length) := by
        refine ⟨cs, e, fr, by rw [low _ g1]; exact h1, fun h => (by cases h), ?_, fun j v hj => ?_, fun h => absurd rfl h, fun _ h => (by cases h)⟩
        · have := (Array.getElem?_eq_some_iff.1 h2).1
          show 1 ≤ cs.size
          omega
        · match j, hj with
          | 0, hj =>
            have hv : v = .iface 244 (.pointer (some ⟨Tryz.prog.globals.size, a.off, a.spot⟩)) := by
              simpa [errBlk] using hj.symm
            subst hv
            rw [h2]
            simp [renAd, upd_same]
          | j + 1, hj => simp [errBlk] at hj
      exact key
    · unfold tabs at hb
      rw [getBlk_cons] at hb
      split at hb
      · rename_i ek
        subst ek
        cases hb
        refine bp.same (low _ g2) rfl (fun v hv => ?_) rfl
        simp only [tabBlk, List.mem_map, Option.some.injEq] at hv
        obtain ⟨z, _, rfl⟩ := hv
        rfl
      · simp [getBlk] at hb
  · have hlt : ∀ i x, getBlk (tabsE a.off a.spot) i = some x → i < Tryz.prog.globals.size := fun i x hx => by
      unfold tabsE tabs at hx
      rw [getBlk_cons] at hx
      split at hx
      · rename_i ek
        rw [← ek]
        exact g1
      · rw [getBlk_cons] at hx
        split at hx
        · rename_i ek
          rw [← ek]
          exact g2
        · simp [getBlk] at hx
    rw [low _ (hlt i x hx), low _ (hlt j y hy)] at hxy
    exact hxy

/-- The tables and the error's variable in a world. -/
structure AtP (base : World) : Prop where
  low : Tryz.prog.globals.size ≤ base.heap.size
  tab : Lib.TabIs Tryz.prog base "internal/strconv.uint64pow10" .u64 pow10s
  err : ErrAt base

/-- Blocks that are not a call's own are told of a later world as of an earlier one. -/
theorem _root_.Go.Pe.Rel.rebase {P : Program} {base w : World} {μ κ : Nat → Nat} {h : Heap} (hr : Rel P w μ κ h w) (ho : ∀ k b, getBlk h k = some b → b.own = false ∧ b.iter = none) (hb : Below base.heap.size base w) (hg : P.globals.size ≤ base.heap.size) : Rel P base μ κ h w := by
  refine ⟨hb, fun k b hk => ?_, hr.inj, hr.glob, hg⟩
  obtain ⟨h1, h2⟩ := ho k b hk
  obtain ⟨c, e, fr, q1, _, q3, q4, q5, _⟩ := (hr.blk k b hk).cells_some h2
  unfold BlkOk
  simp only [h2]
  exact ⟨c, e, fr, q1, fun h => (by rw [h1] at h; cases h), q3, q4, q5, fun _ h => (by rw [h1] at h; cases h)⟩

theorem tabsE_own (off : Nat) (spot : Option Nat) : ∀ k b, getBlk (tabsE off spot) k = some b → b.own = false ∧ b.iter = none := by
  intro k b hb
  unfold tabsE tabs at hb
  rw [getBlk_cons] at hb
  split at hb
  · cases hb; exact ⟨rfl, rfl⟩
  · rw [getBlk_cons] at hb
    split at hb
    · cases hb; exact ⟨rfl, rfl⟩
    · simp [getBlk] at hb

/-- Values held against each other, as a kernel does it. -/
def scEq : Value → Value → Bool
  | .string a, .string b => strEq a b
  | .int k a, .int l b => decide (k = l) && decide (a = b)
  | .bool a, .bool b => a == b
  | _, _ => false

def scsEq : List Value → List Value → Bool
  | [], [] => true
  | x :: l, y :: r => match scEq x y with | true => scsEq l r | false => false
  | _, _ => false

def argEq : Value → Value → Bool
  | .agg a, .agg b => scsEq a.toList b.toList
  | .slice none n c, .slice none m d => Nat.beq n m && Nat.beq c d
  | x, y => scEq x y

def argsEq : List Value → List Value → Bool
  | [], [] => true
  | x :: l, y :: r => match argEq x y with | true => argsEq l r | false => false
  | _, _ => false

theorem listEq_of : ∀ {a b : List UInt8}, listEq a b = true → a = b := by
  intro a
  induction a with
  | nil => intro b h; cases b <;> simp_all [listEq]
  | cons x a ih =>
    intro b h
    cases b with
    | nil => simp [listEq] at h
    | cons y b =>
      unfold listEq at h
      split at h
      · rename_i hb
        rw [ih h, UInt8.toNat_inj.1 (beq_true hb)]
      · cases h

theorem strEq_of {a b : ByteArray} (h : strEq a b = true) : a = b := by
  obtain ⟨⟨a⟩⟩ := a
  obtain ⟨⟨b⟩⟩ := b
  have : a = b := listEq_of h
  rw [this]

theorem scEq_of {x y : Value} (h : scEq x y = true) : x = y := by
  unfold scEq at h
  split at h
  · rw [strEq_of h]
  · simp only [Bool.and_eq_true, decide_eq_true_eq] at h
    rw [h.1, h.2]
  · rw [eq_of_beq h]
  · cases h

theorem scsEq_of : ∀ {l r : List Value}, scsEq l r = true → l = r := by
  intro l
  induction l with
  | nil => intro r h; cases r <;> simp_all [scsEq]
  | cons x l ih =>
    intro r h
    cases r with
    | nil => simp [scsEq] at h
    | cons y r =>
      unfold scsEq at h
      split at h
      · rename_i hb; rw [scEq_of hb, ih h]
      · cases h

theorem argEq_of {x y : Value} (h : argEq x y = true) : x = y := by
  unfold argEq at h
  split at h
  · exact congrArg Value.agg (Array.ext' (scsEq_of h))
  · simp only [Bool.and_eq_true] at h
    rw [beq_true h.1, beq_true h.2]
  · exact scEq_of h

theorem argsEq_of : ∀ {l r : List Value}, argsEq l r = true → l = r := by
  intro l
  induction l with
  | nil => intro r h; cases r <;> simp_all [argsEq]
  | cons x l ih =>
    intro r h
    cases r with
    | nil => simp [argsEq] at h
    | cons y r =>
      unfold argsEq at h
      split at h
      · rename_i hb; rw [argEq_of hb, ih h]
      · cases h

/-- A call of plain values returns this plain value, whatever the heap, and touches nothing. -/
def TotP (base : World) (f : FuncId) (args : List Value) (v : Value) : Prop := ∀ E : Env, E.P = Tryz.prog → ∀ (h : Heap) (n : Nat), FuncSem E base f args h n v h n big

def lookV : List (List Value × Value) → List Value → Option Value
  | [], _ => none
  | (xs, v) :: t, args => match argsEq xs args with | true => some v | false => lookV t args

theorem lookV_of : ∀ {t : List (List Value × Value)} {args : List Value} {v : Value}, lookV t args = some v → (args, v) ∈ t := by
  intro t
  induction t with
  | nil => intro args v h; simp [lookV] at h
  | cons x t ih =>
    obtain ⟨xs, u⟩ := x
    intro args v h
    unfold lookV at h
    split at h
    · rename_i hb
      cases h
      rw [argsEq_of hb]
      exact List.mem_cons_self ..
    · exact List.mem_cons_of_mem _ (ih h)

/-- Calls whose results are had already. -/
def ruleTab (t : List (List Value × Value)) : Rule := fun args h n => match lookV t args with
  | some v => some fun K => K v h n big
  | none => none

theorem ruleOk_tab {base : World} {f : FuncId} {t : List (List Value × Value)} (H : ∀ p ∈ t, TotP base f p.1 p.2) : RuleOk Tryz.prog base f (ruleTab t) := by
  intro E hE args h n T K hT hK
  unfold ruleTab at hT
  split at hT
  · rename_i v hv
    cases hT
    exact ⟨v, h, n, big, hK, H _ (lookV_of hv) E hE h n⟩
  · cases hT

/-! Codes that are right, reckoned once -/

def elemN (f : Nat) : List Nat → Bool
  | [] => false
  | x :: l => match Nat.beq x f with | true => true | false => elemN f l

noncomputable def goodF (P : Program) (f : Nat) : Bool := match P.funcs[f]? with
  | some fn => (match fn.body with | some c => codeOk P.globals.size c | none => true)
  | none => true

noncomputable def allGood (P : Program) : Nat → Bool
  | 0 => true
  | n + 1 => match goodF P n with | true => allGood P n | false => false

theorem good_of {P : Program} : ∀ {n : Nat}, allGood P n = true → ∀ f, f < n → goodF P f = true := by
  intro n
  induction n with
  | zero => intro _ f h; omega
  | succ n ih =>
    intro h f hf
    unfold allGood at h
    split at h
    · rename_i hx
      by_cases e : f = n
      · subst e; exact hx
      · exact ih h f (by omega)
    · cases h

theorem good_code {P : Program} {f : FuncId} {fn : Func} {c : Code} (h : goodF P f = true) (hf : P.funcs[f]? = some fn) (hb : fn.body = some c) : codeOk P.globals.size c = true := by
  unfold goodF at h
  rw [hf] at h
  simp only [hb] at h
  exact h

theorem tabP_base {base w : World} (hT : Lib.TabIs Tryz.prog base "internal/strconv.uint64pow10" .u64 pow10s) (hlt : Tryz.prog.globals.size ≤ base.heap.size) (hb : Below base.heap.size base w) :
    Lib.TabIs Tryz.prog w "internal/strconv.uint64pow10" .u64 pow10s := by
  unfold Lib.TabIs World.var? at hT ⊢
  rw [show Tryz.prog.globalNamed "internal/strconv.uint64pow10" = some 7 by kernel_rfl] at hT ⊢
  simp only [Option.bind_some] at hT ⊢
  have hg : 7 < base.heap.size := Nat.lt_of_lt_of_le (Nat.le_of_ble_eq_true (by kernel_rfl)) hlt
  rw [hb.block _ hg]
  exact hT

theorem AtP.over {base w : World} (A : AtP base) (hb : Below base.heap.size base w) : AtP w := by
  refine ⟨Nat.le_trans A.low hb.size, ?_, ?_⟩
  · exact tabP_base A.tab A.low hb
  · obtain ⟨a, cs, t, fr, h1, h2⟩ := A.err
    have g1 : 3 < base.heap.size := Nat.lt_of_lt_of_le (ltB (by kernel_rfl)) A.low
    exact ⟨a, cs, t, fr, by rw [hb.block _ g1]; exact h1, h2⟩

/-- The environment of closed runs: which functions are known to be right; in which regions a call does not see what is loaded beside it. -/
noncomputable def envP (goods : Nat) (wilds : List Nat) (rules : List (Nat × Rule)) : Env :=
  { P := Tryz.prog, isBool := bools, oracle := findR rules, eqAgg := eqA (env []) eqTs, loops := 100000, loopP := fun _ _ => none, guess := fun _ _ => none, strF := strAt, wild := fun f _ => elemN f wilds, sure := fun f => Nat.blt f goods,
    low := Tryz.prog.globals.size + 1 }

theorem envP_ok {goods : Nat} {wilds : List Nat} (hgood : allGood Tryz.prog goods = true) {rules : List (Nat × Rule)} {base : World} (hr : ∀ x ∈ rules, RuleOk Tryz.prog base x.1 x.2) : EnvOk (envP goods wilds rules) base :=
  envOk_of (E := envP goods wilds rules) rfl rfl mixed_ok plain_ok hr (fun t a b r h μ κ w => eqA_sound (E := env []) eqTs_ok t a b r h μ κ w) fun f _ _ hs hf hb => good_code (P := Tryz.prog) (good_of hgood f (Nat.le_of_ble_eq_true (show Nat.ble (f + 1) goods = true from hs))) hf hb
theorem envP_loops {goods : Nat} {wilds : List Nat} {rules : List (Nat × Rule)} {base : World} : LoopsOk (envP goods wilds rules) base := fun _ _ _ _ _ _ h => by cases h

/-- A closed run as a contract, at a later world that the evaluator is told of by some names. -/
theorem calls_over {E : Env} {base w : World} (hE : EnvOk E base) (hL : LoopsOk E base) {d : Nat} {f : FuncId} {fn : Func} (hf : E.P.funcs[f]? = some fn) (hb : fn.body.isSome = true) {args : List Value} {h : Heap} {n : Nat} {v : Value} {μ κ : Nat → Nat}
    (hk : (funcK E d f args h n fun u _ _ mw => u = v ∧ Nat.ble n mw = true) = (v = v ∧ true = true)) (hrel : Rel E.P base μ κ h w) (hh : HWF (· < n) h) (ha : ∀ x ∈ args, pureV 6 x = true) (hv : pureV 6 v = true) (hg : E.P.globals.size ≤ n) :
    Calls E.P f args.toArray w fun e w' => e = .returned v ∧ Below w.heap.size w w' := by
  obtain ⟨u, h', n', mw, ⟨rfl, hmw⟩, hs⟩ := funcK_sound hE hL d f args h n _ (cast hk.symm ⟨rfl, rfl⟩)
  have hout := hs.2 μ κ w hrel hh (fun x hx => WF.pure (ha x hx)) hg
  have hargs : args.map (renV μ κ) = args := by
    have : args.map (renV μ κ) = args.map id := List.map_congr_left fun x hx => ren_pure _ _ 6 x (ha x hx)
    simpa using this
  rw [hargs, hE.enter f fn hf hb] at hout
  refine hout.2.mono fun e w' ⟨x, he, μ', κ', hst, hx, hr'⟩ => ?_
  subst he
  rw [hx, ren_pure _ _ 6 u hv]
  have hmw := Nat.le_of_ble_eq_true hmw
  have b1 := hrel.below
  have b2 := hr'.below
  exact ⟨rfl, ⟨b2.os.trans b1.os.symm, b2.tape.trans b1.tape.symm, b2.output.trans b1.output.symm, hst.sz, fun k hk => hst.fr k hk fun j j1 j2 => by omega⟩⟩

/-- A closed run, told of every world. -/
theorem tot_closed {goods : Nat} {wilds : List Nat} (hgood : allGood Tryz.prog goods = true) {rules : List (Nat × Rule)} {base : World} (A : AtP base) (hr : ∀ x ∈ rules, RuleOk Tryz.prog base x.1 x.2) {d : Nat} {f : FuncId} {fn : Func} {args : List Value} {v : Value}
    (hf : Tryz.prog.funcs[f]? = some fn) (hb : fn.body.isSome = true) (ha : args.all (pureV 6) = true) (hv : pureV 6 v = true)
    (hk : ∀ off spot, (funcK (envP goods wilds rules) d f args (tabsE off spot) (Tryz.prog.globals.size + 1) fun u _ _ mw => u = v ∧ Nat.ble (Tryz.prog.globals.size + 1) mw = true) = (v = v ∧ true = true)) : TotP base f args v := fun E hP h n => by
  have hE : EnvOk (envP goods wilds rules) base := envP_ok (wilds := wilds) hgood hr
  have ha : ∀ x ∈ args, pureV 6 x = true := List.all_eq_true.1 ha
  refine (FuncSem.ofContract (E := envP goods wilds rules) hE hf hb ha hv fun w hbel => ?_).env hP
  have A' := A.over hbel
  obtain ⟨a, cs, t, fr, h1, h2⟩ := A'.err
  exact calls_over hE envP_loops hf hb (hk a.off a.spot) ((relE A'.low A'.tab gPow h1 h2).rebase (tabsE_own _ _) hbel A.low) (tabsE_wf _ _) ha hv (Nat.le_succ _)

end Go.Proofs.YtamkkkkonigglaaGreatDoor
