/-
  Closed runs whose result is a list in a new block that is not told, and a truth.
-/
import Derived.Test.YtamkkkkonigglaaGreatDoorBl
namespace Go.Pe
open Go Go.RowKit

/-- A contract whose call returns a value with a new block in it, not told. -/
theorem FuncSem.ofBlk {E : Env} {base : World} (hE : EnvOk E base) {f : FuncId} {fn : Func} (hf : E.P.funcs[f]? = some fn) (hb : fn.body.isSome = true) {args : List Value} (ha : ∀ x ∈ args, pureV 6 x = true) {va : Nat → Value} {vc : Nat → Nat → Value}
    (hv : ∀ (μ κ : Nat → Nat) (k : Nat), renV μ κ (va k) = vc (μ k) (κ k)) {h : Heap} {n : Nat}
    (H : ∀ w : World, Below base.heap.size base w → Calls E.P f args.toArray w fun ev w' => ∃ N C, ev = .returned (vc N C) ∧ w.heap.size ≤ N ∧ Below w.heap.size w w') :
    FuncSem E base f args h n (va n) h (n + 1) big := by
  refine ⟨⟨by omega, fun D hD hG hx hh => ⟨fun μ κ μ' κ' hd => ?_, hh.mono Dp_mono⟩⟩, fun μ κ w hr hh hx hg => ?_⟩
  · have hn := hd n (.inr ⟨by omega, by omega⟩)
    rw [hv, hv, hn.1, hn.2]
  have hargs : args.map (renV μ κ) = args := by
    have : args.map (renV μ κ) = args.map id := List.map_congr_left fun x hx => ren_pure _ _ 6 x (ha x hx)
    simpa using this
  rw [hargs, hE.enter f fn hf hb]
  refine ⟨rfl, (H w hr.below).mono fun ev w' ⟨N, C, he, hN, hw⟩ => ⟨_, he, upd μ n N, upd κ n C, ?_, ?_, ?_⟩⟩
  · refine ⟨by omega, fun k hk => ?_, hw.size, fun b hb _ => hw.block b hb, fun k h1 h2 => .inl ?_⟩
    · have : k ≠ n := by omega
      simp [upd, this]
    · have : k = n := by omega
      subst this
      simpa [upd] using hN
  · rw [hv, upd_same, upd_same]
  · have hg' := hr.grow hw
    refine ⟨hg'.below, fun k b hk => ?_, fun i j a b hi hj hij => ?_, fun g hgl => ?_, hg'.gsz⟩
    · obtain ⟨h1, h2⟩ := hh k b hk
      have hne : k ≠ n := by omega
      refine (hg'.blk k b hk).same (upd_other _ _ hne) (upd_other _ _ hne) (fun v hv => h2 v hv _ _ _ _ fun j hj => ?_) rfl
      have hj' : j ≠ n := by omega
      exact ⟨upd_other _ _ hj', upd_other _ _ hj'⟩
    · have h1 := (hh i a hi).1
      have h2 := (hh j b hj).1
      rw [upd_other _ _ (by omega), upd_other _ _ (by omega)] at hij
      exact hg'.inj i j a b hi hj hij
    · rw [upd_other _ _ (by omega)]
      exact hg'.glob g hgl
/-- A block's cells are told no more. -/
def forgetB (h : Heap) (b : Nat) : Heap := match getBlk h b with
  | some k => setBlk h b { cells := k.cells.map fun _ => none, elem := k.elem, own := k.own, room := k.room, iter := k.iter, sym := k.sym }
  | none => h
theorem forgetB_get {h : Heap} {b k : Nat} {x : Blk} (hx : getBlk (forgetB h b) k = some x) : ∃ y, getBlk h k = some y ∧ x.iter = y.iter ∧ x.own = y.own ∧ x.elem = y.elem ∧ x.room = y.room ∧ x.cells.length = y.cells.length ∧ ∀ (j : Nat) v, x.cells[j]? = some (some v) → y.cells[j]? = some (some v) := by
  unfold forgetB at hx
  split at hx
  · rename_i z hz
    rw [getBlk_set] at hx
    split at hx
    · rename_i e
      subst e
      rw [hz] at hx
      simp only [Option.map_some, Option.some.injEq] at hx
      subst hx
      exact ⟨z, hz, rfl, rfl, rfl, rfl, by simp, fun j v hj => by simp at hj⟩
    · exact ⟨x, hx, rfl, rfl, rfl, rfl, rfl, fun _ _ h => h⟩
  · exact ⟨x, hx, rfl, rfl, rfl, rfl, rfl, fun _ _ h => h⟩
theorem forgetB_has {h : Heap} {b k : Nat} {x : Blk} (hx : getBlk (forgetB h b) k = some x) {v : Value} (hv : some v ∈ x.cells) : ∃ y, getBlk h k = some y ∧ some v ∈ y.cells := by
  obtain ⟨y, h1, _, _, _, _, _, h2⟩ := forgetB_get hx
  obtain ⟨j, hj⟩ := List.getElem?_of_mem hv
  exact ⟨y, h1, List.mem_of_getElem? (h2 j v hj)⟩
theorem FuncSem.unsay {E : Env} {base : World} {f : FuncId} {args : List Value} {h h' : Heap} {n n' mw : Nat} {v : Value} (hs : FuncSem E base f args h n v h' n' mw) (b : Nat) : FuncSem E base f args h n v (forgetB h' b) n' mw := by
  obtain ⟨⟨s0, s1⟩, s2⟩ := hs
  refine ⟨⟨s0, fun D hD hG hx hh => ⟨(s1 D hD hG hx hh).1, fun k x hx' => ?_⟩⟩, fun μ κ w hr hh hx hg => ?_⟩
  · have hw := (s1 D hD hG hx hh).2
    obtain ⟨y, h1, _⟩ := forgetB_get hx'
    refine ⟨(hw k y h1).1, fun v hv => ?_⟩
    obtain ⟨z, k1, k2⟩ := forgetB_has hx' hv
    exact (hw k z k1).2 v k2
  have hout := s2 μ κ w hr hh hx hg
  have key : ∀ u w', Out E base h' v mw n n' μ κ w u w' → Out E base (forgetB h' b) v mw n n' μ κ w u w' := fun u w' ⟨μ', κ', st, hu, hrel⟩ => by
    refine ⟨μ', κ', st, hu, ⟨hrel.below, fun k x hk => ?_, fun i j x y hi hj hij => ?_, hrel.glob, hrel.gsz⟩⟩
    · obtain ⟨y, h1, e1, e2, e3, e4, e5, e6⟩ := forgetB_get hk
      have hq := hrel.blk k y h1
      unfold BlkOk at hq ⊢
      rw [e1]
      split
      · rename_i s p hi
        simpa [hi] using hq
      · rename_i hi
        simp only [hi] at hq
        obtain ⟨c, e, fr, k1, k2, k3, k4, k5, k6⟩ := hq
        rw [e2, e3, e4, e5]
        exact ⟨c, e, fr, k1, k2, k3, fun j v hj => k4 j v (e6 j v hj), k5, k6⟩
    · obtain ⟨x', hx', _⟩ := forgetB_get hi
      obtain ⟨y', hy', _⟩ := forgetB_get hj
      exact hrel.inj i j x' y' hx' hy' hij
  generalize (callFunc f (args.map (renV μ κ)).toArray).run E.P w = r at *
  cases r with
  | halt x w' => exact hout.elim
  | ok nx w' =>
    cases nx with
    | value u => exact key _ _ hout
    | skip => exact key _ _ hout
    | enter g gs =>
      obtain ⟨rfl, hc⟩ := hout
      exact ⟨rfl, hc.mono fun e w'' ⟨u, he, hu⟩ => ⟨u, he, key _ _ hu⟩⟩
    | _ => exact hout.elim
/-- A rule for a call of a pointer's method behind which what the pointer points to is told no more. -/
def ruleForget (R : Rule) : Rule := fun args h n => match args with
  | [.pointer (some ⟨b, 0, none⟩)] => (match R args h n with
    | some T => some fun K => T fun v h' n' mw => K v (forgetB h' b) n' mw
    | none => none)
  | _ => none
theorem ruleOk_forget {P : Program} {base : World} {f : FuncId} {R : Rule} (H : RuleOk P base f R) : RuleOk P base f (ruleForget R) := by
  intro E hE args h n T K hT hK
  unfold ruleForget at hT
  split at hT
  · rename_i b
    split at hT
    · rename_i T' hR
      cases hT
      obtain ⟨v, h', n', mw, hK', hs⟩ := H E hE _ h n T' _ hR hK
      exact ⟨v, _, n', mw, hK', hs.unsay b⟩
    · cases hT
  · cases hT
/-- A closed run whose result has a new block in it, at a later world that the evaluator is told of by some names. -/
theorem blk_over {E : Env} {base w : World} (hE : EnvOk E base) (hL : LoopsOk E base) {d : Nat} {f : FuncId} {fn : Func} (hf : E.P.funcs[f]? = some fn) (hb : fn.body.isSome = true) {args : List Value} {h : Heap} {n : Nat} {μ κ : Nat → Nat} {B : Value → Nat → Bool} {va : Nat → Value} {vc : Nat → Nat → Value}
    (hB : ∀ u n', B u n' = true → ∃ q, u = va q ∧ n ≤ q ∧ q < n') (hv : ∀ (μ κ : Nat → Nat) (k : Nat), renV μ κ (va k) = vc (μ k) (κ k))
    (hk : (funcK E d f args h n fun u _ n' mw => (B u n' && Nat.ble n mw) = true) = (true = true)) (hrel : Rel E.P base μ κ h w) (hh : HWF (· < n) h) (ha : ∀ x ∈ args, pureV 6 x = true) (hg : E.P.globals.size ≤ n) :
    Calls E.P f args.toArray w fun e w' => ∃ N C, e = .returned (vc N C) ∧ w.heap.size ≤ N ∧ Below w.heap.size w w' := by
  obtain ⟨u, h', n', mw, hu, hs⟩ := funcK_sound hE hL d f args h n _ (cast hk.symm rfl)
  simp only [Bool.and_eq_true] at hu
  obtain ⟨q, rfl, q1, q2⟩ := hB _ _ hu.1
  have hout := hs.2 μ κ w hrel hh (fun x hx => WF.pure (ha x hx)) hg
  have hargs : args.map (renV μ κ) = args := by
    have : args.map (renV μ κ) = args.map id := List.map_congr_left fun x hx => ren_pure _ _ 6 x (ha x hx)
    simpa using this
  rw [hargs, hE.enter f fn hf hb] at hout
  refine hout.2.mono fun e w' ⟨x, he, μ', κ', hst, hx, hr'⟩ => ?_
  subst he
  rw [hx, hv]
  have hmw := Nat.le_of_ble_eq_true hu.2
  have b1 := hrel.below
  have b2 := hr'.below
  refine ⟨_, _, rfl, ?_, ⟨b2.os.trans b1.os.symm, b2.tape.trans b1.tape.symm, b2.output.trans b1.output.symm, hst.sz, fun k hk => hst.fr k hk fun j j1 j2 => by omega⟩⟩
  rcases hst.nw q q1 q2 with h3 | ⟨j, j1, j2, _⟩
  · exact h3
  · omega
end Go.Pe
namespace Go.Proofs.YtamkkkkonigglaaGreatDoor
open Go Go.Pe Go.RowKit

/-- The builder's rules; behind String a builder is told no more. -/
def rulesF : List (Nat × Rule) := (95, ruleForget (ruleString 5)) :: rulesB
theorem rulesF_ok (base : World) : ∀ x ∈ rulesF, RuleOk Tryz.prog base x.1 x.2 := List.forall_mem_cons.2 ⟨ruleOk_forget ((List.forall_mem_cons.1 (rulesB_ok base)).1), rulesB_ok base⟩
def readV (m k : Nat) : Value := .tuple #[.slice (some ⟨k, 0, none⟩) m big, .bool true]
def readC (m N C : Nat) : Value := .tuple #[.slice (some ⟨N, 0, none⟩) m C, .bool true]
theorem readV_ren (m : Nat) (μ κ : Nat → Nat) (k : Nat) : renV μ κ (readV m k) = readC m (μ k) (κ k) := by
  have hb : Nat.ble big big = true := by kernel_rfl
  simp [readV, readC, renV, renAd, renCap, hb]
def readB (m g : Nat) (u : Value) (n' : Nat) : Bool := match u with
  | .tuple ⟨[.slice (some ⟨q, 0, none⟩) m' c, .bool true]⟩ => Nat.beq m' m && (Nat.beq c big && (Nat.ble g q && Nat.blt q n'))
  | _ => false
theorem readB_of {m g : Nat} {u : Value} {n' : Nat} (h : readB m g u n' = true) : ∃ q, u = readV m q ∧ g ≤ q ∧ q < n' := by
  unfold readB at h
  split at h
  · simp only [Bool.and_eq_true] at h
    obtain ⟨h1, h2, h3, h4⟩ := h
    rw [beq_true h1, beq_true h2]
    exact ⟨_, rfl, Nat.le_of_ble_eq_true h3, by simpa [Nat.blt_eq] using h4⟩
  · cases h

/-- A call of plain values returns a new list of so many, and true; the list is not told. -/
def TotR (base : World) (f : FuncId) (args : List Value) (m : Nat) : Prop := ∀ E : Env, E.P = Tryz.prog → ∀ (h : Heap) (n : Nat), FuncSem E base f args h n (readV m n) h (n + 1) big

theorem totR_closed {goods : Nat} {wilds : List Nat} (hgood : allGood Tryz.prog goods = true) {rules : List (Nat × Rule)} {base : World} (A : AtP base) (hr : ∀ x ∈ rules, RuleOk Tryz.prog base x.1 x.2) {d : Nat} {f : FuncId} {fn : Func} {args : List Value} {m : Nat}
    (hf : Tryz.prog.funcs[f]? = some fn) (hb : fn.body.isSome = true) (ha : args.all (pureV 6) = true)
    (hk : ∀ off spot, (funcK (envP goods wilds rules) d f args (tabsE off spot) (Tryz.prog.globals.size + 1) fun u _ n' mw => (readB m (Tryz.prog.globals.size + 1) u n' && Nat.ble (Tryz.prog.globals.size + 1) mw) = true) = (true = true)) : TotR base f args m := fun E hP h n => by
  have hE : EnvOk (envP goods wilds rules) base := envP_ok (wilds := wilds) hgood hr
  have ha : ∀ x ∈ args, pureV 6 x = true := List.all_eq_true.1 ha
  refine (FuncSem.ofBlk (E := envP goods wilds rules) hE hf hb ha (readV_ren m) fun w hbel => ?_).env hP
  have A' := A.over hbel
  obtain ⟨a, cs, t, fr, h1, h2⟩ := A'.err
  have hrel := (relE A'.low A'.tab gPow h1 h2).rebase (tabsE_own _ _) hbel A.low
  exact blk_over (B := readB m (Tryz.prog.globals.size + 1)) hE envP_loops hf hb (fun u n' hu => readB_of hu) (readV_ren m) (hk a.off a.spot) hrel (tabsE_wf _ _) ha (Nat.le_succ _)

def lookR : List (ByteArray × Nat) → ByteArray → Option Nat
  | [], _ => none
  | (x, m) :: t, s => match strEq x s with | true => some m | false => lookR t s
theorem lookR_of : ∀ {t : List (ByteArray × Nat)} {s : ByteArray} {m : Nat}, lookR t s = some m → (s, m) ∈ t := by
  intro t
  induction t with
  | nil => intro s m h; simp [lookR] at h
  | cons x t ih =>
    obtain ⟨y, k⟩ := x
    intro s m h
    unfold lookR at h
    split at h
    · rename_i hb
      cases h
      rw [strEq_of hb]
      exact List.mem_cons_self ..
    · exact List.mem_cons_of_mem _ (ih h)
def ruleRead (t : List (ByteArray × Nat)) : Rule := fun args h n => match args with
  | [.string s] => (match lookR t s with
    | some m => some fun K => K (readV m n) h (n + 1) big
    | none => none)
  | _ => none
theorem ruleOk_read {base : World} {f : FuncId} {t : List (ByteArray × Nat)} (H : ∀ p ∈ t, TotR base f [.string p.1] p.2) : RuleOk Tryz.prog base f (ruleRead t) := by
  intro E hE args h n T K hT hK
  unfold ruleRead at hT
  split at hT
  · rename_i s
    split at hT
    · rename_i m hm
      cases hT
      exact ⟨_, _, _, _, hK, H _ (lookR_of hm) E hE h n⟩
    · cases hT
  · cases hT
end Go.Proofs.YtamkkkkonigglaaGreatDoor
