/-
  The evaluator's soundness, eighth part: what a state tells; one operation carried out; regions in their order.
  The evaluator's soundness, ninth part: regions whose order is drawn: what is static, and the run in the text's order.
  The evaluator's soundness, tenth part: regions whose order is drawn: facts of the run.
  The evaluator's soundness, eleventh part: regions whose order is drawn: every order.
  The evaluator's soundness, twelfth part: regions whose order is drawn: each operation, and the whole.
  The evaluator's soundness, thirteenth part: code; functions; the evaluator is right.
-/
import Derived.Test.YtdbjbmdaekgbhaaGreatDoorPeA1
import Derived.Laws.Sem
import Derived.Defers

namespace Go.Pe
open Go Go.RowKit

def TWF (D : Nat → Prop) (s : St) : Prop := HWF D s.heap ∧ ∀ t, WF D (getTmp s.tmps t)

/-- Calls that are put off. -/
noncomputable def defOf (μ κ : Nat → Nat) (d : FuncId × List Value) : Deferred := { target := .fn (.func d.1) (d.2.map (renV μ κ)).toArray, args := #[] }
def DWF (D : Nat → Prop) (l : List (FuncId × List Value)) : Prop := ∀ d ∈ l, ∀ v ∈ d.2, WF D v
theorem DWF.mono {D D' : Nat → Prop} {l : List (FuncId × List Value)} (h : DWF D l) (hd : ∀ k, D k → D' k) : DWF D' l := fun d hm v hv => (h d hm v hv).mono hd
theorem defs_same {D : Nat → Prop} {l : List (FuncId × List Value)} {μ κ μ' κ' : Nat → Nat} (h : DWF D l) (hag : ∀ k, D k → μ' k = μ k ∧ κ' k = κ k) : l.map (defOf μ' κ') = l.map (defOf μ κ) :=
  List.map_congr_left fun d hd => by
    unfold defOf
    rw [List.map_congr_left fun v hv => h d hd v hv μ κ μ' κ' hag]

theorem mem_tmpsOf {l : List Operand} {t : Nat} (h : Operand.tmp t ∈ l) : t ∈ tmpsOf l := by
  induction l with
  | nil => cases h
  | cons x l ih =>
    rcases List.mem_cons.1 h with h1 | h1
    · subst h1; simp [tmpsOf]
    · have := ih h1
      cases x <;> simp [tmpsOf, this]

/-- A slot is told: of all slots, where nothing is weak. -/
def ToldE (E : Env) (s : St) (t : Nat) : Prop := E.weak = true → told s.tmps t = true
theorem toldAll_spec {E : Env} {s : St} {l : List Nat} (h : toldAll E s.tmps l = true) : ∀ t ∈ l, ToldE E s t := fun t ht hw => by
  unfold toldAll at h
  rw [hw] at h
  exact List.all_eq_true.1 h t ht

structure StRel (E : Env) (base : World) (μ κ : Nat → Nat) (s : St) (a : Act) (w : World) : Prop where
  rel : Rel E.P base μ κ s.heap w
  sz : a.tmps.size = s.size
  tmp : ∀ t, ToldE E s t → a.tmps.getD t undef = renV μ κ (getTmp s.tmps t)
  df : a.defers = s.df.map (defOf μ κ)
  dw : DWF (· < s.next) s.df
  wf : TWF (· < s.next) s
  gl : E.P.globals.size ≤ s.next

def SWf (E : Env) (s s' : St) : Prop :=
  s.next ≤ s'.next ∧ ∀ D : Nat → Prop, (∀ k, D k → k < s.next) → (∀ g, g < E.P.globals.size → D g) → TWF D s → TWF (Dp D s.next s'.next) s'

theorem SWf.refl (E : Env) (s : St) : SWf E s s := ⟨Nat.le_refl _, fun _ _ _ h => ⟨h.1.mono Dp_mono, fun t => (h.2 t).mono Dp_mono⟩⟩

theorem SWf.trans {E : Env} {s s1 s2 : St} (h : SWf E s s1) (k : SWf E s1 s2) : SWf E s s2 := by
  refine ⟨Nat.le_trans h.1 k.1, fun D hD hG hT => ?_⟩
  have l1 := h.1
  have l2 := k.1
  have h1 := h.2 D hD hG hT
  have h2 := k.2 (Dp D s.next s1.next) (fun j hj => hj.elim (fun hj => Nat.lt_of_lt_of_le (hD j hj) l1) (fun hj => hj.2)) (fun g hg => .inl (hG g hg)) h1
  have hm : ∀ j, Dp (Dp D s.next s1.next) s1.next s2.next j → Dp D s.next s2.next j := fun j hj => by
    rcases hj with (hj | hj) | hj
    · exact .inl hj
    · exact .inr ⟨hj.1, by omega⟩
    · exact .inr ⟨by omega, hj.2⟩
  exact ⟨h2.1.mono hm, fun t => (h2.2 t).mono hm⟩

def StOut (E : Env) (base : World) (s s' : St) (μ κ : Nat → Nat) (w : World) (a' : Act) (w' : World) : Prop :=
  ∃ μ' κ', Step s'.mw s.next s'.next μ κ w μ' κ' w' ∧ StRel E base μ' κ' s' a' w'

theorem StOut.trans {E : Env} {base : World} {s s1 s2 : St} {μ κ μ1 κ1 : Nat → Nat} {w w1 : World} {a2 : Act} {w2 : World} (h : Step s1.mw s.next s1.next μ κ w μ1 κ1 w1) (hm : s2.mw ≤ s1.mw)
    (k : StOut E base s1 s2 μ1 κ1 w1 a2 w2) : StOut E base s s2 μ κ w a2 w2 := by
  obtain ⟨μ2, κ2, k1, k2⟩ := k
  exact ⟨μ2, κ2, (h.mono hm).trans k1, k2⟩

section
variable {E : Env} {base : World}

theorem TWF.eval {D : Nat → Prop} {s : St} (h : TWF D s) (hG : ∀ g, g < E.P.globals.size → D g) {x : Operand} (hx : opdOk E.P.globals.size x = true) : WF D (evalO s.tmps x) := by
  cases x with
  | tmp t => exact h.2 t
  | const v => exact WF.pure hx
  | global g => exact WF.ptr.2 (hG g (by simpa [opdOk, Nat.blt_eq] using hx))
  | func f => exact WF.func0 _

theorem eval_gen {μ κ : Nat → Nat} {tm : List (Nat × Value)} {a : Act} {x : Operand} (hg : ∀ g, g < E.P.globals.size → μ g = g) (ht : ∀ t, x = .tmp t → a.tmps.getD t undef = renV μ κ (getTmp tm t)) (hx : opdOk E.P.globals.size x = true) :
    a.eval x = renV μ κ (evalO tm x) := by
  cases x with
  | tmp t => exact ht t rfl
  | const v => exact (ren_pure μ κ 6 v hx).symm
  | global g => simp [Act.eval, evalO, opdF, renAd, hg g (by simpa [opdOk, Nat.blt_eq] using hx)]
  | func f => rfl

theorem StRel.eval {μ κ : Nat → Nat} {s : St} {a : Act} {w : World} (h : StRel E base μ κ s a w) {x : Operand} (hx : opdOk E.P.globals.size x = true) (ht : ∀ t, x = .tmp t → ToldE E s t) : a.eval x = renV μ κ (evalO s.tmps x) :=
  eval_gen h.rel.glob (fun t e => h.tmp t (ht t e)) hx

def putS (s : St) (dst : Option Tmp) (v : Value) (h : Heap) (n mw : Nat) : St :=
  match dst with
  | none => { tmps := s.tmps, heap := h, next := n, mw := min s.mw mw, size := s.size, fn := s.fn, df := s.df }
  | some d => { tmps := (d, v) :: s.tmps, heap := h, next := n, mw := min s.mw mw, size := s.size, fn := s.fn, df := s.df }

theorem putSt_sound {s : St} {dst : Option Tmp} {v : Value} {h : Heap} {n mw : Nat} {K : St → Prop} (hk : putSt s dst v h n mw K) : K (putS s dst v h n mw) ∧ ∀ d, dst = some d → d < s.size := by
  rw [putSt_eq] at hk
  split at hk
  · exact ⟨hk, fun _ h => by cases h⟩
  · obtain ⟨h1, h2⟩ := chk_true hk
    exact ⟨h2, fun d hd => by cases hd; simpa [Nat.blt_eq] using h1⟩

theorem putK_sound {s : St} {o : Oper} {v : Value} {h : Heap} {n mw : Nat} {K : St → Prop} (hk : putK E s o v h n mw K) : K (putS s o.dst v h n mw) ∧ ∀ d, o.dst = some d → d < s.size := by
  unfold putK at hk
  split at hk
  · split at hk
    · rename_i b
      split at hk
      · obtain ⟨rfl, hk⟩ := hk
        exact putSt_sound hk
      · cases b <;> exact putSt_sound hk
    · exact putSt_sound hk
  · exact putSt_sound hk

theorem getTmp_put {s : St} {dst : Option Tmp} {v : Value} {h : Heap} {n mw : Nat} (t : Nat) : getTmp (putS s dst v h n mw).tmps t = if dst = some t then v else getTmp s.tmps t := by
  unfold putS
  cases dst with
  | none => simp
  | some d =>
    simp only [getTmp_cons, Option.some.injEq]
    split
    · rename_i hb; rw [if_pos (beq_true hb)]
    · rename_i hb; rw [if_neg (beq_false hb)]

@[simp] theorem putS_heap {s : St} {dst : Option Tmp} {v : Value} {h : Heap} {n mw : Nat} : (putS s dst v h n mw).heap = h := by cases dst <;> rfl
@[simp] theorem putS_next {s : St} {dst : Option Tmp} {v : Value} {h : Heap} {n mw : Nat} : (putS s dst v h n mw).next = n := by cases dst <;> rfl
@[simp] theorem putS_mw {s : St} {dst : Option Tmp} {v : Value} {h : Heap} {n mw : Nat} : (putS s dst v h n mw).mw = min s.mw mw := by cases dst <;> rfl
@[simp] theorem putS_fn {s : St} {dst : Option Tmp} {v : Value} {h : Heap} {n mw : Nat} : (putS s dst v h n mw).fn = s.fn := by cases dst <;> rfl
@[simp] theorem putS_df {s : St} {dst : Option Tmp} {v : Value} {h : Heap} {n mw : Nat} : (putS s dst v h n mw).df = s.df := by cases dst <;> rfl
@[simp] theorem putS_size {s : St} {dst : Option Tmp} {v : Value} {h : Heap} {n mw : Nat} : (putS s dst v h n mw).size = s.size := by cases dst <;> rfl

theorem getD_put (a : Act) (dst : Option Tmp) (v : Value) (t : Nat) (hd : ∀ d, dst = some d → d < a.tmps.size) : (a.put dst v).tmps.getD t undef = if dst = some t then v else a.tmps.getD t undef := by
  cases dst with
  | none => simp [Act.put]
  | some d =>
    have := hd d rfl
    simp only [Act.put, Array.getD_eq_getD_getElem?, Option.some.injEq, Array.getElem?_setIfInBounds]
    by_cases h : d = t
    · subst h; simp [this]
    · simp [h]

theorem size_put (a : Act) (dst : Option Tmp) (v : Value) : (a.put dst v).tmps.size = a.tmps.size := by cases dst <;> simp [Act.put]
theorem df_put (a : Act) (dst : Option Tmp) (v : Value) : (a.put dst v).defers = a.defers := by cases dst <;> simp [Act.put]

theorem told_put {s : St} {dst : Option Tmp} {v : Value} {h : Heap} {n mw : Nat} (t : Nat) : told (putS s dst v h n mw).tmps t = true ↔ dst = some t ∨ told s.tmps t = true := by
  unfold putS
  cases dst with
  | none => simp
  | some d =>
    simp only [told_cons, Option.some.injEq]
    split
    · rename_i hb; simp [beq_true hb]
    · rename_i hb; simp [beq_false hb]
theorem ToldE.put {s : St} {dst : Option Tmp} {v : Value} {h : Heap} {n mw : Nat} {t : Nat} (ht : dst ≠ some t → ToldE E s t) : ToldE E (putS s dst v h n mw) t := fun hw => by
  rw [told_put]
  by_cases e : dst = some t
  · exact .inl e
  · exact .inr (ht e hw)
theorem ToldE.of_put {s : St} {dst : Option Tmp} {v : Value} {h : Heap} {n mw : Nat} {t : Nat} (hne : dst ≠ some t) (ht : ToldE E (putS s dst v h n mw) t) : ToldE E s t := fun hw => by
  have := ht hw
  rw [told_put] at this
  exact this.resolve_left hne

/-- Slots after one is written. -/
theorem put_tmp {μ' κ' : Nat → Nat} {s : St} {a : Act} {dst : Option Tmp} {u v : Value} {h : Heap} {n mw : Nat} (hsz : a.tmps.size = s.size) (hd : ∀ d, dst = some d → d < s.size) (hu : u = renV μ' κ' v)
    (ht : ∀ t, dst ≠ some t → ToldE E s t → a.tmps.getD t undef = renV μ' κ' (getTmp s.tmps t)) (t : Nat) (hto : ToldE E (putS s dst v h n mw) t) : (a.put dst u).tmps.getD t undef = renV μ' κ' (getTmp (putS s dst v h n mw).tmps t) := by
  rw [getD_put a dst u t (fun d h => by rw [hsz]; exact hd d h), getTmp_put]
  split
  · exact hu
  · rename_i hne; exact ht t hne (hto.of_put hne)

theorem TWF.put {D : Nat → Prop} {s : St} {dst : Option Tmp} {v : Value} {h : Heap} {n mw : Nat} (ht : ∀ t, WF D (getTmp s.tmps t)) (hv : WF D v) (hh : HWF D h) : TWF D (putS s dst v h n mw) := by
  refine ⟨by simpa using hh, fun t => ?_⟩
  rw [getTmp_put]
  split
  · exact hv
  · exact ht t

theorem SWf.op {o : Oper} {s : St} {v : Value} {h : Heap} {n mw : Nat} (ho : operOk E.P.globals.size o = true) (hw : OpWf E (o.op.operands.toList.map (evalO s.tmps)) s.heap s.next v h n) : SWf E s (putS s o.dst v h n mw) := by
  obtain ⟨h0, h1⟩ := hw
  refine ⟨by simpa using h0, fun D hD hG hT => ?_⟩
  obtain ⟨a, b⟩ := h1 D hD hG (fun x hx => by
    obtain ⟨y, hy, rfl⟩ := List.mem_map.1 hx
    exact hT.eval hG (List.all_eq_true.1 ho y hy)) hT.1
  rw [putS_next]
  exact TWF.put (fun t => (hT.2 t).mono Dp_mono) a b

/-- One operation. -/
theorem op_step {o : Oper} {s : St} {v : Value} {h : Heap} {n mw : Nat} (ho : operOk E.P.globals.size o = true) (hd : ∀ d, o.dst = some d → d < s.size) (hs : OpSem E base o (evalO s.tmps) s.heap s.next v h n mw)
    {μ κ : Nat → Nat} {a : Act} {w : World} (hr : StRel E base μ κ s a w) (hto : ∀ t, Operand.tmp t ∈ o.op.operands.toList → ToldE E s t) {N : Act → World → Prop} {Q : Exit → Act → World → Prop} (hN : ∀ a' w', StOut E base s (putS s o.dst v h n mw) μ κ w a' w' → N a' w') : o.wp E.P a w N Q := by
  have hops := fun x hx => List.all_eq_true.1 ho x hx
  have hwf := SWf.op (mw := mw) ho hs.1
  have hout := hs.2 μ κ w a.eval hr.rel (fun x hx => hr.eval (hops x hx) fun t e => hto t (e ▸ hx)) hr.wf.1 (fun x hx => hr.wf.eval (fun g hg => Nat.lt_of_lt_of_le hg hr.gl) (hops x hx)) hr.gl
  have fin : ∀ u w', Out E base h v mw s.next n μ κ w u w' → StOut E base s (putS s o.dst v h n mw) μ κ w (a.put o.dst u) w' := by
    intro u w' ⟨μ', κ', h1, h2, h3⟩
    refine ⟨μ', κ', by simpa using h1.mono (Nat.min_le_right _ _), by simpa using h3, by rw [size_put, putS_size]; exact hr.sz, ?_, by rw [df_put, putS_df, defs_same hr.dw fun k hk => h1.ag k (.inl hk)]; exact hr.df, by rw [putS_df, putS_next]; exact hr.dw.mono fun k hk => Nat.lt_of_lt_of_le hk hs.1.1, ?_, by rw [putS_next]; exact Nat.le_trans hr.gl hs.1.1⟩
    · refine put_tmp hr.sz hd h2 fun t _ hx => ?_
      rw [hr.tmp t hx]
      exact (hr.wf.2 t _ _ _ _ fun k hk => h1.ag k (.inl hk)).symm
    · have hx := hwf.2 (· < s.next) (fun _ h => h) (fun g hg => Nat.lt_of_lt_of_le hg hr.gl) hr.wf
      have hm : ∀ k, Dp (· < s.next) s.next (putS s o.dst v h n mw).next k → k < (putS s o.dst v h n mw).next := fun k hk => by
        have := hwf.1
        rcases hk with hk | hk
        · exact Nat.lt_of_lt_of_le hk this
        · exact hk.2
      exact ⟨hx.1.mono hm, fun t => (hx.2 t).mono hm⟩
  unfold Oper.wp
  generalize (execOp a.eval o).run E.P w = r at *
  cases r with
  | halt x w' => exact hout.elim
  | ok nx w' =>
    cases nx with
    | value u => exact hN _ _ (fin u w' hout)
    | skip => exact hN _ _ (fin _ w' hout)
    | enter f args =>
      obtain ⟨rfl, hc⟩ := hout
      refine Calls.mono hc fun e w'' he => ?_
      obtain ⟨u, rfl, hu⟩ := he
      exact hN _ _ (fin u w'' hu)
    | _ => exact hout.elim

/-- An operation passed over. -/
theorem skip_step {o : Oper} {s : St} (hd : ∀ d, o.dst = some d → d < s.size) {μ κ : Nat → Nat} {a : Act} {w : World} (hr : StRel E base μ κ s a w) :
    StOut E base s (putS s o.dst undef s.heap s.next big) μ κ w (a.put o.dst undef) w := by
  refine ⟨μ, κ, by simpa using Step.refl _ _ _ _ _, by simpa using hr.rel, by rw [size_put, putS_size]; exact hr.sz, put_tmp hr.sz hd (by simp) (fun t _ => hr.tmp t), by rw [df_put, putS_df]; exact hr.df, by rw [putS_df, putS_next]; exact hr.dw, ?_, by rw [putS_next]; exact hr.gl⟩
  rw [putS_next]
  exact TWF.put hr.wf.2 WF.undef hr.wf.1

theorem SWf.skip {o : Oper} {s : St} : SWf E s (putS s o.dst undef s.heap s.next big) := by
  refine ⟨by simp, fun D hD hG hT => ?_⟩
  exact TWF.put (fun t => (hT.2 t).mono Dp_mono) WF.undef (hT.1.mono Dp_mono)

theorem ren_bool {μ κ : Nat → Nat} {v : Value} {b : Bool} (h : renV μ κ v = .bool b) : v = .bool b := by
  cases v with
  | bool c => simpa using h
  | slice a n c => cases a <;> simp at h
  | _ => simp at h

theorem guard_gen {ops : List Oper} {tm : List (Nat × Value)} {μ κ : Nat → Nat} {a : Act} {j : Nat} (ht : ∀ o d, nth ops j = some o → o.dst = some d → a.tmps.getD d undef = renV μ κ (getTmp tm d)) :
    yielded ops.toArray a.tmps j = guardV ops tm j := by
  unfold yielded guardV
  rw [nth_eq] at *
  simp only [List.getElem?_toArray]
  cases ho : ops[j]? with
  | none => simp
  | some o =>
    cases hd : o.dst with
    | none => simp [hd]
    | some d =>
      have h := ht o d ho hd
      simp only [Option.bind_some, hd]
      rw [Array.getD_eq_getD_getElem?] at h
      cases hv : a.tmps[d]? with
      | none =>
        rw [hv] at h
        simp only [Option.getD_none] at h
        cases hg : getTmp tm d with
        | bool b => rw [hg] at h; simp [undef] at h
        | _ => rfl
      | some v =>
        rw [hv] at h
        simp only [Option.getD_some] at h
        cases hg : getTmp tm d with
        | bool b => rw [hg] at h; simp at h; simp [h]
        | _ =>
          cases v with
          | bool b => exact absurd (ren_bool h.symm) (by rw [hg]; simp)
          | _ => rfl

theorem StRel.guard {ops : List Oper} {μ κ : Nat → Nat} {s : St} {a : Act} {w : World} (h : StRel E base μ κ s a w) (j : Nat) (ht : ∀ o d, nth ops j = some o → o.dst = some d → ToldE E s d) : yielded ops.toArray a.tmps j = guardV ops s.tmps j :=
  guard_gen fun o d ho hd => h.tmp d (ht o d ho hd)

theorem needs_opd {ops rest : List Oper} {o : Oper} {s : St} (h : ∀ t ∈ needs ops (o :: rest), ToldE E s t) : ∀ t, Operand.tmp t ∈ o.op.operands.toList → ToldE E s t := fun t ht =>
  h t (by unfold needs; exact List.mem_append_left _ (List.mem_append_right _ (mem_tmpsOf ht)))
theorem needs_guard {ops rest : List Oper} {o : Oper} {s : St} (h : ∀ t ∈ needs ops (o :: rest), ToldE E s t) {j : Nat} {b : Bool} (hg : o.guard = some (j, b)) : ∀ p d, nth ops j = some p → p.dst = some d → ToldE E s d := fun p d hp hd =>
  h d (by
    unfold needs guardSlot
    rw [hg]
    simp only [hp, hd]
    exact List.mem_append_left _ (List.mem_append_left _ (List.mem_singleton.2 rfl)))
theorem needs_next {ops rest : List Oper} {o : Oper} {s : St} (h : ∀ t ∈ needs ops (o :: rest), ToldE E s t) {v : Value} {H : Heap} {n mw : Nat} : ∀ t ∈ needs ops rest, ToldE E (putS s o.dst v H n mw) t := fun t ht =>
  ToldE.put fun hne => h t (by
    unfold needs
    refine List.mem_append_right _ (List.mem_filter.2 ⟨ht, ?_⟩)
    unfold dstIs
    cases hd : o.dst with
    | none => rfl
    | some d =>
      have : d ≠ t := fun e => hne (by rw [hd, e])
      show (!Nat.beq d t) = true
      cases hb : Nat.beq d t with
      | true => exact absurd (beq_true hb) this
      | false => rfl)

/-- Which way a guard goes. -/
theorem want_cases {ops : List Oper} {tm : List (Nat × Value)} {o : Oper} {yes no : Prop} (h : wantK ops tm o.guard yes no) :
    (yes ∧ Region.wanted o (guardV ops tm) = true) ∨ (no ∧ Region.wanted o (guardV ops tm) = false) := by
  rw [wantK_eq] at h
  unfold Region.wanted
  cases hg : o.guard with
  | none => rw [hg] at h; exact .inl ⟨h, rfl⟩
  | some p =>
    obtain ⟨j, want⟩ := p
    rw [hg] at h
    simp only at h ⊢
    split at h
    · rename_i hv; rw [hv]; cases want
      · exact .inr ⟨h, rfl⟩
      · exact .inl ⟨h, rfl⟩
    · rename_i hv; rw [hv]; cases want
      · exact .inl ⟨h, rfl⟩
      · exact .inr ⟨h, rfl⟩
    · rename_i hv; rw [hv]; exact .inr ⟨h, rfl⟩

theorem wanted_congr {o : Oper} {y y' : Nat → Option Bool} (h : ∀ j b, o.guard = some (j, b) → y j = y' j) : Region.wanted o y = Region.wanted o y' := by
  unfold Region.wanted
  cases hg : o.guard with
  | none => rfl
  | some p => simp only [h p.1 p.2 (by rw [hg])]

/-- What is asked of code: from any world that the state tells of it comes to another one, told by another state. -/
structure Sem1 (E : Env) (s s' : St) : Prop where
  wf : SWf E s s'
  mw : s'.mw ≤ s.mw
  size : s'.size = s.size
  dwf : ∀ D : Nat → Prop, (∀ k, D k → k < s.next) → (∀ g, g < E.P.globals.size → D g) → TWF D s → DWF D s.df → DWF (Dp D s.next s'.next) s'.df

theorem Sem1.refl (s : St) : Sem1 E s s := ⟨SWf.refl E s, Nat.le_refl _, rfl, fun _ _ _ _ h => h.mono Dp_mono⟩
theorem Sem1.trans {s s1 s2 : St} (h : Sem1 E s s1) (k : Sem1 E s1 s2) : Sem1 E s s2 := by
  refine ⟨h.wf.trans k.wf, Nat.le_trans k.mw h.mw, k.size.trans h.size, fun D hD hG hT hd => ?_⟩
  have l1 := h.wf.1
  have l2 := k.wf.1
  have h1 := h.wf.2 D hD hG hT
  have h2 := h.dwf D hD hG hT hd
  refine (k.dwf (Dp D s.next s1.next) (fun j hj => hj.elim (fun hj => Nat.lt_of_lt_of_le (hD j hj) l1) (fun hj => hj.2)) (fun g hg => .inl (hG g hg)) h1 h2).mono fun j hj => ?_
  rcases hj with (hj | hj) | hj
  · exact .inl hj
  · exact .inr ⟨hj.1, by omega⟩
  · exact .inr ⟨by omega, hj.2⟩

/-- What writes a slot puts no call off. -/
theorem Sem1.put {o : Oper} {s : St} {v : Value} {h : Heap} {n mw : Nat} (hw : SWf E s (putS s o.dst v h n mw)) : Sem1 E s (putS s o.dst v h n mw) :=
  ⟨hw, by simp; exact Nat.min_le_left _ _, by simp, fun _ _ _ _ hd => by rw [putS_df]; exact hd.mono Dp_mono⟩

theorem deferK_spec {ρ : Operand → Value} {c : Call} {K : FuncId × List Value → Prop} (hk : deferK ρ c K) : ∃ f g caps, c.callee = .value f ∧ c.args = #[] ∧ ρ f = .func (.func g) #[] ⟨caps⟩ ∧ K (g, caps) := by
  unfold deferK at hk
  split at hk
  · rename_i f hc ha
    split at hk
    · rename_i g caps hf
      exact ⟨f, g, caps, hc, Array.ext' ha, hf, hk⟩
    · exact hk.elim
  · exact hk.elim

/-- A call that is put off. -/
theorem defer_step {o : Oper} {c : Call} (hop : o.op = .defer c) {s : St} {f : Operand} {g : FuncId} {caps : List Value} (hc : c.callee = .value f) (ha : c.args = #[]) (hf : evalO s.tmps f = .func (.func g) #[] ⟨caps⟩) (ho : operOk E.P.globals.size o = true)
    (hd : ∀ d, o.dst = some d → d < s.size) {μ κ : Nat → Nat} {a : Act} {w : World} (hr : StRel E base μ κ s a w) (hto : ∀ t, Operand.tmp t ∈ o.op.operands.toList → ToldE E s t) {N : Act → World → Prop} {Q : Exit → Act → World → Prop}
    (hN : ∀ a' w', StOut E base s (putS { s with df := (g, caps) :: s.df } o.dst undef s.heap s.next big) μ κ w a' w' → N a' w') : o.wp E.P a w N Q := by
  have hops : o.op.operands.toList = f :: c.args.toList := by simp [hop, Op.operands, Call.operands, hc]
  have hfo : opdOk E.P.globals.size f = true := List.all_eq_true.1 ho f (by rw [hops]; exact List.mem_cons_self ..)
  have e1 : a.eval f = .func (.func g) #[] (caps.map (renV μ κ)).toArray := by rw [hr.eval hfo fun t e => hto t (by rw [hops, e]; exact List.mem_cons_self ..), hf]; simp
  have hw : WF (· < s.next) (evalO s.tmps f) := hr.wf.eval (fun g hg => Nat.lt_of_lt_of_le hg hr.gl) hfo
  rw [hf] at hw
  have hcap := (WF.func.1 hw).2
  have e : (execOp a.eval o).run E.P w = .ok (.defer (defOf μ κ (g, caps))) w := by
    simp [execOp, hop, resolve, hc, e1, ha, Deferred.ofValue, defOf]
  unfold Oper.wp
  rw [e, Oper.upon_defer]
  refine hN _ _ ⟨μ, κ, by simpa using Step.refl _ _ _ _ _, by simpa using hr.rel, by rw [size_put, putS_size]; exact hr.sz, ?_, ?_, ?_, ?_, by rw [putS_next]; exact hr.gl⟩
  · exact put_tmp (s := { s with df := (g, caps) :: s.df }) (a := { a with defers := defOf μ κ (g, caps) :: a.defers }) hr.sz hd (by simp) fun t _ => hr.tmp t
  · rw [df_put, putS_df]
    show defOf μ κ (g, caps) :: a.defers = _
    rw [hr.df]; rfl
  · rw [putS_df, putS_next]
    intro d hm v hv
    rcases List.mem_cons.1 hm with rfl | hm
    · exact hcap v hv
    · exact hr.dw d hm v hv
  · rw [putS_next]
    exact TWF.put (s := { s with df := (g, caps) :: s.df }) hr.wf.2 WF.undef hr.wf.1

theorem Sem1.defer {o : Oper} {c : Call} (hop : o.op = .defer c) {s : St} {f : Operand} {g : FuncId} {caps : List Value} (hc : c.callee = .value f) (hf : evalO s.tmps f = .func (.func g) #[] ⟨caps⟩) (ho : operOk E.P.globals.size o = true) :
    Sem1 E s (putS { s with df := (g, caps) :: s.df } o.dst undef s.heap s.next big) := by
  refine ⟨⟨by simp, fun D hD hG hT => ?_⟩, by simp; exact Nat.min_le_left _ _, by simp, fun D hD hG hT hdf => ?_⟩
  · exact TWF.put (s := { s with df := (g, caps) :: s.df }) (fun t => (hT.2 t).mono Dp_mono) WF.undef (hT.1.mono Dp_mono)
  · rw [putS_df]
    have hops : o.op.operands.toList = f :: c.args.toList := by simp [hop, Op.operands, Call.operands, hc]
    have hw := hT.eval hG (List.all_eq_true.1 ho f (by rw [hops]; exact List.mem_cons_self ..))
    rw [hf] at hw
    intro d hm v hv
    rcases List.mem_cons.1 hm with rfl | hm
    · exact ((WF.func.1 hw).2 v hv).mono Dp_mono
    · exact (hdf d hm v hv).mono Dp_mono

theorem StOut.refl {s : St} {μ κ : Nat → Nat} {a : Act} {w : World} (h : StRel E base μ κ s a w) : StOut E base s s μ κ w a w := ⟨μ, κ, Step.refl _ _ _ _ _, h⟩

theorem opsK_sound (hE : EnvOk E base) {call : CallFn} (hcall : CallOk E base call) (ops : List Oper) {K : St → Prop} : ∀ (rest : List Oper) (s : St), rest.all (operOk E.P.globals.size) = true → (∀ t ∈ needs ops rest, ToldE E s t) → opsK E call ops rest s K →
    ∃ s', K s' ∧ Sem1 E s s' ∧ ∀ μ κ a w, StRel E base μ κ s a w → ∀ Q : Exit → Act → World → Prop, (∀ a' w', StOut E base s s' μ κ w a' w' → Q .normal a' w') → wpList E.P ops.toArray Q rest a w := by
  intro rest
  induction rest with
  | nil =>
    intro s _ _ hk
    exact ⟨s, hk, Sem1.refl s, fun μ κ a w hr Q hQ => wpList_nil (hQ a w (StOut.refl hr))⟩
  | cons o rest ih =>
    intro s hok hne hk
    simp only [List.all_cons, Bool.and_eq_true] at hok
    obtain ⟨ho, hrest⟩ := hok
    rw [opsK_cons] at hk
    rcases want_cases hk with ⟨hk, hw⟩ | ⟨hk, hw⟩
    · split at hk
      · rename_i c hop
        obtain ⟨f, g, caps, hc, ha, hf, hk⟩ := deferK_spec hk
        obtain ⟨h3, hd⟩ := putSt_sound hk
        obtain ⟨s', hK, hs, hwp⟩ := ih _ hrest (needs_next (s := { s with df := (g, caps) :: s.df }) hne) h3
        refine ⟨s', hK, Sem1.trans (Sem1.defer hop hc hf ho) hs, fun μ κ a w hr Q hQ => ?_⟩
        unfold wpList
        rw [if_pos (by rw [wanted_congr (fun j b hg => hr.guard (ops := ops) j (needs_guard hne hg))]; exact hw)]
        refine .inl (defer_step hop hc ha hf ho hd hr (needs_opd hne) fun a' w' ⟨μ', κ', q1, q2⟩ => hwp μ' κ' a' w' q2 Q fun a'' w'' q3 => hQ _ _ ?_)
        exact StOut.trans (s1 := putS { s with df := (g, caps) :: s.df } o.dst undef s.heap s.next big) q1 hs.mw q3
      · obtain ⟨v, h, n, mw, h1, h2⟩ := opK_sound hE hcall hk
        obtain ⟨h3, hd⟩ := putK_sound h1
        obtain ⟨s', hK, hs, hwp⟩ := ih _ hrest (needs_next hne) h3
        refine ⟨s', hK, Sem1.trans (Sem1.put (SWf.op ho h2.1)) hs, fun μ κ a w hr Q hQ => ?_⟩
        unfold wpList
        rw [if_pos (by rw [wanted_congr (fun j b hg => hr.guard (ops := ops) j (needs_guard hne hg))]; exact hw)]
        refine .inl (op_step ho hd h2 hr (needs_opd hne) fun a' w' ⟨μ', κ', q1, q2⟩ => hwp μ' κ' a' w' q2 Q fun a'' w'' q3 => hQ _ _ (StOut.trans q1 hs.mw q3))
    · obtain ⟨h3, hd⟩ := putSt_sound hk
      obtain ⟨s', hK, hs, hwp⟩ := ih _ hrest (needs_next hne) h3
      refine ⟨s', hK, Sem1.trans (Sem1.put SWf.skip) hs, fun μ κ a w hr Q hQ => ?_⟩
      unfold wpList
      rw [if_neg (by rw [wanted_congr (fun j b hg => hr.guard (ops := ops) j (needs_guard hne hg))]; simp [hw])]
      obtain ⟨μ', κ', q1, q2⟩ := skip_step (E := E) (base := base) hd hr
      exact hwp μ' κ' _ _ q2 Q fun a'' w'' q3 => hQ _ _ (StOut.trans q1 hs.mw q3)

end
end Go.Pe

namespace Go.Pe
open Go Go.RowKit

instance : Membership Nat Msk := ⟨fun a n => inL a n = true⟩

theorem inL_iff {l : Msk} {n : Nat} : inL l n = true ↔ n ∈ l := Iff.rfl

theorem inL_test (a : Msk) (n : Nat) : inL a n = a.m.testBit n := by
  have h : ∀ x : Nat, Nat.beq (Nat.land x 1) 1 = (1 &&& x != 0) := fun x => by
    have h1 : Nat.land x 1 = x % 2 := by
      show x &&& 1 = x % 2
      exact Nat.and_one_is_mod x
    have h2 : 1 &&& x = x % 2 := by rw [Nat.and_comm]; exact Nat.and_one_is_mod x
    rw [h1, h2]
    rcases Nat.mod_two_eq_zero_or_one x with h | h <;> rw [h] <;> rfl
  exact h _

theorem mem_or {a b : Msk} {j : Nat} : j ∈ orM a b ↔ j ∈ a ∨ j ∈ b := by
  rw [← inL_iff, ← inL_iff, ← inL_iff, inL_test, inL_test, inL_test]
  show ((a.m ||| b.m).testBit j = true) ↔ _
  rw [Nat.testBit_or, Bool.or_eq_true]

theorem mem_bit {k j : Nat} : j ∈ bitM k ↔ j = k := by
  rw [← inL_iff, inL_test]
  show ((1 <<< k).testBit j = true) ↔ _
  rw [Nat.one_shiftLeft, Nat.testBit_two_pow]
  simp [eq_comm]

theorem not_mem_none {j : Nat} : ¬ j ∈ (⟨0⟩ : Msk) := by
  rw [← inL_iff, inL_test]
  simp

theorem allI_spec {p : Nat → Oper → Bool} : ∀ (l : List Oper) (i : Nat), allI p i l = true → ∀ (m : Nat) o, l[m]? = some o → p (i + m) o = true := by
  intro l
  induction l with
  | nil => intro i _ m o h; simp at h
  | cons x l ih =>
    intro i h m o hm
    unfold allI at h
    split at h
    · rename_i hp
      cases m with
      | zero => simp at hm; subst hm; exact hp
      | succ m =>
        have := ih (i + 1) h m o (by simpa using hm)
        have e : i + (m + 1) = i + 1 + m := by omega
        rw [e]; exact this
    · cases h

theorem nthL_append (l : List Msk) (x : Msk) (k : Nat) : nthL (l ++ [x]) k = if k = l.length then x else nthL l k := by
  induction l generalizing k with
  | nil => cases k <;> simp [nthL]
  | cons y l ih => cases k with
    | zero => simp [nthL]
    | succ k => simp [nthL, ih]

theorem ancOf_congr {acc acc' : List Msk} {i : Nat} (h : ∀ k, k < i → nthL acc k = nthL acc' k) : ∀ es, ancOf acc i es = ancOf acc' i es := by
  intro es
  induction es with
  | nil => rfl
  | cons e es ih =>
    simp only [ancOf]
    split
    · split
      · rename_i hb; rw [ih, h e.on (by simpa [Nat.blt_eq] using hb)]
      · exact ih
    · exact ih

theorem ancL_spec : ∀ (l : List Oper) (acc : List Msk) (i : Nat), acc.length = i →
    (∀ k, k < i → nthL (ancL acc i l) k = nthL acc k) ∧ ∀ (m : Nat) o, l[m]? = some o → nthL (ancL acc i l) (i + m) = ancOf (ancL acc i l) (i + m) o.after.toList := by
  intro l
  induction l with
  | nil => intro acc i _; exact ⟨fun _ _ => rfl, fun m o h => by simp at h⟩
  | cons x l ih =>
    intro acc i hl
    have hl2 : (acc ++ [ancOf acc i x.after.toList]).length = i + 1 := by simp [hl]
    obtain ⟨h1, h2⟩ := ih _ _ hl2
    simp only [ancL]
    have h0 : ∀ k, k < i → nthL (ancL (acc ++ [ancOf acc i x.after.toList]) (i + 1) l) k = nthL acc k := fun k hk => by
      rw [h1 k (by omega), nthL_append, if_neg (by omega)]
    refine ⟨h0, fun m o hm => ?_⟩
    cases m with
    | zero =>
      simp at hm; subst hm
      show nthL _ i = ancOf _ i _
      rw [h1 i (by omega), nthL_append, if_pos hl.symm]
      exact ancOf_congr (fun k hk => (h0 k hk).symm) _
    | succ m =>
      have e : i + (m + 1) = i + 1 + m := by omega
      rw [e]; exact h2 m o (by simpa using hm)

theorem mem_ancOf {acc : List Msk} {i j : Nat} : ∀ es, j ∈ ancOf acc i es → ∃ e ∈ es, Region.binds .any e = true ∧ e.on < i ∧ (j = e.on ∨ j ∈ nthL acc e.on) := by
  intro es
  induction es with
  | nil => intro h; exact absurd h not_mem_none
  | cons e es ih =>
    intro h
    simp only [ancOf] at h
    split at h
    · rename_i hb
      split at h
      · rename_i hlt
        rcases (mem_or.1 h).imp mem_bit.1 mem_or.1 with h | h | h
        · exact ⟨e, List.mem_cons_self .., hb, by simpa [Nat.blt_eq] using hlt, .inl h⟩
        · exact ⟨e, List.mem_cons_self .., hb, by simpa [Nat.blt_eq] using hlt, .inr h⟩
        · obtain ⟨e', h1, h2⟩ := ih h; exact ⟨e', List.mem_cons_of_mem _ h1, h2⟩
      · obtain ⟨e', h1, h2⟩ := ih h; exact ⟨e', List.mem_cons_of_mem _ h1, h2⟩
    · obtain ⟨e', h1, h2⟩ := ih h; exact ⟨e', List.mem_cons_of_mem _ h1, h2⟩

theorem ancOf_sub {acc : List Msk} {i : Nat} {e : Edge} (hb : Region.binds .any e = true) (hlt : e.on < i) : ∀ es, e ∈ es → e.on ∈ ancOf acc i es ∧ ∀ j, j ∈ nthL acc e.on → j ∈ ancOf acc i es := by
  intro es
  induction es with
  | nil => intro h; cases h
  | cons x es ih =>
    intro h
    rcases List.mem_cons.1 h with rfl | h
    · simp only [ancOf, hb]
      have : Nat.blt e.on i = true := by simpa [Nat.blt_eq] using hlt
      simp only [this]
      exact ⟨mem_or.2 (.inl (mem_bit.2 rfl)), fun j hj => mem_or.2 (.inr (mem_or.2 (.inl hj)))⟩
    · obtain ⟨h1, h2⟩ := ih h
      simp only [ancOf]
      split
      · split
        · exact ⟨mem_or.2 (.inr (mem_or.2 (.inr h1))), fun j hj => mem_or.2 (.inr (mem_or.2 (.inr (h2 j hj))))⟩
        · exact ⟨h1, h2⟩
      · exact ⟨h1, h2⟩

section
variable {ops : List Oper}

/-- What comes ahead, in every order. -/
def anc (ops : List Oper) (i : Nat) : Msk := nthL (ancL [] 0 ops) i

theorem anc_eq {i : Nat} {o : Oper} (h : ops[i]? = some o) : anc ops i = ancOf (ancL [] 0 ops) i o.after.toList := by
  have := (ancL_spec ops [] 0 rfl).2 i o h
  simpa [anc] using this

theorem anc_spec {i j : Nat} {o : Oper} (h : ops[i]? = some o) (hj : j ∈ anc ops i) : ∃ e ∈ o.after, Region.binds .any e = true ∧ e.on < i ∧ (j = e.on ∨ j ∈ anc ops e.on) := by
  rw [anc_eq h] at hj
  obtain ⟨e, h1, h2⟩ := mem_ancOf _ hj
  exact ⟨e, by simpa using h1, h2⟩

theorem anc_lt : ∀ (i j : Nat), i < ops.length → j ∈ anc ops i → j < i := by
  intro i
  induction i using Nat.strongRecOn with
  | _ i ih =>
    intro j hi hj
    obtain ⟨e, _, _, hlt, h⟩ := anc_spec (List.getElem?_eq_getElem hi) hj
    rcases h with rfl | h
    · exact hlt
    · have := ih e.on hlt j (by omega) h; omega

theorem anc_trans : ∀ (i j k : Nat), i < ops.length → j ∈ anc ops i → k ∈ anc ops j → k ∈ anc ops i := by
  intro i
  induction i using Nat.strongRecOn with
  | _ i ih =>
    intro j k hi hj hk
    have ho := List.getElem?_eq_getElem hi
    obtain ⟨e, he, hb, hlt, h⟩ := anc_spec ho hj
    have hs := (ancOf_sub (acc := ancL [] 0 ops) hb hlt ops[i].after.toList (by simpa using he)).2
    rw [anc_eq ho]
    rcases h with rfl | h
    · exact hs k hk
    · exact hs k (ih e.on hlt j k (by omega) h hk)

/-- What is closed under coming ahead. -/
def Shut (ops : List Oper) (S : Nat → Prop) : Prop := ∀ i o, ops[i]? = some o → S i → ∀ e ∈ o.after, Region.binds .any e = true → S e.on

theorem anc_shut {S : Nat → Prop} (hS : Shut ops S) : ∀ (i : Nat) o, ops[i]? = some o → (∀ e ∈ o.after, Region.binds .any e = true → S e.on) → ∀ j, j ∈ anc ops i → S j := by
  intro i
  induction i using Nat.strongRecOn with
  | _ i ih =>
    intro o ho hr j hj
    obtain ⟨e, he, hb, hlt, h⟩ := anc_spec ho hj
    have h1 := hr e he hb
    rcases h with rfl | h
    · exact h1
    · have hi : i < ops.length := (List.getElem?_eq_some_iff.1 ho).1
      have ho' := List.getElem?_eq_getElem (l := ops) (i := e.on) (by omega)
      exact ih e.on hlt _ ho' (hS e.on _ ho' h1) j h

theorem anc_in {S : Nat → Prop} (hS : Shut ops S) {i j : Nat} {o : Oper} (ho : ops[i]? = some o) (hi : S i) (hj : j ∈ anc ops i) : S j := anc_shut hS i o ho (hS i o ho hi) j hj

/-- What the static check says. -/
structure Static (ops : List Oper) : Prop where
  fw : ∀ (i : Nat) (o : Oper), ops[i]? = some o → ∀ e ∈ o.after, Region.binds .any e = true → e.on < i
  opd : ∀ (i : Nat) (o : Oper) t (j : Nat) (p : Oper), ops[i]? = some o → Operand.tmp t ∈ o.op.operands.toList → ops[j]? = some p → p.dst = some t → j ∈ anc ops i ∨ i = j ∨ i ∈ anc ops j
  gd : ∀ (i : Nat) (o : Oper) g b, ops[i]? = some o → o.guard = some (g, b) → g ∈ anc ops i
  dst : ∀ (i : Nat) (o : Oper) (j : Nat) (p : Oper) d, ops[i]? = some o → ops[j]? = some p → o.dst = some d → p.dst = some d → i = j

theorem dstIs_of {o : Oper} {t : Nat} (h : o.dst = some t) : dstIs o t = true := by simp [dstIs, h]

theorem static_of (h : drawStatic ops (ancL [] 0 ops) = true) : Static ops := by
  have key : ∀ (i : Nat) o, ops[i]? = some o → _ := fun i o ho => allI_spec ops 0 h i o ho
  simp only [Nat.zero_add, Bool.and_eq_true] at key
  refine ⟨fun i o ho e he hb => ?_, fun i o t j p ho ht hj hd => ?_, fun i o g b ho hg => ?_, fun i o j p d ho hj h1 h2 => ?_⟩
  · have := (key i o ho).1.1.1
    have := List.all_eq_true.1 this e (by simpa using he)
    simp only [hb] at this
    simpa [Nat.blt_eq] using this
  · have := (key i o ho).1.1.2
    have := List.all_eq_true.1 this t (mem_tmpsOf ht)
    have := allI_spec ops 0 this j p hj
    simp only [Nat.zero_add, dstIs_of hd, Bool.or_eq_true, inL_iff] at this
    rcases this with (h | h) | h
    · exact .inl h
    · exact .inr (.inl (beq_true h))
    · exact .inr (.inr h)
  · have := (key i o ho).1.2
    rw [hg] at this
    exact inL_iff.1 this
  · have := (key i o ho).2
    rw [h1] at this
    have := allI_spec ops 0 this j p hj
    simp only [Nat.zero_add, dstIs_of h2] at this
    exact beq_true this
end

/-! ### The run in the text's order -/

theorem getBlk_keepH (p : Nat → Bool) (h : Heap) (k : Nat) : getBlk (keepH p h) k = if p k = true then getBlk h k else none := by
  induction h with
  | nil => simp [keepH, getBlk]
  | cons x h ih =>
    obtain ⟨j, b⟩ := x
    simp only [keepH]
    split
    · rename_i hp
      rw [getBlk_cons, getBlk_cons, ih]
      split
      · rename_i e; subst e; rw [if_pos hp]
      · rfl
    · rename_i hp
      rw [ih, getBlk_cons]
      split
      · rename_i h1
        rw [if_neg (fun e => by subst e; rw [h1] at hp; cases hp)]
      · rfl

theorem getBlk_append (a b : Heap) (k : Nat) : getBlk (a ++ b) k = (getBlk a k).or (getBlk b k) := by
  induction a with
  | nil => simp [getBlk]
  | cons x a ih =>
    obtain ⟨j, c⟩ := x
    rw [List.cons_append, getBlk_cons, getBlk_cons, ih]
    split <;> simp

theorem visible_spec {an : Msk} {rg : List (Nat × Nat × Nat)} {n0 k : Nat} (h : visible an rg n0 k = true) : k < n0 ∨ ∃ x ∈ rg, x.2.1 ≤ k ∧ k < x.2.2 ∧ x.1 ∈ an := by
  unfold visible at h
  split at h
  · rename_i hb; exact .inl (by simpa [Nat.blt_eq] using hb)
  · refine .inr ?_
    induction rg with
    | nil => simp [owned] at h
    | cons x rg ih =>
      obtain ⟨j, lo, hi⟩ := x
      simp only [owned] at h
      split at h
      · rename_i hb
        simp only [Bool.and_eq_true] at hb
        exact ⟨_, List.mem_cons_self .., ble_true hb.1, by simpa [Nat.blt_eq] using hb.2, inL_iff.1 h⟩
      · obtain ⟨x, hx, h'⟩ := ih h; exact ⟨x, List.mem_cons_of_mem _ hx, h'⟩

theorem hasB_iff {V : Heap} {k : Nat} : hasB V k = true ↔ ∃ b, getBlk V k = some b := by
  unfold hasB
  cases getBlk V k <;> simp

theorem inW_iff {V : Heap} {mw k : Nat} : inW V mw k = true ↔ mw ≤ k ∧ ∃ b, getBlk V k = some b := by
  unfold inW
  rcases hb : Nat.ble mw k with _ | _
  · have := ble_false hb
    simp only [Bool.false_eq_true, false_iff]
    intro h; omega
  · have := ble_true hb
    simp only [hasB_iff]
    exact ⟨fun h => ⟨this, h⟩, fun h => h.2⟩

theorem free_mono {W : Bool} {an : Msk} {k : Nat} : ∀ {rs : Recs}, freeOf W an k rs = true → freeOf false an k rs = true := by
  intro rs
  induction rs with
  | nil => intro _; rfl
  | cons x rs ih =>
    obtain ⟨j, V, mw⟩ := x
    intro h
    simp only [freeOf] at h ⊢
    split
    · rename_i hj; rw [hj] at h; exact ih h
    · rename_i hj
      rw [hj] at h
      simp only at h
      cases W with
      | false =>
        simp only at h ⊢
        split at h
        · cases h
        · exact ih h
      | true =>
        simp only at h
        split at h
        · cases h
        · rename_i hw
          have : inW V mw k = false := by
            cases hc : inW V mw k with
            | false => rfl
            | true => rw [hasB_iff.2 (inW_iff.1 hc).2] at hw; cases hw
          simp only [this]; exact ih h

theorem free_spec {an : Msk} {k : Nat} : ∀ {rs : Recs}, freeOf false an k rs = true → ∀ {j : Nat} {V : Heap} {mw : Nat}, (j, V, mw) ∈ rs → j ∉ an → inW V mw k = false := by
  intro rs
  induction rs with
  | nil => intro _ j V mw h; cases h
  | cons x rs ih =>
    obtain ⟨i, U, m⟩ := x
    intro h j V mw hm hj
    simp only [freeOf] at h
    split at h
    · rename_i hi
      rcases List.mem_cons.1 hm with e | hm
      · cases e; exact absurd (inL_iff.1 hi) hj
      · exact ih h hm hj
    · rename_i hi
      split at h
      · cases h
      · rename_i hw
        rcases List.mem_cons.1 hm with e | hm
        · cases e; exact hw
        · exact ih h hm hj

theorem noneIn_spec {V : Heap} {mw : Nat} : ∀ {U : Heap}, noneIn V mw U = true → ∀ {k : Nat} {b : Blk}, getBlk U k = some b → inW V mw k = false := by
  intro U
  induction U with
  | nil => intro _ k b h; simp [getBlk] at h
  | cons x U ih =>
    obtain ⟨m, c⟩ := x
    intro h k b hb
    simp only [noneIn] at h
    split at h
    · cases h
    · rename_i hw
      rw [getBlk_cons] at hb
      split at hb
      · rename_i e; subst e; exact hw
      · exact ih h hb

theorem apart_spec {an : Msk} {V : Heap} {mw : Nat} : ∀ {rs : Recs}, apartR an V mw rs = true → ∀ {j : Nat} {U : Heap} {m : Nat}, (j, U, m) ∈ rs → j ∉ an → ∀ {k : Nat} {b : Blk}, getBlk U k = some b → inW V mw k = false := by
  intro rs
  induction rs with
  | nil => intro _ j V mw h; cases h
  | cons x rs ih =>
    obtain ⟨i, U', m'⟩ := x
    intro h j U m hm hj k b hb
    simp only [apartR] at h
    split at h
    · rename_i hi
      rcases List.mem_cons.1 hm with e | hm
      · cases e; exact absurd (inL_iff.1 hi) hj
      · exact ih h hm hj hb
    · rename_i hi
      split at h
      · rename_i hw
        rcases List.mem_cons.1 hm with e | hm
        · cases e; exact noneIn_spec hw hb
        · exact ih h hm hj hb
      · cases h

theorem okV_spec {p : Nat → Bool} : ∀ (d : Nat) (v : Value), okV p d v = true → WF (fun k => p k = true) v := by
  intro d
  induction d with
  | zero => intro v h; simp [okV] at h
  | succ d ih =>
    intro v h
    have hl : ∀ (cs : Array Value), cs.toList.all (okV p d) = true → ∀ x ∈ cs.toList, WF (fun k => p k = true) x := fun cs hc x hx => ih x (List.all_eq_true.1 hc x hx)
    cases v with
    | iface t v => simp only [okV] at h; exact WF.iface.2 (ih v h)
    | agg cs => simp only [okV] at h; exact WF.agg.2 (hl cs h)
    | tuple cs => simp only [okV] at h; exact WF.tuple.2 (hl cs h)
    | pointer a => cases a with
      | none => exact WF.ptrNone
      | some a => simp only [okV] at h; exact WF.ptr.2 h
    | slice a n c => cases a with
      | none => exact WF.sliceNone _ _
      | some a => simp only [okV] at h; exact WF.slc.2 h
    | map r => intro μ κ μ' κ' _; rfl
    | bool b => exact WF.bool _
    | int k n => exact WF.int _ _
    | string s => exact WF.string _
    | nilIface => exact WF.nilI
    | nilFunc => intro μ κ μ' κ' _; rfl
    | func f a b =>
      simp only [okV, Bool.and_eq_true] at h
      exact WF.func.2 ⟨hl a h.1, hl b h.2⟩
    | float k b => intro μ κ μ' κ' _; rfl
    | complex k a b => intro μ κ μ' κ' _; rfl
    | chan r => simp [okV] at h

theorem okC_spec {p : Nat → Bool} : ∀ {l : List (Option Value)}, okC p l = true → ∀ v, some v ∈ l → WF (fun k => p k = true) v := by
  intro l
  induction l with
  | nil => intro _ v h; cases h
  | cons x l ih =>
    intro h v hv
    cases x with
    | none =>
      simp only [okC] at h
      rcases List.mem_cons.1 hv with e | hv
      · cases e
      · exact ih h v hv
    | some u =>
      simp only [okC] at h
      split at h
      · rename_i hu
        rcases List.mem_cons.1 hv with e | hv
        · cases e; exact okV_spec 8 v hu
        · exact ih h v hv
      · cases h

theorem okH_spec {p : Nat → Bool} : ∀ {h : Heap}, okH p h = true → ∀ k b, getBlk h k = some b → ∀ v, some v ∈ b.cells → WF (fun k => p k = true) v := by
  intro h
  induction h with
  | nil => intro _ k b hb; simp [getBlk] at hb
  | cons x h ih =>
    obtain ⟨m, c⟩ := x
    intro hh k b hb
    simp only [okH] at hh
    split at hh
    · rename_i hc
      rw [getBlk_cons] at hb
      split at hb
      · cases hb; exact okC_spec hc
      · exact ih hh k b hb
    · cases hh

/-- The names of these blocks, and of globals. -/
def inD (g : Nat) (V : Heap) (k : Nat) : Prop := k < g ∨ ∃ b, getBlk V k = some b

theorem inB_iff {g : Nat} {V : Heap} {k : Nat} (h : inB g V k = true) : inD g V k := by
  unfold inB at h
  split at h
  · rename_i hb; exact .inl (by simpa [Nat.blt_eq] using hb)
  · exact .inr (hasB_iff.1 h)

theorem newIn_iff {lo hi k : Nat} : newIn lo hi k = true ↔ lo ≤ k ∧ k < hi := by
  unfold newIn
  rcases hb : Nat.ble lo k with _ | _
  · have := ble_false hb
    simp only [Bool.false_eq_true, false_iff]
    omega
  · have := ble_true hb
    simp only [Nat.blt_eq]
    exact ⟨fun h => ⟨this, h⟩, fun h => h.2⟩

/-- What it wrote. -/
def Wr (V : Heap) (mw k : Nat) : Prop := mw ≤ k ∧ ∃ b, getBlk V k = some b

/-- A heap after an operation. -/
def Merged (V : Heap) (mw lo hi : Nat) (h old H : Heap) : Prop :=
  (∀ k, Wr V mw k → getBlk H k = getBlk h k) ∧ (∀ k, ¬ Wr V mw k → lo ≤ k → k < hi → getBlk H k = (getBlk h k).or (getBlk old k)) ∧ (∀ k, ¬ Wr V mw k → ¬ (lo ≤ k ∧ k < hi) → getBlk H k = getBlk old k)

theorem merge_spec (V : Heap) (mw lo hi : Nat) (h old : Heap) : Merged V mw lo hi h old (mergeH V mw lo hi h old) := by
  have key : ∀ k, inW V mw k = true ↔ Wr V mw k := fun k => inW_iff
  refine ⟨fun k hk => ?_, fun k hk h1 h2 => ?_, fun k hk hn => ?_⟩
  · have hk := (key k).2 hk
    unfold mergeH
    rw [getBlk_append, getBlk_keepH, getBlk_keepH]
    simp [hk]
  · have hk : inW V mw k = false := by
      cases hc : inW V mw k with
      | false => rfl
      | true => exact absurd ((key k).1 hc) hk
    have hn := newIn_iff.2 ⟨h1, h2⟩
    unfold mergeH
    rw [getBlk_append, getBlk_keepH, getBlk_keepH]
    simp [hk, hn]
  · have hk : inW V mw k = false := by
      cases hc : inW V mw k with
      | false => rfl
      | true => exact absurd ((key k).1 hc) hk
    have hn : newIn lo hi k = false := by
      cases hc : newIn lo hi k with
      | false => rfl
      | true => exact absurd (newIn_iff.1 hc) hn
    unfold mergeH
    rw [getBlk_append, getBlk_keepH, getBlk_keepH]
    simp [hk, hn]

theorem merge_new {V : Heap} {mw lo hi : Nat} {h old : Heap} (hno : ∀ k, ¬ Wr V mw k) : Merged V mw lo hi h old (keepH (newIn lo hi) h ++ old) := by
  refine ⟨fun k hk => absurd hk (hno k), fun k _ h1 h2 => ?_, fun k _ hn => ?_⟩
  · rw [getBlk_append, getBlk_keepH, if_pos (newIn_iff.2 ⟨h1, h2⟩)]
  · rw [getBlk_append, getBlk_keepH, if_neg fun h => hn (newIn_iff.1 h), Option.none_or]

theorem merge_same {V : Heap} {mw lo : Nat} {h old : Heap} (hno : ∀ k, ¬ Wr V mw k) : Merged V mw lo lo h old old :=
  ⟨fun k hk => absurd hk (hno k), fun k _ h1 h2 => by omega, fun k _ _ => rfl⟩

section
variable {E : Env} {base : World}

/-- What a step of the run does: passed over; an operation on some blocks; a store. -/
inductive Kind (E : Env) (base : World) (ops : List Oper) (o : Oper) (s s1 : St) (V : Heap) (mw : Nat) : Prop where
  | skip (h1 : Region.wanted o (guardV ops s.tmps) = false) (h2 : V = []) (h3 : s1 = putS s o.dst undef s.heap s.next big)
  | op (v : Value) (h : Heap) (n : Nat) (H : Heap) (m : Nat) (h1 : Region.wanted o (guardV ops s.tmps) = true) (h2 : OpSem E base o (evalO s.tmps) V s.next v h n mw)
      (h3 : s.next ≤ n) (h4 : s1 = putS s o.dst v H n m) (h5 : (∀ k b, getBlk V k = some b → k < s.next) → Merged V mw s.next n h s.heap H)
      (h6 : s.next ≤ mw ∨ (m ≤ mw ∧ ∃ B, E.P.globals.size ≤ B ∧ B ≤ mw ∧ B ≤ s.next ∧ (∀ k b, getBlk V k = some b → ∀ u, some u ∈ b.cells → WF (inD B V) u) ∧ ∀ x ∈ o.op.operands.toList, WF (inD B V) (evalO s.tmps x)))
  | st (t : TypeId) (a x : Operand) (ad : Addr) (sz : Nat) (h' : Heap) (b : Blk) (h1 : Region.wanted o (guardV ops s.tmps) = true) (h2 : o.op = .store t a x) (h3 : evalO s.tmps a = .pointer (some ad))
      (h4 : sizeT E t = some sz) (h5 : (evalO s.tmps x).cells.size = sz) (h6 : storeO s.heap ad (evalO s.tmps x).cells.toList = some h') (h7 : getBlk s.heap ad.block = some b)
      (h8 : V = [(ad.block, b)]) (h9 : mw = ad.block) (h10 : s1 = putS s o.dst undef h' s.next ad.block)

structure DStep (E : Env) (base : World) (ops : List Oper) (n0 : Nat) (o : Oper) (i : Nat) (rg rg' : List (Nat × Nat × Nat)) (rs rs' : Recs) (s s1 : St) (V : Heap) (mw : Nat) : Prop where
  dst : ∀ d, o.dst = some d → d < s.size
  hrg : rg' = rg ∨ rg' = (i, s.next, s1.next) :: rg
  hrs : (V = [] ∧ rs' = rs) ∨ rs' = (i, V, mw) :: rs
  vis : ∀ k b, getBlk V k = some b → getBlk s.heap k = some b ∧ visible (anc ops i) rg n0 k = true ∧ freeOf false (anc ops i) k rs = true
  apart : s.next ≤ mw ∨ apartR (anc ops i) V mw rs = true
  kind : Kind E base ops o s s1 V mw

theorem not_wr {V : Heap} {mw n : Nat} (hV : ∀ k b, getBlk V k = some b → k < n) (h : n ≤ mw) : ∀ k, ¬ Wr V mw k := by
  rintro k ⟨h1, b, hb⟩
  have := hV k b hb
  omega

theorem oneK_sound (hE : EnvOk E base) {call : CallFn} (hcall : CallOk E base call) {ops : List Oper} {n0 : Nat} {o : Oper} {i : Nat} {rg : List (Nat × Nat × Nat)} {rs : Recs} {V : Heap} {s : St} {K : List (Nat × Nat × Nat) → Recs → St → Prop}
    (hV : ∀ k b, getBlk V k = some b → getBlk s.heap k = some b ∧ visible (anc ops i) rg n0 k = true ∧ freeOf false (anc ops i) k rs = true)
    (hw : Region.wanted o (guardV ops s.tmps) = true) (hk : oneK E call o (anc ops i) i rg rs V s K) : ∃ rg' rs' s1 mw, DStep E base ops n0 o i rg rg' rs rs' s s1 V mw ∧ K rg' rs' s1 := by
  rw [oneK_eq] at hk
  obtain ⟨v, h, n, mw, h1, h2⟩ := opK_sound hE hcall hk
  split at h1
  · rename_i hm
    have hm := ble_true hm
    obtain ⟨c, h1⟩ := chk_true h1
    have hn := ble_true c
    obtain ⟨h3, hd⟩ := putK_sound h1
    refine ⟨_, _, _, mw, ⟨hd, ?_, .inr rfl, hV, .inl hm, .op v h n _ big hw h2 hn rfl (fun hlow => merge_new (not_wr hlow hm)) (.inl hm)⟩, h3⟩
    split
    · exact .inl rfl
    · exact .inr (by rw [putS_next])
  · rename_i hm
    obtain ⟨c, h1⟩ := chk_true h1
    simp only [Bool.and_eq_true, shutV] at c
    obtain ⟨c1, c0, c2, c6, ⟨c3, c4⟩, c5⟩ := c
    have hn := ble_true c1
    obtain ⟨h3, hd⟩ := putK_sound h1
    refine ⟨_, _, _, mw, ⟨hd, ?_, .inr rfl, hV, .inr c5, .op v h n _ mw hw h2 hn rfl (fun _ => merge_spec _ _ _ _ _ _) (.inr ⟨Nat.le_refl _, E.low, ble_true c0, ble_true c2, ble_true c6, fun k b hb u hu => ?_, fun x hx => ?_⟩)⟩, h3⟩
    · split
      · exact .inl rfl
      · exact .inr (by rw [putS_next])
    · exact (okH_spec c3 k b hb u hu).mono fun k hk => inB_iff hk
    · exact (okV_spec 8 _ (List.all_eq_true.1 c4 _ (List.mem_map_of_mem hx))).mono fun k hk => inB_iff hk

theorem keepB_spec {p q : Nat → Bool} {h : Heap} {k : Nat} {b : Blk} (hb : getBlk (keepH (fun k => match q k with | true => p k | false => false) h) k = some b) : getBlk h k = some b ∧ p k = true := by
  rw [getBlk_keepH] at hb
  cases hq : q k with
  | true =>
    simp only [hq] at hb
    split at hb
    · rename_i hp; exact ⟨hb, hp⟩
    · cases hb
  | false => simp [hq] at hb

theorem footV_spec {lo : Nat} {p : Nat → Bool} {h : Heap} {vs : List Value} {k : Nat} {b : Blk} (hb : getBlk (footV lo p h vs) k = some b) : getBlk h k = some b ∧ p k = true := by
  unfold footV at hb
  simp only at hb
  split at hb
  · exact keepB_spec (q := fun k => opBlks k vs) hb
  · exact keepB_spec (q := fun k => inL ⟨reachN h 12 (namesL vs)⟩ k) hb

theorem drawK_run (hE : EnvOk E base) {call : CallFn} (hcall : CallOk E base call) {W : Bool} {ops : List Oper} {n0 : Nat} {K : St → Prop} : ∀ (rest : List Oper) (i : Nat) (rg : List (Nat × Nat × Nat)) (rs : Recs) (s : St),
    drawK E call W ops n0 (ancL [] 0 ops) rest i rg rs s K → ∃ (σ : Nat → St) (rf : Nat → List (Nat × Nat × Nat)) (lf : Nat → Recs) (Vf : Nat → Heap) (mf : Nat → Nat), σ i = s ∧ rf i = rg ∧ lf i = rs ∧ K (σ (i + rest.length)) ∧
      ∀ (m : Nat) o, rest[m]? = some o → DStep E base ops n0 o (i + m) (rf (i + m)) (rf (i + m + 1)) (lf (i + m)) (lf (i + m + 1)) (σ (i + m)) (σ (i + m + 1)) (Vf (i + m)) (mf (i + m)) := by
  intro rest
  induction rest with
  | nil => intro i rg rs s hk; exact ⟨fun _ => s, fun _ => rg, fun _ => rs, fun _ => [], fun _ => 0, rfl, rfl, rfl, hk, fun m o h => by simp at h⟩
  | cons o rest ih =>
    intro i rg rs s hk
    have key : ∀ (rg' : List (Nat × Nat × Nat)) (rs' : Recs) (s1 : St) (V : Heap) (mw : Nat), DStep E base ops n0 o i rg rg' rs rs' s s1 V mw → drawK E call W ops n0 (ancL [] 0 ops) rest (i + 1) rg' rs' s1 K →
        ∃ (σ : Nat → St) (rf : Nat → List (Nat × Nat × Nat)) (lf : Nat → Recs) (Vf : Nat → Heap) (mf : Nat → Nat), σ i = s ∧ rf i = rg ∧ lf i = rs ∧ K (σ (i + (o :: rest).length)) ∧
      ∀ (m : Nat) p, (o :: rest)[m]? = some p → DStep E base ops n0 p (i + m) (rf (i + m)) (rf (i + m + 1)) (lf (i + m)) (lf (i + m + 1)) (σ (i + m)) (σ (i + m + 1)) (Vf (i + m)) (mf (i + m)) := by
      intro rg' rs' s1 V mw hd hk
      obtain ⟨σ, rf, lf, Vf, mf, h1, h2, h3, h4, h5⟩ := ih (i + 1) rg' rs' s1 hk
      refine ⟨fun k => if k ≤ i then s else σ k, fun k => if k ≤ i then rg else rf k, fun k => if k ≤ i then rs else lf k, fun k => if k ≤ i then V else Vf k, fun k => if k ≤ i then mw else mf k, by simp, by simp, by simp, ?_, fun m p hm => ?_⟩
      · have : i + (o :: rest).length = i + 1 + rest.length := by simp; omega
        rw [this]
        have : ¬ (i + 1 + rest.length ≤ i) := by omega
        simpa [this] using h4
      · cases m with
        | zero =>
          simp at hm; subst hm
          have e2 : ¬ (i + 1 ≤ i) := by omega
          simpa [h1, h2, h3, e2] using hd
        | succ m =>
          have := h5 m p (by simpa using hm)
          have e : i + (m + 1) = i + 1 + m := by omega
          rw [e]
          have e1 : ¬ (i + 1 + m ≤ i) := by omega
          have e2 : ¬ (i + 1 + m + 1 ≤ i) := by omega
          simpa only [e1, e2, if_false] using this
    rw [drawK_cons] at hk
    rcases want_cases hk with ⟨hk, hw⟩ | ⟨hk, hw⟩
    · split at hk
      · rename_i hc
        obtain ⟨v, h, n, mw, h1, h2⟩ := opK_sound hE hcall hk
        obtain ⟨c, h1⟩ := chk_true h1
        simp only [Bool.and_eq_true] at c
        obtain ⟨h3, hd⟩ := putK_sound h1
        have hn := beq_true c.1.2
        have hm := ble_true c.2
        rw [hn] at hm h2
        refine key _ _ _ [] mw ⟨hd, .inl rfl, .inl ⟨rfl, rfl⟩, fun k b hb => by simp [getBlk] at hb, .inl hm, .op v h s.next s.heap big hw h2 (Nat.le_refl _) rfl (fun _ => merge_same fun k hk => ?_) (.inl hm)⟩ h3
        obtain ⟨_, b, hb⟩ := hk
        simp [getBlk] at hb
      · split at hk
        · rename_i t a hop
          split at hk
          · rename_i ad ha
            split at hk
            · rename_i b hb
              obtain ⟨hv, hk⟩ := chk_true hk
              simp only [Bool.and_eq_true] at hv
              obtain ⟨v, h, n, mw, h1, h2⟩ := opK_sound hE hcall hk
              obtain ⟨c, h1⟩ := chk_true h1
              simp only [Bool.and_eq_true] at c
              obtain ⟨h3, hd⟩ := putK_sound h1
              have hn := beq_true c.1
              have hm := ble_true c.2
              rw [hn] at hm h2
              refine key _ _ _ [(ad.block, b)] mw ⟨hd, .inl rfl, .inr rfl, fun k d hk => ?_, .inl hm, .op v h s.next s.heap big hw h2 (Nat.le_refl _) rfl (fun hlow => merge_same (not_wr hlow hm)) (.inl hm)⟩ h3
              rw [getBlk_cons] at hk
              split at hk
              · rename_i e; subst e
                cases hk
                exact ⟨hb, hv.1, hv.2⟩
              · simp [getBlk] at hk
            · exact hk.elim
          · exact hk.elim
        · exact hk.elim
      · split at hk
        · rename_i t a x hop
          split at hk
          · rename_i ad ha
            split at hk
            · rename_i b hb
              obtain ⟨hv, hk⟩ := chk_true hk
              simp only [Bool.and_eq_true] at hv
              rw [opK_eq] at hk
              unfold opK0 at hk
              rw [hop] at hk
              simp only [ha] at hk
              split at hk
              · rename_i sz hsz
                split at hk
                · rename_i hcs
                  obtain ⟨h', hst, hk⟩ := storeK_of hk
                  obtain ⟨c, h1⟩ := chk_true hk
                  obtain ⟨h3, hd⟩ := putK_sound h1
                  refine key _ _ _ [(ad.block, b)] ad.block ⟨hd, .inl rfl, .inr rfl, fun k d hk => ?_, .inr hv.2.2, .st t a x ad sz h' b hw hop ha hsz (beq_true hcs) hst hb rfl rfl rfl⟩ h3
                  rw [getBlk_cons] at hk
                  split at hk
                  · rename_i e; subst e
                    cases hk
                    exact ⟨hb, hv.1, hv.2.1⟩
                  · simp [getBlk] at hk
                · exact hk.elim
              · exact hk.elim
            · exact hk.elim
          · exact hk.elim
        · exact hk.elim
      · obtain ⟨rg', rs', s1, mw, hd, hk⟩ := oneK_sound hE hcall (fun k b hb => by simp [getBlk] at hb) hw hk
        exact key _ _ _ _ _ hd hk
      · obtain ⟨rg', rs', s1, mw, hd, hk⟩ := oneK_sound hE hcall (fun k b hb => by
          obtain ⟨hb, hp⟩ := footV_spec hb
          simp only [Bool.and_eq_true] at hp
          exact ⟨hb, hp.1, hp.2⟩) hw hk
        exact key _ _ _ _ _ hd hk
      · obtain ⟨rg', rs', s1, mw, hd, hk⟩ := oneK_sound hE hcall (fun k b hb => by
          rw [getBlk_keepH] at hb
          split at hb
          · rename_i hp
            simp only [Bool.and_eq_true] at hp
            exact ⟨hb, hp.1, free_mono hp.2⟩
          · cases hb) hw hk
        exact key _ _ _ _ _ hd hk
    · obtain ⟨h3, hd⟩ := putSt_sound hk
      exact key _ _ _ [] s.next ⟨hd, .inl rfl, .inl ⟨rfl, rfl⟩, fun k b hb => by simp [getBlk] at hb, .inl (Nat.le_refl _), .skip hw rfl rfl⟩ h3

end
end Go.Pe

namespace Go.Pe
open Go Go.RowKit

theorem storeO_get {h h' : Heap} {ad : Addr} {vs : List Value} (hs : storeO h ad vs = some h') :
    ∃ b c, getBlk h ad.block = some b ∧ h' = setBlk h ad.block c ∧ ∀ g, getBlk g ad.block = some b → storeO g ad vs = some (setBlk g ad.block c) := by
  unfold storeO at hs
  split at hs
  · cases hs
  · rename_i hsp
    split at hs
    · cases hs
    · rename_i b hb
      split at hs
      · rename_i ho hi
        split at hs
        · rename_i cs h1 h2
          cases hs
          refine ⟨b, _, hb, rfl, fun g hg => ?_⟩
          unfold storeO
          simp only [hsp, hg, ho, hi, h1, h2]
        · cases hs
      · cases hs

theorem last_of (P : Nat → Prop) : ∀ i, (∃ m, m < i ∧ P m ∧ ∀ l, m < l → l < i → ¬ P l) ∨ ∀ m, m < i → ¬ P m := by
  intro i
  induction i with
  | zero => exact .inr fun m h => by omega
  | succ i ih =>
    by_cases hp : P i
    · exact .inl ⟨i, by omega, hp, fun l h1 h2 => by omega⟩
    · rcases ih with ⟨m, h1, h2, h3⟩ | h
      · refine .inl ⟨m, by omega, h2, fun l l1 l2 => ?_⟩
        by_cases e : l = i
        · subst e; exact hp
        · exact h3 l l1 (by omega)
      · refine .inr fun m hm => ?_
        by_cases e : m = i
        · subst e; exact hp
        · exact h m (by omega)

section
variable {E : Env} {base : World} {ops : List Oper} {σ : Nat → St} {rf : Nat → List (Nat × Nat × Nat)} {lf : Nat → Recs} {Vf : Nat → Heap} {mf : Nat → Nat}

structure Run (E : Env) (base : World) (ops : List Oper) (σ : Nat → St) (rf : Nat → List (Nat × Nat × Nat)) (lf : Nat → Recs) (Vf : Nat → Heap) (mf : Nat → Nat) : Prop where
  static : Static ops
  opers : ∀ (i : Nat) o, ops[i]? = some o → operOk E.P.globals.size o = true
  r0 : rf 0 = []
  step : ∀ (i : Nat) o, ops[i]? = some o → DStep E base ops (σ 0).next o i (rf i) (rf (i + 1)) (lf i) (lf (i + 1)) (σ i) (σ (i + 1)) (Vf i) (mf i)

def own (σ : Nat → St) (m k : Nat) : Prop := (σ m).next ≤ k ∧ k < (σ (m + 1)).next

/-- An operation gives this name, or writes its block. -/
def touch (σ : Nat → St) (Vf : Nat → Heap) (mf : Nat → Nat) (m k : Nat) : Prop := own σ m k ∨ Wr (Vf m) (mf m) k

theorem getO {i : Nat} (h : i < ops.length) : ∃ o, ops[i]? = some o := ⟨_, List.getElem?_eq_getElem h⟩
theorem ltO {i : Nat} {o : Oper} (h : ops[i]? = some o) : i < ops.length := (List.getElem?_eq_some_iff.1 h).1

theorem Run.next1 (R : Run E base ops σ rf lf Vf mf) {i : Nat} {o : Oper} (ho : ops[i]? = some o) : (σ i).next ≤ (σ (i + 1)).next ∧ (σ (i + 1)).size = (σ i).size ∧ (σ (i + 1)).mw ≤ (σ i).mw := by
  cases (R.step i o ho).kind with
  | skip h1 h2 h3 => rw [h3]; simp; exact Nat.min_le_left _ _
  | op v h n H m h1 h2 h3 h4 h5 h6 => rw [h4]; simp; exact ⟨h3, Nat.min_le_left _ _⟩
  | st t a x ad sz h' b h1 h2 h3 h4 h5 h6 h7 h8 h9 h10 => rw [h10]; simp; exact Nat.min_le_left _ _

theorem Run.next_le (R : Run E base ops σ rf lf Vf mf) {i : Nat} : ∀ j, i ≤ j → j ≤ ops.length → (σ i).next ≤ (σ j).next := by
  intro j
  induction j with
  | zero => intro h _; have : i = 0 := by omega
            subst this; exact Nat.le_refl _
  | succ j ih =>
    intro h1 h2
    by_cases e : i = j + 1
    · subst e; exact Nat.le_refl _
    · obtain ⟨o, ho⟩ := getO (ops := ops) (i := j) (by omega)
      exact Nat.le_trans (ih (by omega) (by omega)) (R.next1 ho).1

theorem Run.mw_le (R : Run E base ops σ rf lf Vf mf) {i : Nat} : ∀ j, i ≤ j → j ≤ ops.length → (σ j).mw ≤ (σ i).mw ∧ (σ j).size = (σ i).size := by
  intro j
  induction j with
  | zero => intro h _; have : i = 0 := by omega
            subst this; exact ⟨Nat.le_refl _, rfl⟩
  | succ j ih =>
    intro h1 h2
    by_cases e : i = j + 1
    · subst e; exact ⟨Nat.le_refl _, rfl⟩
    · obtain ⟨o, ho⟩ := getO (ops := ops) (i := j) (by omega)
      have a := ih (by omega) (by omega)
      have b := R.next1 ho
      exact ⟨Nat.le_trans b.2.2 a.1, b.2.1.trans a.2⟩

theorem Run.own_inj (R : Run E base ops σ rf lf Vf mf) {m m' k : Nat} (hm : m < ops.length) (hm' : m' < ops.length) (h : own σ m k) (h' : own σ m' k) : m = m' := by
  refine Classical.byContradiction fun hne => ?_
  have := h.1; have := h.2; have := h'.1; have := h'.2
  rcases Nat.lt_or_gt_of_ne hne with hlt | hlt
  · have := R.next_le (i := m + 1) m' hlt (by omega); omega
  · have := R.next_le (i := m' + 1) m hlt (by omega); omega

theorem Run.own_ex (_R : Run E base ops σ rf lf Vf mf) {k : Nat} : ∀ j, j ≤ ops.length → k < (σ j).next → k < (σ 0).next ∨ ∃ m, m < j ∧ own σ m k := by
  intro j
  induction j with
  | zero => intro _ h; exact .inl h
  | succ j ih =>
    intro hj h
    by_cases hk : k < (σ j).next
    · rcases ih (by omega) hk with h | ⟨m, hm, h⟩
      · exact .inl h
      · exact .inr ⟨m, by omega, h⟩
    · exact .inr ⟨j, by omega, by omega, h⟩

theorem Run.own_ge (R : Run E base ops σ rf lf Vf mf) {m k : Nat} (hm : m < ops.length) (h : own σ m k) : (σ 0).next ≤ k := Nat.le_trans (R.next_le m (Nat.zero_le _) (by omega)) h.1

theorem Run.rg (R : Run E base ops σ rf lf Vf mf) : ∀ i, i ≤ ops.length → ∀ x ∈ rf i, x.1 < i ∧ x.2.1 = (σ x.1).next ∧ x.2.2 = (σ (x.1 + 1)).next := by
  intro i
  induction i with
  | zero => intro _ x hx; rw [R.r0] at hx; cases hx
  | succ i ih =>
    intro hi x hx
    obtain ⟨o, ho⟩ := getO (ops := ops) (i := i) (by omega)
    have h := (R.step i o ho).hrg
    have old : x ∈ rf i → x.1 < i + 1 ∧ x.2.1 = (σ x.1).next ∧ x.2.2 = (σ (x.1 + 1)).next := fun hx => by
      obtain ⟨a, b⟩ := ih (by omega) x hx
      exact ⟨by omega, b⟩
    rcases h with h | h
    · rw [h] at hx; exact old hx
    · rw [h] at hx
      rcases List.mem_cons.1 hx with rfl | hx
      · exact ⟨by omega, rfl, rfl⟩
      · exact old hx

/-- Old, or given by what comes ahead. -/
def PA (ops : List Oper) (σ : Nat → St) (i k : Nat) : Prop := k < (σ 0).next ∨ ∃ m ∈ anc ops i, own σ m k
def PV (ops : List Oper) (σ : Nat → St) (i k : Nat) : Prop := PA ops σ i k ∨ own σ i k

theorem Run.visA (R : Run E base ops σ rf lf Vf mf) {i k : Nat} (hi : i ≤ ops.length) (h : visible (anc ops i) (rf i) (σ 0).next k = true) : PA ops σ i k := by
  rcases visible_spec h with h | ⟨x, hx, h1, h2, h3⟩
  · exact .inl h
  · obtain ⟨_, a, b⟩ := R.rg i hi x hx
    exact .inr ⟨x.1, h3, by rw [← a]; exact h1, by rw [← b]; exact h2⟩

theorem Run.PA_lt (R : Run E base ops σ rf lf Vf mf) {i k : Nat} (hi : i < ops.length) (h : PA ops σ i k) : k < (σ i).next := by
  rcases h with h | ⟨m, hm, h⟩
  · exact Nat.lt_of_lt_of_le h (R.next_le i (Nat.zero_le _) (by omega))
  · have := anc_lt i m hi hm
    exact Nat.lt_of_lt_of_le h.2 (R.next_le i this (by omega))

theorem PV_sub {i m k : Nat} (hi : i < ops.length) (hm : m ∈ anc ops i) (h : PV ops σ m k) : PA ops σ i k := by
  rcases h with (h | ⟨j, hj, h⟩) | h
  · exact .inl h
  · exact .inr ⟨j, anc_trans i m j hi hm hj, h⟩
  · exact .inr ⟨m, hm, h⟩

theorem HWF.sub {D : Nat → Prop} {h g : Heap} (hh : HWF D h) (hs : ∀ k b, getBlk g k = some b → getBlk h k = some b) : HWF D g := fun k b hb => hh k b (hs k b hb)

/-- What an operation looks at. -/
theorem Run.foot (R : Run E base ops σ rf lf Vf mf) {i k : Nat} {b : Blk} (hi : i < ops.length) (hb : getBlk (Vf i) k = some b) : getBlk (σ i).heap k = some b ∧ PA ops σ i k ∧ k < (σ i).next := by
  obtain ⟨o, ho⟩ := getO hi
  obtain ⟨h1, h2, _⟩ := (R.step i o ho).vis k b hb
  have := R.visA (by omega) h2
  exact ⟨h1, this, R.PA_lt hi this⟩

theorem Run.recs (R : Run E base ops σ rf lf Vf mf) : ∀ i, i ≤ ops.length → ∀ j, j < i → Vf j = [] ∨ (j, Vf j, mf j) ∈ lf i := by
  intro i
  induction i with
  | zero => intro _ j h; omega
  | succ i ih =>
    intro hi j hj
    obtain ⟨o, ho⟩ := getO (ops := ops) (i := i) (by omega)
    have h := (R.step i o ho).hrs
    by_cases e : j = i
    · subst e
      rcases h with ⟨h, _⟩ | h
      · exact .inl h
      · exact .inr (by rw [h]; exact List.mem_cons_self ..)
    · rcases ih (by omega) j (by omega) with h2 | h2
      · exact .inl h2
      · rcases h with ⟨_, h⟩ | h
        · exact .inr (by rw [h]; exact h2)
        · exact .inr (by rw [h]; exact List.mem_cons_of_mem _ h2)

/-- What one wrote and another looked at: they are in order. -/
theorem Run.order (R : Run E base ops σ rf lf Vf mf) {i j k : Nat} {b : Blk} (hi : i < ops.length) (hj : j < ops.length) (hne : i ≠ j) (hw : Wr (Vf j) (mf j) k) (hb : getBlk (Vf i) k = some b) : (j < i ∧ j ∈ anc ops i) ∨ (i < j ∧ i ∈ anc ops j) := by
  rcases Nat.lt_or_gt_of_ne hne with hlt | hlt
  · refine .inr ⟨hlt, Classical.byContradiction fun hn => ?_⟩
    obtain ⟨o, ho⟩ := getO hj
    obtain ⟨w1, c, hc⟩ := hw
    rcases R.recs j (by omega) i hlt with h | h
    · rw [h] at hb; simp [getBlk] at hb
    · rcases (R.step j o ho).apart with ha | ha
      · have := (R.foot hj hc).2.2; omega
      · have := apart_spec ha h hn hb
        rw [inW_iff.2 ⟨w1, c, hc⟩] at this; cases this
  · refine .inl ⟨hlt, Classical.byContradiction fun hn => ?_⟩
    obtain ⟨o, ho⟩ := getO hi
    rcases R.recs i (by omega) j hlt with h | h
    · obtain ⟨_, c, hc⟩ := hw
      rw [h] at hc; simp [getBlk] at hc
    · have := free_spec ((R.step i o ho).vis k b hb).2.2 h hn
      rw [inW_iff.2 hw] at this; cases this

theorem Run.ordV (R : Run E base ops σ rf lf Vf mf) {i m k : Nat} {b : Blk} (hi : i < ops.length) (hm : m < ops.length) (hne : i ≠ m) (ht : touch σ Vf mf m k) (hb : getBlk (Vf i) k = some b) : (m < i ∧ m ∈ anc ops i) ∨ (i < m ∧ i ∈ anc ops m) := by
  rcases ht with ht | ht
  · obtain ⟨_, h2, h3⟩ := R.foot hi hb
    rcases h2 with h2 | ⟨l, hl, h2⟩
    · have := R.own_ge hm ht; omega
    · have hll := anc_lt i l hi hl
      have := R.own_inj (by omega) hm h2 ht
      subst this
      exact .inl ⟨hll, hl⟩
  · exact R.order hi hm hne ht hb

theorem Run.ord (R : Run E base ops σ rf lf Vf mf) {i m k : Nat} (hi : i < ops.length) (hm : m < ops.length) (hne : i ≠ m) (ht : touch σ Vf mf m k) (h : touch σ Vf mf i k) : (m < i ∧ m ∈ anc ops i) ∨ (i < m ∧ i ∈ anc ops m) := by
  rcases h with h | ⟨_, b, hb⟩
  · rcases ht with ht | ⟨_, b, hb⟩
    · exact absurd (R.own_inj hi hm h ht) hne
    · exact (R.ordV hm hi hne.symm (.inl h) hb).symm
  · exact R.ordV hi hm hne ht hb

theorem Run.merged (R : Run E base ops σ rf lf Vf mf) {i : Nat} (hi : i < ops.length) {n : Nat} {h H : Heap} (h5 : (∀ k b, getBlk (Vf i) k = some b → k < (σ i).next) → Merged (Vf i) (mf i) (σ i).next n h (σ i).heap H) : Merged (Vf i) (mf i) (σ i).next n h (σ i).heap H :=
  h5 fun _ _ hb => (R.foot hi hb).2.2

theorem Run.swf1 (R : Run E base ops σ rf lf Vf mf) {i : Nat} {o : Oper} (ho : ops[i]? = some o) : SWf E (σ i) (σ (i + 1)) := by
  have hi := ltO ho
  have hok := R.opers i o ho
  cases (R.step i o ho).kind with
  | skip h1 h2 h3 => rw [h3]; exact SWf.skip
  | op v h n H m h1 h2 h3 h4 h5 h6 =>
    obtain ⟨m1, m2, m3⟩ := R.merged hi h5
    rw [h4]
    refine ⟨by simpa using h3, fun D hD hG hT => ?_⟩
    rw [putS_next]
    obtain ⟨a, b⟩ := h2.1.2 D hD hG (fun x hx => by
      obtain ⟨y, hy, rfl⟩ := List.mem_map.1 hx
      exact hT.eval hG (List.all_eq_true.1 hok y hy)) (hT.1.sub fun k b hb => (R.foot hi hb).1)
    refine TWF.put (fun t => (hT.2 t).mono Dp_mono) a ?_
    intro k c hc
    by_cases hw : Wr (Vf i) (mf i) k
    · rw [m1 k hw] at hc; exact b k c hc
    · by_cases hn : (σ i).next ≤ k ∧ k < n
      · rw [m2 k hw hn.1 hn.2, Option.or_eq_some_iff] at hc
        rcases hc with hc | ⟨_, hc⟩
        · exact b k c hc
        · exact (hT.1.mono Dp_mono) k c hc
      · rw [m3 k hw hn] at hc; exact (hT.1.mono Dp_mono) k c hc
  | st t a x ad sz h' b h1 h2 h3 h4 h5 h6 h7 h8 h9 h10 =>
    rw [h10]
    refine ⟨by simp, fun D hD hG hT => ?_⟩
    rw [putS_next]
    have hx := hT.eval hG (List.all_eq_true.1 hok x (by simp [h2, Op.operands]))
    exact TWF.put (fun t => (hT.2 t).mono Dp_mono) WF.undef ((storeO_wf h6 hT.1 hx.cells).mono Dp_mono)

theorem Run.swf (R : Run E base ops σ rf lf Vf mf) {i : Nat} : ∀ j, i ≤ j → j ≤ ops.length → SWf E (σ i) (σ j) := by
  intro j
  induction j with
  | zero => intro h _; have : i = 0 := by omega
            subst this; exact SWf.refl _ _
  | succ j ih =>
    intro h1 h2
    by_cases e : i = j + 1
    · subst e; exact SWf.refl _ _
    · obtain ⟨o, ho⟩ := getO (ops := ops) (i := j) (by omega)
      exact (ih (by omega) (by omega)).trans (R.swf1 ho)

theorem TWF.step {s s' : St} (h : SWf E s s') (hg : E.P.globals.size ≤ s.next) (ht : TWF (· < s.next) s) : TWF (· < s'.next) s' := by
  have hx := h.2 (· < s.next) (fun _ h => h) (fun g hgg => Nat.lt_of_lt_of_le hgg hg) ht
  have hm : ∀ k, Dp (· < s.next) s.next s'.next k → k < s'.next := fun k hk => by
    have := h.1
    rcases hk with hk | hk
    · exact Nat.lt_of_lt_of_le hk this
    · exact hk.2
  exact ⟨hx.1.mono hm, fun t => (hx.2 t).mono hm⟩

theorem Run.twf (R : Run E base ops σ rf lf Vf mf) (hg : E.P.globals.size ≤ (σ 0).next) (ht : TWF (· < (σ 0).next) (σ 0)) {i : Nat} (hi : i ≤ ops.length) : TWF (· < (σ i).next) (σ i) :=
  TWF.step (R.swf i (Nat.zero_le _) hi) hg ht

/-- A step's effect on the blocks that it doesn't touch. -/
theorem Run.heap1 (R : Run E base ops σ rf lf Vf mf) (hg : E.P.globals.size ≤ (σ 0).next) (ht : TWF (· < (σ 0).next) (σ 0)) {i : Nat} {o : Oper} (ho : ops[i]? = some o) {k : Nat} (hh : ¬ touch σ Vf mf i k) : getBlk (σ (i + 1)).heap k = getBlk (σ i).heap k := by
  have hi := ltO ho
  by_cases hk : k < (σ i).next
  · cases (R.step i o ho).kind with
    | skip h1 h2 h3 => rw [h3]; simp
    | op v h n H m h1 h2 h3 h4 h5 h6 =>
      obtain ⟨m1, m2, m3⟩ := R.merged hi h5
      rw [h4, putS_heap]
      exact m3 k (fun hw => hh (.inr hw)) (by omega)
    | st t a x ad sz h' b h1 h2 h3 h4 h5 h6 h7 h8 h9 h10 =>
      rw [h10, putS_heap]
      obtain ⟨b', c, e1, e2, _⟩ := storeO_get h6
      rw [e2, getBlk_set]
      rw [if_neg fun e : k = ad.block => hh (.inr ⟨by rw [h9, e]; exact Nat.le_refl _, b, by rw [h8, getBlk_cons, if_pos e.symm]⟩)]
  · have hk2 : ¬ k < (σ (i + 1)).next := fun h => hh (.inl ⟨by omega, h⟩)
    have none : ∀ j, j ≤ ops.length → ¬ k < (σ j).next → getBlk (σ j).heap k = none := fun j hj hn => by
      cases hgb : getBlk (σ j).heap k with
      | none => rfl
      | some b => exact absurd ((R.twf hg ht hj).1 k b hgb).1 hn
    rw [none i (by omega) hk, none (i + 1) (by omega) hk2]

theorem Run.heapN (R : Run E base ops σ rf lf Vf mf) (hg : E.P.globals.size ≤ (σ 0).next) (ht : TWF (· < (σ 0).next) (σ 0)) {i k : Nat} : ∀ j, i ≤ j → j ≤ ops.length → (∀ m, i ≤ m → m < j → ¬ touch σ Vf mf m k) → getBlk (σ j).heap k = getBlk (σ i).heap k := by
  intro j
  induction j with
  | zero => intro h _ _; have : i = 0 := by omega
            subst this; rfl
  | succ j ih =>
    intro h1 h2 hh
    by_cases e : i = j + 1
    · subst e; rfl
    · obtain ⟨o, ho⟩ := getO (ops := ops) (i := j) (by omega)
      rw [R.heap1 hg ht ho (hh j (by omega) (by omega)), ih (by omega) (by omega) fun m a b => hh m a (by omega)]

theorem Run.wr_mw (R : Run E base ops σ rf lf Vf mf) {i k : Nat} (hi : i < ops.length) (hw : Wr (Vf i) (mf i) k) : (σ ops.length).mw ≤ k := by
  obtain ⟨o, ho⟩ := getO hi
  have h1 := (R.mw_le (i := i + 1) ops.length (by omega) (Nat.le_refl _)).1
  obtain ⟨w1, b, hb⟩ := hw
  have hlow := (R.foot hi hb).2.2
  cases (R.step i o ho).kind with
  | skip _ h2 _ => rw [h2] at hb; simp [getBlk] at hb
  | op v h n H m _ h2 h3 h4 h5 h6 =>
    rcases h6 with h6 | h6
    · omega
    · have : (σ (i + 1)).mw ≤ m := by rw [h4, putS_mw]; exact Nat.min_le_right _ _
      omega
  | st t a x ad sz h' b h1 h2 h3 h4 h5 h6 h7 h8 h9 h10 =>
    have : (σ (i + 1)).mw ≤ ad.block := by rw [h10, putS_mw]; exact Nat.min_le_right _ _
    omega

theorem Run.df1 (R : Run E base ops σ rf lf Vf mf) {i : Nat} {o : Oper} (ho : ops[i]? = some o) : (σ (i + 1)).df = (σ i).df := by
  cases (R.step i o ho).kind with
  | skip h1 h2 h3 => rw [h3, putS_df]
  | op v h n H m h1 h2 h3 h4 h5 h6 => rw [h4, putS_df]
  | st t a x ad sz h' b h1 h2 h3 h4 h5 h6 h7 h8 h9 h10 => rw [h10, putS_df]

theorem Run.df (R : Run E base ops σ rf lf Vf mf) : ∀ j, j ≤ ops.length → (σ j).df = (σ 0).df := by
  intro j
  induction j with
  | zero => intro _; rfl
  | succ j ih =>
    intro h
    obtain ⟨o, ho⟩ := getO (ops := ops) (i := j) (by omega)
    rw [R.df1 ho, ih (by omega)]

/-! Slots -/

theorem Run.slot1 (R : Run E base ops σ rf lf Vf mf) {i : Nat} {o : Oper} (ho : ops[i]? = some o) {t : Nat} (hd : o.dst ≠ some t) : getTmp (σ (i + 1)).tmps t = getTmp (σ i).tmps t := by
  cases (R.step i o ho).kind with
  | skip h1 h2 h3 => rw [h3, getTmp_put, if_neg hd]
  | op v h n H m h1 h2 h3 h4 h5 h6 => rw [h4, getTmp_put, if_neg hd]
  | st t' a x ad sz h' b h1 h2 h3 h4 h5 h6 h7 h8 h9 h10 => rw [h10, getTmp_put, if_neg hd]

theorem Run.slotA (R : Run E base ops σ rf lf Vf mf) {i t : Nat} : ∀ j, i ≤ j → j ≤ ops.length → (∀ m o, i ≤ m → m < j → ops[m]? = some o → o.dst ≠ some t) → getTmp (σ j).tmps t = getTmp (σ i).tmps t := by
  intro j
  induction j with
  | zero => intro h _ _; have : i = 0 := by omega
            subst this; rfl
  | succ j ih =>
    intro h1 h2 hh
    by_cases e : i = j + 1
    · subst e; rfl
    · obtain ⟨o, ho⟩ := getO (ops := ops) (i := j) (by omega)
      rw [R.slot1 ho (hh j o (by omega) (by omega) ho), ih (by omega) (by omega) fun m o a b => hh m o a (by omega)]

theorem Run.told1 (R : Run E base ops σ rf lf Vf mf) {i : Nat} {o : Oper} (ho : ops[i]? = some o) {t : Nat} (hd : o.dst ≠ some t) (h : ToldE E (σ (i + 1)) t) : ToldE E (σ i) t := by
  cases (R.step i o ho).kind with
  | skip h1 h2 h3 => rw [h3] at h; exact h.of_put hd
  | op v h' n H m h1 h2 h3 h4 h5 h6 => rw [h4] at h; exact h.of_put hd
  | st t' a x ad sz h' b h1 h2 h3 h4 h5 h6 h7 h8 h9 h10 => rw [h10] at h; exact h.of_put hd

theorem Run.toldA (R : Run E base ops σ rf lf Vf mf) {t : Nat} : ∀ j, j ≤ ops.length → (∀ m o, m < j → ops[m]? = some o → o.dst ≠ some t) → ToldE E (σ j) t → ToldE E (σ 0) t := by
  intro j
  induction j with
  | zero => intro _ _ h; exact h
  | succ j ih =>
    intro h2 hh h
    obtain ⟨o, ho⟩ := getO (ops := ops) (i := j) (by omega)
    exact ih (by omega) (fun m o a => hh m o (by omega)) (R.told1 ho (hh j o (by omega) ho) h)

theorem Run.slotB (R : Run E base ops σ rf lf Vf mf) {m t : Nat} {p : Oper} (hp : ops[m]? = some p) (hd : p.dst = some t) {j : Nat} (h1 : m < j) (h2 : j ≤ ops.length) : getTmp (σ j).tmps t = getTmp (σ (m + 1)).tmps t :=
  R.slotA j h1 h2 fun l o h3 _ ho e => by
    have := R.static.dst l o m p t ho hp e hd
    omega

/-! What hangs on which names, to the name -/

/-- What an operation told of is what stands there. -/
theorem Run.heapT (R : Run E base ops σ rf lf Vf mf) (hg : E.P.globals.size ≤ (σ 0).next) (ht : TWF (· < (σ 0).next) (σ 0)) {i k n : Nat} {h H : Heap} (hi : i < ops.length) (hn : (σ (i + 1)).next = n) (hH : (σ (i + 1)).heap = H)
    (hm : Merged (Vf i) (mf i) (σ i).next n h (σ i).heap H) (hk : touch σ Vf mf i k) : getBlk (σ (i + 1)).heap k = getBlk h k := by
  obtain ⟨m1, m2, m3⟩ := hm
  rw [hH]
  by_cases hw : Wr (Vf i) (mf i) k
  · exact m1 k hw
  · rcases hk with hk | hk
    · have hold : getBlk (σ i).heap k = none := by
        cases hgb : getBlk (σ i).heap k with
        | none => rfl
        | some b => have := ((R.twf hg ht (i := i) (by omega)).1 k b hgb).1; have := hk.1; omega
      rw [m2 k hw hk.1 (by rw [← hn]; exact hk.2), hold, Option.or_none]
    · exact absurd hk hw

theorem Run.wfV (R : Run E base ops σ rf lf Vf mf) (hg : E.P.globals.size ≤ (σ 0).next) (ht : TWF (· < (σ 0).next) (σ 0)) : ∀ (i : Nat) o, ops[i]? = some o →
    (∀ t, o.dst = some t → WF (PV ops σ i) (getTmp (σ (i + 1)).tmps t)) ∧ (∀ k b, touch σ Vf mf i k → getBlk (σ (i + 1)).heap k = some b → ∀ v, some v ∈ b.cells → WF (PV ops σ i) v) ∧
    (∀ x ∈ o.op.operands.toList, WF (PA ops σ i) (evalO (σ i).tmps x)) := by
  intro i
  induction i using Nat.strongRecOn with
  | _ i ih =>
    intro o ho
    have hi := ltO ho
    have hok := R.opers i o ho
    have hopd : ∀ x ∈ o.op.operands.toList, WF (PA ops σ i) (evalO (σ i).tmps x) := by
      intro x hx
      have hxo := List.all_eq_true.1 hok x hx
      cases x with
      | const v => exact WF.pure hxo
      | func f => exact WF.func0 _
      | global g => exact WF.ptr.2 (.inl (Nat.lt_of_lt_of_le (by simpa [opdOk, Nat.blt_eq] using hxo) hg))
      | tmp t =>
        show WF _ (getTmp (σ i).tmps t)
        by_cases hex : ∃ j p, j < i ∧ ops[j]? = some p ∧ p.dst = some t
        · obtain ⟨j, p, hj, hp, hd⟩ := hex
          rcases R.static.opd i o t j p ho hx hp hd with h | h | h
          · rw [R.slotB hp hd hj (by omega)]
            exact ((ih j hj p hp).1 t hd).mono fun k hk => PV_sub hi h hk
          · omega
          · have := anc_lt j i (ltO hp) h; omega
        · rw [R.slotA (i := 0) i (Nat.zero_le _) (by omega) fun m p _ hm hp e => hex ⟨m, p, hm, hp, e⟩]
          exact (ht.2 t).mono fun k hk => .inl hk
    have hV : HWF (PA ops σ i) (Vf i) := by
      intro k b hb
      obtain ⟨f1, f2, f3⟩ := R.foot hi hb
      refine ⟨f2, fun u hu => ?_⟩
      rcases last_of (fun m => touch σ Vf mf m k) i with ⟨m, h1, h2, h3⟩ | h
      · obtain ⟨p, hp⟩ := getO (ops := ops) (i := m) (by omega)
        rw [R.heapN hg ht (i := m + 1) i (by omega) (by omega) fun l l1 l2 => h3 l (by omega) l2] at f1
        have hanc : m ∈ anc ops i := by
          rcases R.ordV hi (by omega) (by omega) h2 hb with h | h
          · exact h.2
          · omega
        exact ((ih m h1 p hp).2.1 k b h2 f1 u hu).mono fun k hk => PV_sub hi hanc hk
      · rw [R.heapN hg ht (i := 0) i (Nat.zero_le _) (by omega) fun l _ l2 => h l l2] at f1
        exact ((ht.1 k b f1).2 u hu).mono fun k hk => .inl hk
    cases (R.step i o ho).kind with
    | skip h1 h2 h3 =>
      refine ⟨fun t hd => ?_, fun k b hk => ?_, hopd⟩
      · rw [h3, getTmp_put, if_pos hd]; exact WF.undef
      · rcases hk with hk | ⟨_, c, hc⟩
        · have := hk.1; have := hk.2; rw [h3, putS_next] at this; omega
        · rw [h2] at hc; simp [getBlk] at hc
    | op v h n H m h1 h2 h3 h4 h5 h6 =>
      have hM := R.merged hi h5
      obtain ⟨w1, w2⟩ := h2.1.2 (PA ops σ i) (fun k hk => R.PA_lt hi hk) (fun g hgg => .inl (Nat.lt_of_lt_of_le hgg hg)) (fun y hy => by
        obtain ⟨x, hx, rfl⟩ := List.mem_map.1 hy
        exact hopd x hx) hV
      have hn : (σ (i + 1)).next = n := by rw [h4, putS_next]
      have hm : ∀ k, Dp (PA ops σ i) (σ i).next n k → PV ops σ i k := fun k hk => by
        rcases hk with hk | hk
        · exact .inl hk
        · exact .inr ⟨hk.1, by rw [hn]; exact hk.2⟩
      refine ⟨fun t hd => ?_, fun k b hk hb u hu => ?_, hopd⟩
      · rw [h4, getTmp_put, if_pos hd]; exact w1.mono hm
      · rw [R.heapT hg ht hi hn (by rw [h4, putS_heap]) hM hk] at hb
        exact ((w2 k b hb).2 u hu).mono hm
    | st t' a x ad sz h' b h1 h2 h3 h4 h5 h6 h7 h8 h9 h10 =>
      refine ⟨fun t hd => ?_, fun k d hk hd u hu => ?_, hopd⟩
      · rw [h10, getTmp_put, if_pos hd]; exact WF.undef
      · rcases hk with hk | ⟨_, c, hc⟩
        · have := hk.1; have := hk.2; rw [h10, putS_next] at this; omega
        · obtain ⟨b', c', e1, e2, e3⟩ := storeO_get h6
          rw [h7] at e1
          cases e1
          have hVb : getBlk (Vf i) ad.block = some b := by rw [h8, getBlk_cons, if_pos rfl]
          have hs := storeO_wf (e3 (Vf i) hVb) hV ((hopd x (by simp [h2, Op.operands])).cells)
          have hke : k = ad.block := by
            rw [h8, getBlk_cons] at hc
            split at hc
            · rename_i e; exact e.symm
            · simp [getBlk] at hc
          subst hke
          rw [h10, putS_heap, e2, getBlk_set, if_pos rfl, h7] at hd
          refine ((hs ad.block d ?_).2 u hu).mono fun k hk => .inl hk
          rw [getBlk_set, if_pos rfl, hVb]
          exact hd

end
end Go.Pe

namespace Go.Pe
open Go Go.RowKit

section
variable {E : Env} {base : World} {ops : List Oper} {σ : Nat → St} {rf : Nat → List (Nat × Nat × Nat)} {lf : Nat → Recs} {Vf : Nat → Heap} {mf : Nat → Nat}

def seen (σ : Nat → St) (S : Nat → Prop) (k : Nat) : Prop := k < (σ 0).next ∨ ∃ m, S m ∧ own σ m k

/-- What holds when these operations are carried out. -/
structure Inv (E : Env) (base : World) (ops : List Oper) (σ : Nat → St) (Vf : Nat → Heap) (mf : Nat → Nat) (μ0 κ0 : Nat → Nat) (w0 : World) (S : Nat → Prop) (μ κ : Nat → Nat) (a : Act) (w : World) : Prop where
  shut : Shut ops S
  dom : ∀ i, S i → i < ops.length
  hs : ∃ (HS : Heap) (c : Nat → Nat), (∀ k, seen σ S k → c k ≤ ops.length ∧ ∀ m, m < ops.length → touch σ Vf mf m k → (S m ↔ m < c k)) ∧
    (∀ k b, getBlk HS k = some b ↔ seen σ S k ∧ getBlk (σ (c k)).heap k = some b) ∧ HWF (seen σ S) HS ∧ Rel E.P base μ κ HS w
  sz : a.tmps.size = (σ 0).size
  s1 : ∀ (j : Nat) o t, S j → ops[j]? = some o → o.dst = some t → a.tmps.getD t undef = renV μ κ (getTmp (σ (j + 1)).tmps t)
  s2 : ∀ t, (∀ (j : Nat) o, S j → ops[j]? = some o → o.dst ≠ some t) → ToldE E (σ 0) t → a.tmps.getD t undef = renV μ κ (getTmp (σ 0).tmps t)
  df : a.defers = (σ 0).df.map (defOf μ0 κ0)
  nm : ∀ k, (k < (σ 0).next ∨ (σ ops.length).next ≤ k) → μ k = μ0 k ∧ κ k = κ0 k
  nw : ∀ m k, S m → own σ m k → w0.heap.size ≤ μ k ∨ ∃ j, (σ ops.length).mw ≤ j ∧ j < (σ 0).next ∧ μ k = μ0 j
  hsz : w0.heap.size ≤ w.heap.size
  fr : ∀ b, b < w0.heap.size → (∀ k, (σ ops.length).mw ≤ k → k < (σ 0).next → μ0 k ≠ b) → w.heap[b]? = w0.heap[b]?
  nd : ∀ t ∈ needs ops ops, ToldE E (σ 0) t

variable {μ0 κ0 μ κ : Nat → Nat} {w0 w : World} {S : Nat → Prop} {a : Act} {i : Nat} {o : Oper}

def plus (S : Nat → Prop) (i : Nat) : Nat → Prop := fun j => S j ∨ j = i

theorem plus_shut (hS : Shut ops S) (ho : ops[i]? = some o) (hr : ∀ e ∈ o.after, Region.binds .any e = true → S e.on) : Shut ops (plus S i) := by
  intro j p hp hj e he hb
  rcases hj with hj | rfl
  · exact .inl (hS j p hp hj e he hb)
  · rw [ho] at hp; cases hp
    exact .inl (hr e he hb)

theorem Inv.ahead (I : Inv E base ops σ Vf mf μ0 κ0 w0 S μ κ a w) (ho : ops[i]? = some o) (hr : ∀ e ∈ o.after, Region.binds .any e = true → S e.on) {j : Nat} (hj : j ∈ anc ops i) : S j := anc_shut I.shut i o ho hr j hj

theorem Inv.back (I : Inv E base ops σ Vf mf μ0 κ0 w0 S μ κ a w) {j : Nat} (hS : S j) (hj : i ∈ anc ops j) : S i := by
  obtain ⟨p, hp⟩ := getO (I.dom j hS)
  exact anc_in I.shut hp hS hj

theorem PA_seen (h : ∀ j, j ∈ anc ops i → S j) {k : Nat} (hk : PA ops σ i k) : seen σ S k := by
  rcases hk with hk | ⟨m, hm, hk⟩
  · exact .inl hk
  · exact .inr ⟨m, h m hm, hk⟩

/-- A slot that an operation reads: told from the beginning, or written ahead of it. -/
theorem needs_mem {all : List Oper} : ∀ (l : List Oper) (i : Nat) (o : Oper) (t : Nat), l[i]? = some o → t ∈ guardSlot all o ++ tmpsOf o.op.operands.toList → t ∈ needs all l ∨ ∃ (j : Nat) (p : Oper), j < i ∧ l[j]? = some p ∧ p.dst = some t := by
  intro l
  induction l with
  | nil => intro i o t h; simp at h
  | cons q l ih =>
    intro i o t h ht
    cases i with
    | zero =>
      simp only [List.getElem?_cons_zero, Option.some.injEq] at h
      subst h
      exact .inl (by unfold needs; exact List.mem_append_left _ ht)
    | succ i =>
      rw [List.getElem?_cons_succ] at h
      rcases ih i o t h ht with h1 | ⟨j, p, h1, h2, h3⟩
      · by_cases hq : q.dst = some t
        · exact .inr ⟨0, q, by omega, by simp, hq⟩
        · refine .inl ?_
          unfold needs
          refine List.mem_append_right _ (List.mem_filter.2 ⟨h1, ?_⟩)
          unfold dstIs
          cases hd : q.dst with
          | none => rfl
          | some d =>
            have : d ≠ t := fun e => hq (by rw [hd, e])
            show (!Nat.beq d t) = true
            cases hb : Nat.beq d t with
            | true => exact absurd (beq_true hb) this
            | false => rfl
      · exact .inr ⟨j + 1, p, by omega, by rw [List.getElem?_cons_succ]; exact h2, h3⟩

/-- A slot as the operation finds it. -/
theorem Inv.slot (I : Inv E base ops σ Vf mf μ0 κ0 w0 S μ κ a w) (R : Run E base ops σ rf lf Vf mf) (ho : ops[i]? = some o) (hi : ¬ S i) (hr : ∀ e ∈ o.after, Region.binds .any e = true → S e.on) {t : Nat}
    (hto : t ∈ guardSlot ops o ++ tmpsOf o.op.operands.toList) (ht : ∀ (j : Nat) p, ops[j]? = some p → p.dst = some t → j ∈ anc ops i ∨ i = j ∨ i ∈ anc ops j) : a.tmps.getD t undef = renV μ κ (getTmp (σ i).tmps t) := by
  have hlt := ltO ho
  by_cases hex : ∃ (j : Nat) (p : Oper), S j ∧ ops[j]? = some p ∧ p.dst = some t
  · obtain ⟨j, p, hj, hp, hd⟩ := hex
    rw [I.s1 j p t hj hp hd]
    rcases ht j p hp hd with h | h | h
    · rw [R.slotB hp hd (anc_lt i j hlt h) (by omega)]
    · subst h; exact absurd hj hi
    · exact absurd (anc_in I.shut hp hj h) hi
  · have hfirst : ToldE E (σ 0) t := by
      rcases needs_mem ops i o t ho hto with h | ⟨j, p, hj, hp, hd⟩
      · exact I.nd t h
      · rcases ht j p hp hd with h | h | h
        · exact absurd ⟨j, p, I.ahead ho hr h, hp, hd⟩ hex
        · omega
        · have := anc_lt j i (ltO hp) h; omega
    rw [I.s2 t (fun j p hj hp e => hex ⟨j, p, hj, hp, e⟩) hfirst, R.slotA (i := 0) i (Nat.zero_le _) (by omega) fun m p _ hm hp e => ?_]
    rcases ht m p hp e with h | h | h
    · exact hex ⟨m, p, I.ahead ho hr h, hp, e⟩
    · omega
    · have := anc_lt m i (by omega) h; omega

theorem Inv.wanted (I : Inv E base ops σ Vf mf μ0 κ0 w0 S μ κ a w) (R : Run E base ops σ rf lf Vf mf) (ho : ops[i]? = some o) (hi : ¬ S i) (hr : ∀ e ∈ o.after, Region.binds .any e = true → S e.on) :
    Region.wanted o (yielded ops.toArray a.tmps) = Region.wanted o (guardV ops (σ i).tmps) := by
  refine wanted_congr fun j b hg => guard_gen (μ := μ) (κ := κ) fun p d hp hd => ?_
  have hs : d ∈ guardSlot ops o ++ tmpsOf o.op.operands.toList := List.mem_append_left _ (by
    unfold guardSlot
    rw [hg]
    simp [hp, hd])
  rw [nth_eq] at hp
  refine I.slot R ho hi hr hs fun l q hq hqd => .inl ?_
  have := R.static.dst j p l q d hp hq hd hqd
  subst this
  exact R.static.gd i o j b ho hg

theorem Inv.opd (I : Inv E base ops σ Vf mf μ0 κ0 w0 S μ κ a w) (R : Run E base ops σ rf lf Vf mf) (ho : ops[i]? = some o) (hi : ¬ S i) (hr : ∀ e ∈ o.after, Region.binds .any e = true → S e.on) :
    ∀ x ∈ o.op.operands.toList, a.eval x = renV μ κ (evalO (σ i).tmps x) := by
  intro x hx
  obtain ⟨HS, c, _, _, _, hrel⟩ := I.hs
  refine eval_gen hrel.glob (fun t e => ?_) (List.all_eq_true.1 (R.opers i o ho) x hx)
  subst e
  exact I.slot R ho hi hr (List.mem_append_right _ (mem_tmpsOf hx)) fun j p hp hd => R.static.opd i o t j p ho hx hp hd

theorem own_plus {k : Nat} (h : seen σ (plus S i) k) : seen σ S k ∨ own σ i k := by
  rcases h with h | ⟨m, h | rfl, hk⟩
  · exact .inl (.inl h)
  · exact .inl (.inr ⟨m, h, hk⟩)
  · exact .inr hk

theorem seen_plus {k : Nat} (h : seen σ S k ∨ own σ i k) : seen σ (plus S i) k := by
  rcases h with (h | ⟨m, h, hk⟩) | hk
  · exact .inl h
  · exact .inr ⟨m, .inl h, hk⟩
  · exact .inr ⟨i, .inr rfl, hk⟩

theorem Inv.not_own (I : Inv E base ops σ Vf mf μ0 κ0 w0 S μ κ a w) (R : Run E base ops σ rf lf Vf mf) (hlt : i < ops.length) (hi : ¬ S i) {k : Nat} (hk : seen σ S k) : ¬ own σ i k := by
  intro hown
  rcases hk with hk | ⟨m, hm, hk⟩
  · have := R.own_ge hlt hown; omega
  · have := R.own_inj (I.dom m hm) hlt hk hown
    subst this; exact hi hm

/-- What a slot holds is told by names that are given. -/
theorem Inv.slot_wf (I : Inv E base ops σ Vf mf μ0 κ0 w0 S μ κ a w) (R : Run E base ops σ rf lf Vf mf) (hg : E.P.globals.size ≤ (σ 0).next) (ht : TWF (· < (σ 0).next) (σ 0)) {j : Nat} {p : Oper} {t : Nat} (hj : S j) (hp : ops[j]? = some p) (hd : p.dst = some t) :
    WF (seen σ S) (getTmp (σ (j + 1)).tmps t) :=
  ((R.wfV hg ht j p hp).1 t hd).mono fun k hk => by
    rcases hk with hk | hk
    · exact PA_seen (fun m hm => anc_in I.shut hp hj hm) hk
    · exact .inr ⟨j, hj, hk⟩

/-- The slots, after one more is written, under names that are the same for what is given. -/
theorem Inv.slots (I : Inv E base ops σ Vf mf μ0 κ0 w0 S μ κ a w) (R : Run E base ops σ rf lf Vf mf) (hg : E.P.globals.size ≤ (σ 0).next) (ht : TWF (· < (σ 0).next) (σ 0)) (ho : ops[i]? = some o) (hi : ¬ S i) {μ' κ' : Nat → Nat} {u : Value}
    (hd : ∀ d, o.dst = some d → d < (σ i).size) (hag : ∀ k, seen σ S k → μ' k = μ k ∧ κ' k = κ k) (hu : ∀ t, o.dst = some t → u = renV μ' κ' (getTmp (σ (i + 1)).tmps t)) :
    (a.put o.dst u).tmps.size = (σ 0).size ∧
    (∀ (j : Nat) p t, plus S i j → ops[j]? = some p → p.dst = some t → (a.put o.dst u).tmps.getD t undef = renV μ' κ' (getTmp (σ (j + 1)).tmps t)) ∧
    (∀ t, (∀ (j : Nat) p, plus S i j → ops[j]? = some p → p.dst ≠ some t) → ToldE E (σ 0) t → (a.put o.dst u).tmps.getD t undef = renV μ' κ' (getTmp (σ 0).tmps t)) := by
  have hsz := I.sz
  have hsi := (R.mw_le (i := 0) i (Nat.zero_le _) (by have := ltO ho; omega)).2
  have hd' : ∀ d, o.dst = some d → d < a.tmps.size := fun d h => by rw [hsz, ← hsi]; exact hd d h
  refine ⟨by rw [size_put]; exact hsz, fun j p t hj hp hdt => ?_, fun t hno hto => ?_⟩
  · rw [getD_put a o.dst u t hd']
    split
    · rename_i e
      have := R.static.dst i o j p t ho hp e hdt
      subst this
      exact hu t e
    · rename_i e
      rcases hj with hj | rfl
      · rw [I.s1 j p t hj hp hdt]
        exact (I.slot_wf R hg ht hj hp hdt _ _ _ _ fun k hk => hag k hk).symm
      · rw [ho] at hp; cases hp; exact absurd hdt e
  · rw [getD_put a o.dst u t hd', if_neg (hno i o (.inr rfl) ho), I.s2 t (fun j p hj hp => hno j p (.inl hj) hp) hto]
    exact (ht.2 t _ _ _ _ fun k hk => hag k (.inl hk)).symm

theorem inv_start (hr : StRel E base μ0 κ0 (σ 0) a w0) (hnd : ∀ t ∈ needs ops ops, ToldE E (σ 0) t) : Inv E base ops σ Vf mf μ0 κ0 w0 (fun _ => False) μ0 κ0 a w0 := by
  refine ⟨fun _ _ _ h => h.elim, fun _ h => h.elim, ⟨(σ 0).heap, fun _ => 0, fun k _ => ⟨Nat.zero_le _, fun m _ _ => ⟨False.elim, fun h => absurd h (Nat.not_lt_zero _)⟩⟩, fun k b => ⟨fun h => ⟨.inl (hr.wf.1 k b h).1, h⟩, fun h => h.2⟩,
    hr.wf.1.mono fun k hk => .inl hk, hr.rel⟩, hr.sz, fun _ _ _ h => h.elim, fun t _ => hr.tmp t, hr.df, fun _ _ => ⟨rfl, rfl⟩, fun _ _ h => h.elim, Nat.le_refl _, fun _ _ _ => rfl, hnd⟩

theorem inv_end (R : Run E base ops σ rf lf Vf mf) (hr : StRel E base μ0 κ0 (σ 0) a w0) {a' : Act} (I : Inv E base ops σ Vf mf μ0 κ0 w0 S μ κ a' w) (hall : ∀ i, i < ops.length → S i) : StOut E base (σ 0) (σ ops.length) μ0 κ0 w0 a' w := by
  obtain ⟨HS, c, h1, h4, h5, h6⟩ := I.hs
  have hnext := R.next_le (i := 0) ops.length (Nat.zero_le _) (Nat.le_refl _)
  have hN := R.twf hr.gl hr.wf (i := ops.length) (Nat.le_refl _)
  refine ⟨μ, κ, ⟨hnext, I.nm, I.hsz, fun b hb hh => I.fr b hb hh, fun k k1 k2 => ?_⟩, h6.fewer fun k b hb => ?_, I.sz.trans (R.mw_le (i := 0) ops.length (Nat.zero_le _) (Nat.le_refl _)).2.symm, fun t hto => ?_, by
    rw [R.df ops.length (Nat.le_refl _), defs_same hr.dw fun k hk => I.nm k (.inl hk)]
    exact I.df, by
    rw [R.df ops.length (Nat.le_refl _)]
    exact hr.dw.mono fun k hk => Nat.lt_of_lt_of_le hk hnext, hN, Nat.le_trans hr.gl hnext⟩
  · rcases R.own_ex ops.length (Nat.le_refl _) k2 with h | ⟨m, hm, h⟩
    · omega
    · exact I.nw m k (hall m hm) h
  · have hk := (hN.1 k b hb).1
    have hseen : seen σ S k := by
      rcases R.own_ex ops.length (Nat.le_refl _) hk with h | ⟨m, hm, h⟩
      · exact .inl h
      · exact .inr ⟨m, hall m hm, h⟩
    obtain ⟨c1, c2⟩ := h1 k hseen
    refine (h4 k b).2 ⟨hseen, ?_⟩
    rw [← R.heapN hr.gl hr.wf (i := c k) ops.length c1 (Nat.le_refl _) fun m m1 m2 hm => ?_]
    · exact hb
    · have := (c2 m m2 hm).1 (hall m m2); omega
  · by_cases hex : ∃ (j : Nat) (p : Oper), ops[j]? = some p ∧ p.dst = some t
    · obtain ⟨j, p, hp, hd⟩ := hex
      rw [I.s1 j p t (hall j (ltO hp)) hp hd, R.slotB hp hd (ltO hp) (Nat.le_refl _)]
    · rw [I.s2 t (fun j p _ hp e => hex ⟨j, p, hp, e⟩) (R.toldA ops.length (Nat.le_refl _) (fun m p _ hp e => hex ⟨m, p, hp, e⟩) hto), R.slotA (i := 0) ops.length (Nat.zero_le _) (Nat.le_refl _) fun m p _ _ hp e => hex ⟨m, p, hp, e⟩]

/-- An operation that is not carried out. -/
theorem inv_skip (R : Run E base ops σ rf lf Vf mf) (hg : E.P.globals.size ≤ (σ 0).next) (ht : TWF (· < (σ 0).next) (σ 0)) (I : Inv E base ops σ Vf mf μ0 κ0 w0 S μ κ a w) (ho : ops[i]? = some o) (hi : ¬ S i)
    (hr : ∀ e ∈ o.after, Region.binds .any e = true → S e.on) (hd : ∀ d, o.dst = some d → d < (σ i).size) (hV : Vf i = []) (h1 : σ (i + 1) = putS (σ i) o.dst undef (σ i).heap (σ i).next big) :
    Inv E base ops σ Vf mf μ0 κ0 w0 (plus S i) μ κ (a.put o.dst undef) w := by
  have hlt := ltO ho
  obtain ⟨HS, c, q3, q4, q5, q6⟩ := I.hs
  obtain ⟨t1, t2, t3⟩ := I.slots R hg ht ho hi (μ' := μ) (κ' := κ) (u := undef) hd (fun _ _ => ⟨rfl, rfl⟩) fun t e => by rw [h1, getTmp_put, if_pos e]; simp
  have noown : ∀ k, ¬ own σ i k := fun k hk => by
    have a := hk.1; have b := hk.2; rw [h1, putS_next] at b; omega
  have notouch : ∀ k, ¬ touch σ Vf mf i k := fun k hk => by
    rcases hk with hk | ⟨_, b, hb⟩
    · exact noown k hk
    · rw [hV] at hb; simp [getBlk] at hb
  have hseen : ∀ k, seen σ (plus S i) k ↔ seen σ S k := fun k => ⟨fun h => (own_plus h).resolve_right (noown k), fun h => seen_plus (.inl h)⟩
  refine ⟨plus_shut I.shut ho hr, fun j hj => hj.elim (I.dom j) fun e => by omega, ⟨HS, c, fun k hk => ?_, fun k b => by rw [q4 k b, hseen], q5.mono fun k hk => (hseen k).2 hk, q6⟩, t1, t2, t3, by rw [df_put]; exact I.df, I.nm, fun m k hm hk => ?_, I.hsz, I.fr, I.nd⟩
  · obtain ⟨c1, c2⟩ := q3 k ((hseen k).1 hk)
    refine ⟨c1, fun m hm htm => ?_⟩
    rw [← c2 m hm htm]
    constructor
    · rintro (h | rfl)
      · exact h
      · exact absurd htm (notouch k)
    · exact .inl
  · rcases hm with hm | rfl
    · exact I.nw m k hm hk
    · exact absurd hk (noown k)

/-- What stands in the blocks at which an operation looks. -/
theorem Inv.foot (I : Inv E base ops σ Vf mf μ0 κ0 w0 S μ κ a w) (R : Run E base ops σ rf lf Vf mf) (hg : E.P.globals.size ≤ (σ 0).next) (ht : TWF (· < (σ 0).next) (σ 0)) (ho : ops[i]? = some o) (hi : ¬ S i) (hr : ∀ e ∈ o.after, Region.binds .any e = true → S e.on)
    {k c : Nat} {b : Blk} (hb : getBlk (Vf i) k = some b) (hc : c ≤ ops.length) (hc2 : ∀ m, m < ops.length → touch σ Vf mf m k → (S m ↔ m < c)) : seen σ S k ∧ getBlk (σ c).heap k = some b := by
  have hlt := ltO ho
  obtain ⟨f1, f2, f3⟩ := R.foot hlt hb
  refine ⟨PA_seen (fun j hj => I.ahead ho hr hj) f2, ?_⟩
  rcases Nat.le_total c i with hle | hle
  · rw [← R.heapN hg ht (i := c) i hle (by omega) fun m m1 m2 hm => ?_]
    · exact f1
    · rcases R.ordV hlt (by omega) (by omega) hm hb with h | h
      · have := (hc2 m (by omega) hm).1 (I.ahead ho hr h.2); omega
      · omega
  · rw [R.heapN hg ht (i := i) c hle hc fun m m1 m2 hm => ?_]
    · exact f1
    · have hS := (hc2 m (by omega) hm).2 m2
      have hne : i ≠ m := fun e => hi (e ▸ hS)
      rcases R.ordV hlt (by omega) hne hm hb with h | h
      · omega
      · exact hi (I.back hS h.2)

/-- After an operation: what it touches is told anew, all else as before. -/
theorem inv_put (R : Run E base ops σ rf lf Vf mf) (hg : E.P.globals.size ≤ (σ 0).next) (ht : TWF (· < (σ 0).next) (σ 0)) (I : Inv E base ops σ Vf mf μ0 κ0 w0 S μ κ a w) (ho : ops[i]? = some o) (hi : ¬ S i)
    (hr : ∀ e ∈ o.after, Region.binds .any e = true → S e.on) (hd : ∀ d, o.dst = some d → d < (σ i).size) {μ' κ' : Nat → Nat} {u : Value} {w' : World} {HT : Heap}
    (hag : ∀ k, seen σ S k → μ' k = μ k ∧ κ' k = κ k) (hnm : ∀ k, (k < (σ 0).next ∨ (σ ops.length).next ≤ k) → μ' k = μ k ∧ κ' k = κ k) (hu : ∀ t, o.dst = some t → u = renV μ' κ' (getTmp (σ (i + 1)).tmps t))
    (hsz : w.heap.size ≤ w'.heap.size) (hfr : ∀ b, b < w.heap.size → (∀ k, Wr (Vf i) (mf i) k → μ k ≠ b) → w'.heap[b]? = w.heap[b]?)
    (hnw : ∀ k, own σ i k → w.heap.size ≤ μ' k ∨ ∃ j, Wr (Vf i) (mf i) j ∧ μ' k = μ j)
    (hT : ∀ k b, getBlk HT k = some b ↔ touch σ Vf mf i k ∧ getBlk (σ (i + 1)).heap k = some b) (hrel : Rel E.P base μ' κ' HT w') :
    Inv E base ops σ Vf mf μ0 κ0 w0 (plus S i) μ' κ' (a.put o.dst u) w' := by
  have hlt := ltO ho
  obtain ⟨HS, c, q3, q4, q5, q6⟩ := I.hs
  obtain ⟨t1, t2, t3⟩ := I.slots R hg ht ho hi (u := u) hd hag hu
  have dec : ∀ k, touch σ Vf mf i k ↔ (inW (Vf i) (mf i) k || newIn (σ i).next (σ (i + 1)).next k) = true := fun k => by
    rw [Bool.or_eq_true, inW_iff, newIn_iff]
    exact or_comm
  have hfoot : ∀ k b, getBlk (Vf i) k = some b → seen σ S k ∧ getBlk HS k = some b := fun k b hb => by
    have hs := PA_seen (σ := σ) (fun j hj => I.ahead ho hr hj) (R.foot hlt hb).2.1
    obtain ⟨c1, c2⟩ := q3 k hs
    have := I.foot R hg ht ho hi hr hb c1 c2
    exact ⟨hs, (q4 k b).2 this⟩
  have hsT : ∀ k, touch σ Vf mf i k → seen σ (plus S i) k := fun k hk => by
    rcases hk with hk | ⟨_, b, hb⟩
    · exact seen_plus (.inr hk)
    · exact seen_plus (.inl (hfoot k b hb).1)
  have hsN : ∀ k, ¬ touch σ Vf mf i k → seen σ (plus S i) k → seen σ S k := fun k hk h => (own_plus h).resolve_right fun h => hk (.inl h)
  obtain ⟨HN, hget⟩ : ∃ HN : Heap, ∀ k, (touch σ Vf mf i k → getBlk HN k = getBlk HT k) ∧ (¬ touch σ Vf mf i k → getBlk HN k = getBlk HS k) := by
    refine ⟨HT ++ keepH (fun k => !(inW (Vf i) (mf i) k || newIn (σ i).next (σ (i + 1)).next k)) HS, fun k => ⟨fun hk => ?_, fun hk => ?_⟩⟩
    · rw [getBlk_append, getBlk_keepH, (dec k).1 hk]; simp
    · have h0 : getBlk HT k = none := by
        cases hgb : getBlk HT k with
        | none => rfl
        | some b => exact absurd ((hT k b).1 hgb).1 hk
      have h1 : (inW (Vf i) (mf i) k || newIn (σ i).next (σ (i + 1)).next k) = false := by
        cases hc : (inW (Vf i) (mf i) k || newIn (σ i).next (σ (i + 1)).next k) with
        | false => rfl
        | true => exact absurd ((dec k).2 hc) hk
      rw [getBlk_append, h0, Option.none_or, getBlk_keepH, h1]; simp
  obtain ⟨c', hc'⟩ : ∃ c' : Nat → Nat, ∀ k, (touch σ Vf mf i k → c' k = i + 1) ∧ (¬ touch σ Vf mf i k → c' k = c k) :=
    ⟨fun k => if (inW (Vf i) (mf i) k || newIn (σ i).next (σ (i + 1)).next k) = true then i + 1 else c k, fun k => ⟨fun h => if_pos ((dec k).1 h), fun h => if_neg fun h2 => h ((dec k).2 h2)⟩⟩
  refine ⟨plus_shut I.shut ho hr, fun j hj => hj.elim (I.dom j) fun e => by omega,
    ⟨HN, c', fun k hk => ?_, fun k b => ?_, fun k b hb => ?_, ⟨hrel.below, fun k b hb => ?_, fun k j x y hx hy e => ?_, hrel.glob, hrel.gsz⟩⟩,
    t1, t2, t3, by rw [df_put]; exact I.df, fun k hk => ?_, fun m k hm hk => ?_, Nat.le_trans I.hsz hsz, fun b hb hh => ?_, I.nd⟩
  · by_cases hk2 : touch σ Vf mf i k
    · rw [(hc' k).1 hk2]
      refine ⟨by omega, fun m hm htm => ⟨?_, fun h => ?_⟩⟩
      · rintro (h | rfl)
        · by_cases e : i = m
          · omega
          · rcases R.ord hlt hm e htm hk2 with h2 | h2
            · omega
            · exact absurd (I.back h h2.2) hi
        · omega
      · by_cases e : i = m
        · exact .inr e.symm
        · rcases R.ord hlt hm e htm hk2 with h2 | h2
          · exact .inl (I.ahead ho hr h2.2)
          · omega
    · rw [(hc' k).2 hk2]
      obtain ⟨c1, c2⟩ := q3 k (hsN k hk2 hk)
      refine ⟨c1, fun m hm htm => ?_⟩
      rw [← c2 m hm htm]
      constructor
      · rintro (h | rfl)
        · exact h
        · exact absurd htm hk2
      · exact .inl
  · by_cases hk2 : touch σ Vf mf i k
    · rw [(hc' k).1 hk2, (hget k).1 hk2, hT]
      exact ⟨fun h => ⟨hsT k hk2, h.2⟩, fun h => ⟨hk2, h.2⟩⟩
    · rw [(hc' k).2 hk2, (hget k).2 hk2, q4]
      exact ⟨fun h => ⟨seen_plus (.inl h.1), h.2⟩, fun h => ⟨hsN k hk2 h.1, h.2⟩⟩
  · by_cases hk2 : touch σ Vf mf i k
    · rw [(hget k).1 hk2] at hb
      refine ⟨hsT k hk2, fun v hv => ?_⟩
      refine ((R.wfV hg ht i o ho).2.1 k b hk2 ((hT k b).1 hb).2 v hv).mono fun j hj => ?_
      rcases hj with hj | hj
      · exact seen_plus (.inl (PA_seen (fun j hj => I.ahead ho hr hj) hj))
      · exact seen_plus (.inr hj)
    · rw [(hget k).2 hk2] at hb
      obtain ⟨h1, h2⟩ := q5 k b hb
      exact ⟨seen_plus (.inl h1), fun v hv => (h2 v hv).mono fun j hj => seen_plus (.inl hj)⟩
  · by_cases hk2 : touch σ Vf mf i k
    · rw [(hget k).1 hk2] at hb; exact hrel.blk k b hb
    · rw [(hget k).2 hk2] at hb
      obtain ⟨h1, h2⟩ := q5 k b hb
      obtain ⟨e1, e2⟩ := hag k h1
      refine (q6.blk k b hb).same e1 e2 (fun v hv => h2 v hv _ _ _ _ hag) (hfr _ (q6.blk k b hb).lt fun j hj e => ?_)
      obtain ⟨d, hd⟩ := hj.2
      have := q6.inj j k d b (hfoot j d hd).2 hb e
      subst this
      exact hk2 (.inr hj)
  · have cross : ∀ k j x y, touch σ Vf mf i k → ¬ touch σ Vf mf i j → getBlk HT k = some x → getBlk HS j = some y → μ' k ≠ μ' j := by
      intro k j x y hk hj hx hy e
      obtain ⟨e1, e2⟩ := hag j (q5 j y hy).1
      have hjl := (q6.blk j y hy).lt
      have hwr : ∀ l, Wr (Vf i) (mf i) l → μ l = μ j → False := fun l hl e => by
        obtain ⟨d, hd⟩ := hl.2
        have := q6.inj l j d y (hfoot l d hd).2 hy e
        subst this
        exact hj (.inr hl)
      rcases hk with hk | hk
      · rcases hnw k hk with h | ⟨l, l1, l2⟩
        · omega
        · exact hwr l l1 (by omega)
      · obtain ⟨d, hd⟩ := hk.2
        have := (hag k (hfoot k d hd).1).1
        exact hwr k hk (by omega)
    by_cases hk2 : touch σ Vf mf i k
    · rw [(hget k).1 hk2] at hx
      by_cases hj2 : touch σ Vf mf i j
      · rw [(hget j).1 hj2] at hy; exact hrel.inj k j x y hx hy e
      · rw [(hget j).2 hj2] at hy; exact absurd e (cross k j x y hk2 hj2 hx hy)
    · rw [(hget k).2 hk2] at hx
      by_cases hj2 : touch σ Vf mf i j
      · rw [(hget j).1 hj2] at hy; exact absurd e.symm (cross j k y x hj2 hk2 hy hx)
      · rw [(hget j).2 hj2] at hy
        have a1 := (hag k (q5 k x hx).1).1
        have a2 := (hag j (q5 j y hy).1).1
        exact q6.inj k j x y hx hy (by omega)
  · have a1 := hnm k hk
    have a2 := I.nm k hk
    exact ⟨a1.1.trans a2.1, a1.2.trans a2.2⟩
  · rcases hm with hm | rfl
    · rw [(hag k (.inr ⟨m, hm, hk⟩)).1]; exact I.nw m k hm hk
    · rcases hnw k hk with h | ⟨j, j1, j2⟩
      · exact .inl (Nat.le_trans I.hsz h)
      · obtain ⟨d, hd⟩ := j1.2
        rcases (hfoot j d hd).1 with h | ⟨l, hl, h⟩
        · exact .inr ⟨j, R.wr_mw hlt j1, h, by rw [j2, (I.nm j (.inl h)).1]⟩
        · rw [j2]; exact I.nw l j hl h
  · rw [hfr b (Nat.lt_of_lt_of_le hb I.hsz) fun j hj => ?_, I.fr b hb hh]
    obtain ⟨d, hd⟩ := hj.2
    rcases (hfoot j d hd).1 with h | ⟨l, hl, h⟩
    · rw [(I.nm j (.inl h)).1]; exact hh j (R.wr_mw hlt hj) h
    · rcases I.nw l j hl h with h | ⟨m, m1, m2, m3⟩
      · omega
      · rw [m3]; exact hh m m1 m2

end
end Go.Pe

namespace Go.Pe
open Go Go.RowKit

section
variable {E : Env} {base : World} {ops : List Oper} {σ : Nat → St} {rf : Nat → List (Nat × Nat × Nat)} {lf : Nat → Recs} {Vf : Nat → Heap} {mf : Nat → Nat}
variable {μ0 κ0 μ κ : Nat → Nat} {w0 w : World} {S : Nat → Prop} {a : Act} {i : Nat} {o : Oper}

theorem Inv.below (_I : Inv E base ops σ Vf mf μ0 κ0 w0 S μ κ a w) (R : Run E base ops σ rf lf Vf mf) (hg : E.P.globals.size ≤ (σ 0).next) (ht : TWF (· < (σ 0).next) (σ 0)) (ho : ops[i]? = some o) :
    ∀ x ∈ o.op.operands.toList, WF (· < (σ i).next) (evalO (σ i).tmps x) := fun x hx =>
  (R.twf hg ht (i := i) (by have := ltO ho; omega)).eval (fun g hgg => Nat.lt_of_lt_of_le hgg (Nat.le_trans hg (R.next_le i (Nat.zero_le _) (by have := ltO ho; omega)))) (List.all_eq_true.1 (R.opers i o ho) x hx)

theorem wp_of_out {h' : Heap} {v : Value} {mw n n' : Nat} {N : Act → World → Prop} {Q : Exit → Act → World → Prop} (hout : OpOut E base h' v mw n n' μ κ w ((execOp a.eval o).run E.P w))
    (fin : ∀ u w', Out E base h' v mw n n' μ κ w u w' → N (a.put o.dst u) w') : o.wp E.P a w N Q := by
  unfold Oper.wp
  generalize (execOp a.eval o).run E.P w = r at *
  cases r with
  | halt x w' => exact hout.elim
  | ok nx w' =>
    cases nx with
    | value u => exact fin u w' hout
    | skip => exact fin _ w' hout
    | enter f args =>
      obtain ⟨rfl, hc⟩ := hout
      refine Calls.mono hc fun e w'' he => ?_
      obtain ⟨u, rfl, hu⟩ := he
      exact fin u w'' hu
    | _ => exact hout.elim

/-- An operation on some blocks. -/
theorem inv_op (R : Run E base ops σ rf lf Vf mf) (hg : E.P.globals.size ≤ (σ 0).next) (ht : TWF (· < (σ 0).next) (σ 0)) (I : Inv E base ops σ Vf mf μ0 κ0 w0 S μ κ a w) (ho : ops[i]? = some o) (hi : ¬ S i)
    (hr : ∀ e ∈ o.after, Region.binds .any e = true → S e.on) (hd : ∀ d, o.dst = some d → d < (σ i).size) {v : Value} {h : Heap} {n : Nat} {H : Heap} {m : Nat} (h2 : OpSem E base o (evalO (σ i).tmps) (Vf i) (σ i).next v h n (mf i))
    (h4 : σ (i + 1) = putS (σ i) o.dst v H n m) (h5 : (∀ k b, getBlk (Vf i) k = some b → k < (σ i).next) → Merged (Vf i) (mf i) (σ i).next n h (σ i).heap H)
    (h6 : (σ i).next ≤ mf i ∨ (m ≤ mf i ∧ ∃ B, E.P.globals.size ≤ B ∧ B ≤ mf i ∧ B ≤ (σ i).next ∧ (∀ k b, getBlk (Vf i) k = some b → ∀ u, some u ∈ b.cells → WF (inD B (Vf i)) u) ∧ ∀ x ∈ o.op.operands.toList, WF (inD B (Vf i)) (evalO (σ i).tmps x)))
    {N : Act → World → Prop} {Q : Exit → Act → World → Prop} (hN : ∀ μ' κ' a' w', Inv E base ops σ Vf mf μ0 κ0 w0 (plus S i) μ' κ' a' w' → N a' w') : o.wp E.P a w N Q := by
  have hlt := ltO ho
  have hti := R.twf hg ht (i := i) (by omega)
  have hgi := Nat.le_trans hg (R.next_le i (Nat.zero_le _) (by omega))
  have h0i := R.next_le (i := 0) i (Nat.zero_le _) (by omega)
  obtain ⟨HS, c, q3, q4, q5, q6⟩ := I.hs
  have hn : (σ (i + 1)).next = n := by rw [h4, putS_next]
  have hnN : n ≤ (σ ops.length).next := by rw [← hn]; exact R.next_le _ (by omega) (Nat.le_refl _)
  have hM := R.merged hlt h5
  have hV : ∀ k b, getBlk (Vf i) k = some b → getBlk HS k = some b := fun k b hb => by
    have hs := PA_seen (σ := σ) (fun j hj => I.ahead ho hr hj) (R.foot hlt hb).2.1
    obtain ⟨c1, c2⟩ := q3 k hs
    exact (q4 k b).2 (I.foot R hg ht ho hi hr hb c1 c2)
  have hown : ∀ k, own σ i k ↔ (σ i).next ≤ k ∧ k < n := fun k => by unfold own; rw [hn]
  have hseen : ∀ k, seen σ S k → ¬ ((σ i).next ≤ k ∧ k < n) := fun k hk h => I.not_own R hlt hi hk ((hown k).2 h)
  have hVw : HWF (· < (σ i).next) (Vf i) := hti.1.sub fun k b hb => (R.foot hlt hb).1
  obtain ⟨HT, hT⟩ : ∃ HT : Heap, ∀ k b, getBlk HT k = some b ↔ touch σ Vf mf i k ∧ getBlk h k = some b := by
    refine ⟨keepH (fun k => inW (Vf i) (mf i) k || newIn (σ i).next (σ (i + 1)).next k) h, fun k b => ?_⟩
    have dec : (inW (Vf i) (mf i) k || newIn (σ i).next (σ (i + 1)).next k) = true ↔ touch σ Vf mf i k := by
      rw [Bool.or_eq_true, inW_iff, newIn_iff]
      exact or_comm
    rw [getBlk_keepH]
    split
    · rename_i hp; exact ⟨fun h => ⟨dec.1 hp, h⟩, fun h => h.2⟩
    · rename_i hp; exact ⟨fun h => (nomatch h), fun h => absurd (dec.2 h.1) hp⟩
  have hT2 : ∀ k b, getBlk HT k = some b ↔ touch σ Vf mf i k ∧ getBlk (σ (i + 1)).heap k = some b := fun k b => by
    rw [hT]
    constructor
    · rintro ⟨t1, t2⟩; exact ⟨t1, by rw [R.heapT hg ht hlt hn (by rw [h4, putS_heap]) hM t1]; exact t2⟩
    · rintro ⟨t1, t2⟩; exact ⟨t1, by rw [R.heapT hg ht hlt hn (by rw [h4, putS_heap]) hM t1] at t2; exact t2⟩
  rcases h6 with h6 | ⟨_, B, gB, g1, gN, g2, g3⟩
  · have hout := h2.2 μ κ w a.eval (q6.fewer hV) (I.opd R ho hi hr) hVw (I.below R hg ht ho) hgi
    refine wp_of_out hout fun u w' ⟨μ', κ', st, hu, hrel⟩ => hN μ' κ' _ _ ?_
    have hag : ∀ k, seen σ S k → μ' k = μ k ∧ κ' k = κ k := fun k hk => by
      have := hseen k hk
      exact st.ag k (by omega)
    refine inv_put R hg ht I ho hi hr hd hag (fun k hk => st.ag k (by omega)) (fun t e => by rw [h4, getTmp_put, if_pos e]; exact hu) st.sz (fun b hb _ => st.fr b hb fun j j1 j2 => by omega) (fun k hk => ?_) hT2 (hrel.fewer fun k b hb => ((hT k b).1 hb).2)
    rcases st.nw k ((hown k).1 hk).1 ((hown k).1 hk).2 with h | ⟨j, j1, j2, _⟩
    · exact .inl h
    · omega
  · have hDn : ∀ k, inD B (Vf i) k → k < (σ i).next := fun k hk => by
      rcases hk with hk | ⟨b, hb⟩
      · omega
      · exact (R.foot hlt hb).2.2
    obtain ⟨μ1, hμ1, hμ2⟩ : ∃ μ1 : Nat → Nat, (∀ k, inD B (Vf i) k → μ1 k = μ k) ∧ ∀ k, ¬ inD B (Vf i) k → w.heap.size ≤ μ1 k := by
      have dec : ∀ k, inB B (Vf i) k = true ↔ inD B (Vf i) k := fun k => by
        refine ⟨inB_iff, fun h => ?_⟩
        unfold inB
        split
        · rfl
        · rename_i hb
          rcases h with h | ⟨b, h⟩
          · have : Nat.blt k B = true := by simpa [Nat.blt_eq] using h
            rw [this] at hb; cases hb
          · exact hasB_iff.2 ⟨b, h⟩
      refine ⟨fun k => if inB B (Vf i) k = true then μ k else w.heap.size + k, fun k hk => if_pos ((dec k).2 hk), fun k hk => ?_⟩
      show _ ≤ if inB B (Vf i) k = true then μ k else w.heap.size + k
      rw [if_neg fun h => hk ((dec k).1 h)]
      omega
    have hcell : ∀ u : Value, WF (inD B (Vf i)) u → renV μ1 κ u = renV μ κ u := fun u hu => hu μ κ μ1 κ fun k hk => ⟨hμ1 k hk, rfl⟩
    have hrel1 : Rel E.P base μ1 κ (Vf i) w := by
      refine ⟨q6.below, fun k b hb => ?_, fun k j x y hx hy e => ?_, fun g hgg => by rw [hμ1 g (.inl (Nat.lt_of_lt_of_le hgg gB))]; exact q6.glob g hgg, q6.gsz⟩
      · exact (q6.blk k b (hV k b hb)).same (hμ1 k (.inr ⟨b, hb⟩)) rfl (fun u hu => hcell u (g2 k b hb u hu)) rfl
      · rw [hμ1 k (.inr ⟨x, hx⟩), hμ1 j (.inr ⟨y, hy⟩)] at e
        exact q6.inj k j x y (hV k x hx) (hV j y hy) e
    have hout := h2.2 μ1 κ w a.eval hrel1 (fun x hx => by rw [I.opd R ho hi hr x hx, hcell _ (g3 x hx)]) hVw (I.below R hg ht ho) hgi
    obtain ⟨w1, w2⟩ := h2.1.2 (inD B (Vf i)) hDn (fun g hgg => .inl (Nat.lt_of_lt_of_le hgg gB)) (fun y hy => by
        obtain ⟨x, hx, rfl⟩ := List.mem_map.1 hy
        exact g3 x hx) (fun k b hb => ⟨.inr ⟨b, hb⟩, g2 k b hb⟩)
    refine wp_of_out hout fun u w' ⟨μ', κ', st, hu, hrel⟩ => ?_
    obtain ⟨μ3, κ3, e1, e2⟩ : ∃ μ3 κ3 : Nat → Nat, (∀ k, (σ i).next ≤ k ∧ k < n → μ3 k = μ' k ∧ κ3 k = κ' k) ∧ ∀ k, ¬ ((σ i).next ≤ k ∧ k < n) → μ3 k = μ k ∧ κ3 k = κ k :=
      ⟨fun k => if (σ i).next ≤ k ∧ k < n then μ' k else μ k, fun k => if (σ i).next ≤ k ∧ k < n then κ' k else κ k, fun k hk => ⟨if_pos hk, if_pos hk⟩, fun k hk => ⟨if_neg hk, if_neg hk⟩⟩
    have hag : ∀ k, Dp (inD B (Vf i)) (σ i).next n k → μ3 k = μ' k ∧ κ3 k = κ' k := fun k hk => by
      by_cases hb : (σ i).next ≤ k ∧ k < n
      · exact e1 k hb
      · have hk := hk.resolve_right hb
        have hl := hDn k hk
        have a1 := e2 k hb
        have a2 := st.ag k (.inl hl)
        rw [a1.1, a1.2, a2.1, a2.2, hμ1 k hk]
        exact ⟨rfl, rfl⟩
    have hwr : ∀ j, Wr (Vf i) (mf i) j → inD B (Vf i) j := fun j hj => .inr hj.2
    refine hN μ3 κ3 _ _ (inv_put R hg ht I ho hi hr hd (fun k hk => e2 k (hseen k hk)) (fun k hk => e2 k (by omega)) (fun t e => ?_) st.sz (fun b hb hh => st.fr b hb fun j j1 j2 e => ?_) (fun k hk => ?_) hT2 ⟨hrel.below, fun k b hb => ?_, fun k j x y hx hy e => ?_, fun g hgg => ?_, hrel.gsz⟩)
    · rw [h4, getTmp_put, if_pos e, hu]
      exact (w1 _ _ _ _ hag).symm
    · by_cases hj : inD B (Vf i) j
      · rcases hj with hj | hj
        · omega
        · exact hh j ⟨j1, hj⟩ (by rw [← hμ1 j (.inr hj)]; exact e)
      · have := hμ2 j hj; omega
    · have hk := (hown k).1 hk
      rw [(e1 k hk).1]
      rcases st.nw k hk.1 hk.2 with h | ⟨j, j1, j2, j3⟩
      · exact .inl h
      · by_cases hj : inD B (Vf i) j
        · have hb := hj.resolve_left (by omega)
          exact .inr ⟨j, ⟨j1, hb⟩, by rw [j3, hμ1 j hj]⟩
        · exact .inl (by rw [j3]; exact hμ2 j hj)
    · have hb' := ((hT k b).1 hb).2
      obtain ⟨d1, d2⟩ := w2 k b hb'
      obtain ⟨a1, a2⟩ := hag k d1
      exact (hrel.blk k b hb').same a1 a2 (fun u hu => d2 u hu _ _ _ _ hag) rfl
    · have hx' := ((hT k x).1 hx).2
      have hy' := ((hT j y).1 hy).2
      rw [(hag k (w2 k x hx').1).1, (hag j (w2 j y hy').1).1] at e
      exact hrel.inj k j x y hx' hy' e
    · rw [(hag g (.inl (.inl (Nat.lt_of_lt_of_le hgg gB)))).1]; exact hrel.glob g hgg

/-- A store. -/
theorem inv_store (R : Run E base ops σ rf lf Vf mf) (hg : E.P.globals.size ≤ (σ 0).next) (ht : TWF (· < (σ 0).next) (σ 0)) (I : Inv E base ops σ Vf mf μ0 κ0 w0 S μ κ a w) (ho : ops[i]? = some o) (hi : ¬ S i)
    (hr : ∀ e ∈ o.after, Region.binds .any e = true → S e.on) (hd : ∀ d, o.dst = some d → d < (σ i).size) {t : TypeId} {ao x : Operand} {ad : Addr} {sz : Nat} {h' : Heap} {b : Blk} (g1 : o.op = .store t ao x) (g2 : evalO (σ i).tmps ao = .pointer (some ad))
    (g3 : sizeT E t = some sz) (g4 : (evalO (σ i).tmps x).cells.size = sz) (g5 : storeO (σ i).heap ad (evalO (σ i).tmps x).cells.toList = some h') (g6 : getBlk (σ i).heap ad.block = some b)
    (g7 : Vf i = [(ad.block, b)]) (g8 : mf i = ad.block) (h1 : σ (i + 1) = putS (σ i) o.dst undef h' (σ i).next ad.block)
    {N : Act → World → Prop} {Q : Exit → Act → World → Prop} (hN : ∀ μ' κ' a' w', Inv E base ops σ Vf mf μ0 κ0 w0 (plus S i) μ' κ' a' w' → N a' w') : o.wp E.P a w N Q := by
  have hlt := ltO ho
  obtain ⟨HS, c, q3, q4, q5, q6⟩ := I.hs
  have hVb : getBlk (Vf i) ad.block = some b := by rw [g7, getBlk_cons, if_pos rfl]
  have hHS : getBlk HS ad.block = some b := by
    have hs := PA_seen (σ := σ) (fun j hj => I.ahead ho hr hj) (R.foot hlt hVb).2.1
    obtain ⟨c1, c2⟩ := q3 ad.block hs
    exact (q4 _ b).2 (I.foot R hg ht ho hi hr hVb c1 c2)
  obtain ⟨b', c', e1, e2, e3⟩ := storeO_get g5
  rw [g6] at e1
  cases e1
  have hst := e3 HS hHS
  have ha1 := I.opd R ho hi hr ao (by simp [g1, Op.operands])
  have ha2 := I.opd R ho hi hr x (by simp [g1, Op.operands])
  obtain ⟨w', hrun, hr', hsz, hoth⟩ := storeO_spec q6 hst
  have hexec : (execOp a.eval o).run E.P w = .ok .skip w' := by
    simp [execOp, g1, Instr.storeAt, Instr.sureAddr, ha1, ha2, g2, storeVar, run_sizeT g3, cells_ren, g4]
    rw [hrun]; rfl
  have htouch : ∀ k, touch σ Vf mf i k ↔ k = ad.block := fun k => by
    constructor
    · rintro (hk | ⟨_, d, hd⟩)
      · have a := hk.1; have b := hk.2; rw [h1, putS_next] at b; omega
      · rw [g7, getBlk_cons] at hd
        split at hd
        · rename_i e; exact e.symm
        · simp [getBlk] at hd
    · rintro rfl
      exact .inr ⟨by rw [g8]; exact Nat.le_refl _, b, hVb⟩
  have noown : ∀ k, ¬ own σ i k := fun k hk => by
    have a := hk.1; have b := hk.2; rw [h1, putS_next] at b; omega
  have hT : ∀ k d, getBlk [(ad.block, c')] k = some d ↔ touch σ Vf mf i k ∧ getBlk (σ (i + 1)).heap k = some d := fun k d => by
    rw [htouch, getBlk_cons, h1, putS_heap, e2, getBlk_set]
    split
    · rename_i e
      subst e
      rw [if_pos rfl, g6]
      simp
    · rename_i e
      simp only [getBlk]
      exact ⟨fun h => (nomatch h), fun h => absurd h.1.symm e⟩
  have hfew : ∀ k d, getBlk [(ad.block, c')] k = some d → getBlk (setBlk HS ad.block c') k = some d := fun k d hd => by
    rw [getBlk_cons] at hd
    split at hd
    · rename_i e; subst e; rw [getBlk_set, if_pos rfl, hHS]; exact hd
    · simp [getBlk] at hd
  have hinv := inv_put R hg ht I ho hi hr hd (μ' := μ) (κ' := κ) (u := undef) (w' := w') (HT := [(ad.block, c')]) (fun _ _ => ⟨rfl, rfl⟩) (fun _ _ => ⟨rfl, rfl⟩) (fun t e => by rw [h1, getTmp_put, if_pos e]; simp) hsz
    (fun b _ hh => hoth b fun e => hh ad.block ⟨by rw [g8]; exact Nat.le_refl _, _, hVb⟩ e.symm) (fun k hk => absurd hk (noown k)) hT (hr'.fewer hfew)
  unfold Oper.wp
  rw [hexec]
  exact hN _ _ _ _ hinv

/-- Any operation that may come next. -/
theorem inv_step (R : Run E base ops σ rf lf Vf mf) (hg : E.P.globals.size ≤ (σ 0).next) (ht : TWF (· < (σ 0).next) (σ 0)) (I : Inv E base ops σ Vf mf μ0 κ0 w0 S μ κ a w) (ho : ops[i]? = some o) (hi : ¬ S i)
    (hr : ∀ e ∈ o.after, Region.binds .any e = true → S e.on) {N : Act → World → Prop} {Q : Exit → Act → World → Prop} (hN : ∀ μ' κ' a' w', Inv E base ops σ Vf mf μ0 κ0 w0 (plus S i) μ' κ' a' w' → N a' w') :
    wpOp E.P ops.toArray Q i N a w := by
  unfold wpOp
  have ho' : ops.toArray[i]? = some o := by simpa using ho
  rw [ho']
  simp only [I.wanted R ho hi hr]
  have hD := R.step i o ho
  cases hD.kind with
  | skip h1 h2 h3 =>
    rw [if_neg (by simp [h1])]
    exact hN _ _ _ _ (inv_skip R hg ht I ho hi hr hD.dst h2 h3)
  | op v h n H m h1 h2 h3 h4 h5 h6 =>
    rw [if_pos h1]
    exact .inl (inv_op R hg ht I ho hi hr hD.dst h2 h4 h5 h6 hN)
  | st t a x ad sz h' b h1 h2 h3 h4 h5 h6 h7 h8 h9 h10 =>
    rw [if_pos h1]
    exact .inl (inv_store R hg ht I ho hi hr hD.dst h2 h3 h4 h5 h6 h7 h8 h9 h10 hN)

def listedS (listed : Array Bool) (i : Nat) : Prop := listed.getD i false = true

theorem Inv.congr {S S' : Nat → Prop} (h : ∀ i, S i ↔ S' i) (I : Inv E base ops σ Vf mf μ0 κ0 w0 S μ κ a w) : Inv E base ops σ Vf mf μ0 κ0 w0 S' μ κ a w := by
  have : S = S' := funext fun i => propext (h i)
  exact this ▸ I

theorem listed_set {listed : Array Bool} {i : Nat} (hi : i < listed.size) (j : Nat) : plus (listedS listed) i j ↔ listedS (listed.setIfInBounds i true) j := by
  unfold plus listedS
  by_cases e : i = j
  · subst e
    simp [hi]
  · rw [getD_set_ne false e]
    constructor
    · rintro (h | h)
      · exact h
      · exact absurd h.symm e
    · exact .inl

theorem drawn_any (R : Run E base ops σ rf lf Vf mf) (hr0 : StRel E base μ0 κ0 (σ 0) a w0) {Q : Exit → Act → World → Prop} (hQ : ∀ a' w', StOut E base (σ 0) (σ ops.length) μ0 κ0 w0 a' w' → Q .normal a' w') :
    ∀ (fuel : Nat) (listed : Array Bool) (μ κ : Nat → Nat) (a : Act) (w : World) (L : List Nat), listed.size = ops.length → Inv E base ops σ Vf mf μ0 κ0 w0 (listedS listed) μ κ a w → L.length ≤ fuel → (∀ i, i < ops.length → ¬ listedS listed i → i ∈ L) →
      wpAny E.P .any ops.toArray Q fuel listed a w := by
  have hall : ∀ (listed : Array Bool) (μ κ : Nat → Nat) (a : Act) (w : World), Inv E base ops σ Vf mf μ0 κ0 w0 (listedS listed) μ κ a w → listed.size = ops.length → Region.ready .any ops.toArray listed = [] → Q .normal a w := by
    intro listed μ κ a w I hsz hnil
    refine hQ _ _ (inv_end R hr0 I fun i => ?_)
    induction i using Nat.strongRecOn with
    | _ i ih =>
      intro hi
      refine Classical.byContradiction fun hno => ?_
      obtain ⟨o, ho⟩ := getO hi
      have : i ∈ Region.ready .any ops.toArray listed := by
        refine mem_ready.2 ⟨?_, o, by simpa using ho, fun e he hb => ih e.on (R.static.fw i o ho e he hb) (by have := R.static.fw i o ho e he hb; omega)⟩
        have hlt : i < listed.size := by omega
        unfold listedS at hno
        simp only [Array.getD_eq_getD_getElem?, Array.getElem?_eq_getElem hlt, Option.getD_some] at hno ⊢
        simpa using hno
      rw [hnil] at this
      cases this
  have hmem : ∀ (listed : Array Bool) i, listed.size = ops.length → i ∈ Region.ready .any ops.toArray listed → i < ops.length ∧ ¬ listedS listed i ∧ ∃ o, ops[i]? = some o ∧ ∀ e ∈ o.after, Region.binds .any e = true → listedS listed e.on := by
    intro listed i hsz hi
    obtain ⟨h0, o, ho, hall⟩ := mem_ready.1 hi
    have ho' : ops[i]? = some o := by simpa using ho
    refine ⟨ltO ho', fun h => ?_, o, ho', hall⟩
    unfold listedS at h
    have hlt : i < listed.size := by have := ltO ho'; omega
    simp only [Array.getD_eq_getD_getElem?, Array.getElem?_eq_getElem hlt, Option.getD_some] at h h0
    rw [h] at h0; cases h0
  intro fuel
  induction fuel with
  | zero =>
    intro listed μ κ a w L hsz I hL hc
    have hnil : Region.ready .any ops.toArray listed = [] := by
      refine List.eq_nil_iff_forall_not_mem.2 fun i hi => ?_
      obtain ⟨h1, h2, _⟩ := hmem listed i hsz hi
      have := hc i h1 h2
      have hn : L = [] := List.length_eq_zero_iff.1 (by omega)
      rw [hn] at this; cases this
    exact ⟨hnil, hall listed μ κ a w I hsz hnil⟩
  | succ fuel ih =>
    intro listed μ κ a w L hsz I hL hc
    refine ⟨hall listed μ κ a w I hsz, fun i hi => ?_⟩
    obtain ⟨h1, h2, o, ho, hr⟩ := hmem listed i hsz hi
    refine inv_step R hr0.gl hr0.wf I ho h2 hr fun μ' κ' a' w' I' => ?_
    have hlt : i < listed.size := by omega
    refine ih _ μ' κ' a' w' (L.erase i) (by simpa using hsz) (I'.congr (listed_set hlt)) ?_ fun j hj hno => ?_
    · have := List.length_erase_of_mem (hc i h1 h2)
      have : 0 < L.length := List.length_pos_of_mem (hc i h1 h2)
      omega
    · have hne : j ≠ i := fun e => hno ((listed_set hlt j).1 (.inr e))
      exact (List.mem_erase_of_ne hne).2 (hc j hj fun h => hno ((listed_set hlt j).1 (.inl h)))

theorem StRel.drawn {s : St} {n : Nat} (h : StRel E base μ κ s a w) : StRel E base μ κ s a { w with drawn := n } :=
  ⟨⟨⟨h.rel.below.os, h.rel.below.tape, h.rel.below.output, h.rel.below.size, h.rel.below.block⟩, h.rel.blk, h.rel.inj, h.rel.glob, h.rel.gsz⟩, h.sz, h.tmp, h.df, h.dw, h.wf, h.gl⟩

theorem StOut.drawn {s s' : St} {n : Nat} {a' : Act} {w' : World} (h : StOut E base s s' μ κ { w with drawn := n } a' w') : StOut E base s s' μ κ w a' w' := by
  obtain ⟨μ', κ', h1, h2⟩ := h
  exact ⟨μ', κ', ⟨h1.le, h1.ag, h1.sz, h1.fr, h1.nw⟩, h2⟩

theorem drawnK_sound (hE : EnvOk E base) {call : CallFn} {W : Bool} (hcall : CallOk E base call) {s : St} {K : St → Prop} (hok : ops.all (operOk E.P.globals.size) = true) (hst : drawStatic ops (ancL [] 0 ops) = true) (hnd : ∀ t ∈ needs ops ops, ToldE E s t) (hk : drawnK E call W ops s K) :
    ∃ s', K s' ∧ Sem1 E s s' ∧ ∀ id μ κ a w, StRel E base μ κ s a w → ∀ Q : Exit → Act → World → Prop, (∀ a' w', StOut E base s s' μ κ w a' w' → Q .normal a' w') → (Code.region id ops.toArray true).wp E.P Q a w := by
  rw [drawnK_eq] at hk
  obtain ⟨σ, rf, lf, Vf, mf, h1, h2, h3, h4, h5⟩ := drawK_run hE hcall ops 0 [] [] s hk
  simp only [Nat.zero_add] at h4 h5
  have R : Run E base ops σ rf lf Vf mf := ⟨static_of hst, fun i o ho => List.all_eq_true.1 hok o (List.mem_of_getElem? ho), h2, fun i o ho => by rw [h1]; exact h5 i o ho⟩
  subst h1
  refine ⟨_, h4, ⟨R.swf ops.length (Nat.zero_le _) (Nat.le_refl _), (R.mw_le (i := 0) ops.length (Nat.zero_le _) (Nat.le_refl _)).1, (R.mw_le (i := 0) ops.length (Nat.zero_le _) (Nat.le_refl _)).2, fun D _ _ _ hd => by
    rw [R.df ops.length (Nat.le_refl _)]
    exact hd.mono Dp_mono⟩, fun id μ κ a w hr Q hQ => ?_⟩
  refine wp_region_any hE.mixed ?_
  have hr' := hr.drawn (n := w.drawn + 1)
  have hfalse : ∀ i, ¬ listedS (Array.replicate ops.toArray.size false) i := fun i h => by
    unfold listedS at h
    simp only [Array.getD_eq_getD_getElem?, Array.getElem?_replicate] at h
    split at h <;> simp at h
  refine drawn_any R hr' (fun a' w' h => hQ a' w' h.drawn) _ _ μ κ a _ (List.range ops.length) (by simp) ((inv_start hr' hnd).congr fun i => ⟨False.elim, fun h => hfalse i h⟩) (by simp) fun i hi _ => by simpa using hi

end
end Go.Pe

namespace Go.Pe
open Go Go.RowKit

section
variable {E : Env} {base : World}

def CodeSem (E : Env) (base : World) (c : Code) (s : St) (e : Exit) (s' : St) : Prop :=
  Sem1 E s s' ∧ ∀ μ κ a w, StRel E base μ κ s a w → c.wp E.P (fun e' a' w' => e' = e ∧ StOut E base s s' μ κ w a' w') a w

theorem loopK_sound {c : Code} {call : CallFn} (ih : ∀ (s : St) (K : Exit → St → Prop), codeK E call c s K → ∃ e s', K e s' ∧ CodeSem E base c s e s') : ∀ (n : Nat) (s : St) (K : Exit → St → Prop), loopK (codeK E call c) n s K →
    ∃ e s', K e s' ∧ Sem1 E s s' ∧ ∀ μ κ a w, StRel E base μ κ s a w → Code.rounds E.P c (fun e' a' w' => e' = e ∧ StOut E base s s' μ κ w a' w') n a w := by
  intro n
  induction n with
  | zero => intro s K hk; exact hk.elim
  | succ n ihn =>
    intro s K hk
    unfold loopK at hk
    obtain ⟨e1, s1, h1, h2, h3⟩ := ih s _ hk
    cases e1 with
    | normal =>
      obtain ⟨e, s', k1, k2, k3⟩ := ihn s1 K h1
      refine ⟨e, s', k1, h2.trans k2, fun μ κ a w hr => ?_⟩
      rw [rounds_succ]
      refine wp_mono (h3 μ κ a w hr) fun e' a' w' ⟨he, μ1, κ1, q1, q2⟩ => ?_
      subst he
      refine (?_ : Code.rounds E.P c _ n a' w')
      have key : ∀ n a w, Code.rounds E.P c (fun e' a' w' => e' = e ∧ StOut E base s1 s' μ1 κ1 w a' w') n a w → True := fun _ _ _ _ => trivial
      have := k3 μ1 κ1 a' w' q2
      have mono : ∀ (n : Nat) (a : Act) (w : World) (Q Q' : Exit → Act → World → Prop), (∀ e a w, Q e a w → Q' e a w) → Code.rounds E.P c Q n a w → Code.rounds E.P c Q' n a w := by
        intro n
        induction n with
        | zero => intro a w Q Q' _ h; exact h
        | succ n ih =>
          intro a w Q Q' hq h
          rw [rounds_succ] at h ⊢
          refine wp_mono h fun e a w he => ?_
          cases e with
          | normal => exact ih _ _ _ _ hq he
          | _ => exact hq _ _ _ he
      exact mono _ _ _ _ _ (fun e' a'' w'' ⟨he, ho⟩ => ⟨he, StOut.trans q1 k2.mw ho⟩) this
    | _ =>
      refine ⟨_, s1, h1, h2, fun μ κ a w hr => ?_⟩
      rw [rounds_succ]
      refine wp_mono (h3 μ κ a w hr) fun e' a' w' ⟨he, ho⟩ => ?_
      subst he
      exact ⟨rfl, ho⟩

/-- What is asked of the summaries of loops. -/
def LoopsOk (E : Env) (base : World) : Prop :=
  ∀ f id T c s K, E.loopP f id = some T → T c s K → ∃ e s', K e s' ∧ CodeSem E base (.loop c) s e s'

theorem codeK_sound (hE : EnvOk E base) (hL : LoopsOk E base) {call : CallFn} (hcall : CallOk E base call) : ∀ (c : Code) (s : St) (K : Exit → St → Prop), codeOk E.P.globals.size c = true → codeK E call c s K → ∃ e s', K e s' ∧ CodeSem E base c s e s' := by
  intro c
  induction c with
  | skip => intro s K _ hk; exact ⟨.normal, s, hk, Sem1.refl s, fun μ κ a w hr => wp_skip ⟨rfl, StOut.refl hr⟩⟩
  | region id ops draw =>
    intro s K hok hk
    cases draw with
    | false =>
      obtain ⟨hto, hk⟩ := chk_true (b := toldAll E s.tmps (needs ops.toList ops.toList)) (p := opsK E call ops.toList ops.toList s fun s => K .normal s) hk
      obtain ⟨s', h1, h2, h3⟩ := opsK_sound hE hcall ops.toList ops.toList s (by simp only [codeOk, Bool.and_eq_true] at hok; exact hok.1) (toldAll_spec hto) hk
      refine ⟨.normal, s', h1, h2, fun μ κ a w hr => wp_region_list ?_⟩
      have := h3 μ κ a w hr (fun e' a' w' => e' = .normal ∧ StOut E base s s' μ κ w a' w') fun a' w' h => ⟨rfl, h⟩
      simpa using this
    | true =>
      simp only [codeOk, Bool.and_eq_true] at hok
      obtain ⟨hto, hk⟩ := chk_true (b := toldAll E s.tmps (needs ops.toList ops.toList)) (p := drawnK E call (E.wild s.fn id) ops.toList s fun s => K .normal s) hk
      obtain ⟨s', h1, h2, h3⟩ := drawnK_sound hE hcall hok.1 hok.2 (toldAll_spec hto) hk
      refine ⟨.normal, s', h1, h2, fun μ κ a w hr => ?_⟩
      have := h3 id μ κ a w hr (fun e' a' w' => e' = .normal ∧ StOut E base s s' μ κ w a' w') fun a' w' h => ⟨rfl, h⟩
      simpa using this
  | seq x y ihx ihy =>
    intro s K hok hk
    simp only [codeOk, Bool.and_eq_true] at hok
    rw [codeK_seq] at hk
    obtain ⟨e1, s1, h1, h2, h3⟩ := ihx s _ hok.1 hk
    cases e1 with
    | normal =>
      obtain ⟨e, s', k1, k2, k3⟩ := ihy s1 K hok.2 h1
      refine ⟨e, s', k1, h2.trans k2, fun μ κ a w hr => wp_seq (wp_mono (h3 μ κ a w hr) fun e' a' w' ⟨he, μ1, κ1, q1, q2⟩ => ?_)⟩
      subst he
      exact wp_mono (k3 μ1 κ1 a' w' q2) fun e' a'' w'' ⟨he, ho⟩ => ⟨he, StOut.trans q1 k2.mw ho⟩
    | _ =>
      refine ⟨_, s1, h1, h2, fun μ κ a w hr => wp_seq (wp_mono (h3 μ κ a w hr) fun e' a' w' ⟨he, ho⟩ => ?_)⟩
      subst he
      exact ⟨rfl, ho⟩
  | cond x y z ihy ihz =>
    intro s K hok hk
    simp only [codeOk, Bool.and_eq_true] at hok
    rw [codeK_cond] at hk
    obtain ⟨hto, hk⟩ := chk_true hk
    split at hk
    · rename_i t ht
      have hc : ∀ μ κ a w, StRel E base μ κ s a w → a.eval x = .bool t := fun μ κ a w hr => by rw [hr.eval hok.1 fun t e => toldAll_spec hto t (by rw [e]; simp [tmpsOf]), ht]; rfl
      cases t with
      | true =>
        obtain ⟨e, s', k1, k2, k3⟩ := ihy s K hok.2.1 hk
        exact ⟨e, s', k1, k2, fun μ κ a w hr => wp_cond_true (hc μ κ a w hr) (k3 μ κ a w hr)⟩
      | false =>
        obtain ⟨e, s', k1, k2, k3⟩ := ihz s K hok.2.2 hk
        exact ⟨e, s', k1, k2, fun μ κ a w hr => wp_cond_false (hc μ κ a w hr) (k3 μ κ a w hr)⟩
    · exact hk.elim
  | block id c ih =>
    intro s K hok hk
    rw [codeK_block] at hk
    obtain ⟨e1, s1, h1, h2, h3⟩ := ih s _ hok hk
    cases e1 with
    | exit i =>
      simp only at h1
      split at h1
      · rename_i hb
        have hb := beq_true hb
        subst hb
        refine ⟨.normal, s1, h1, h2, fun μ κ a w hr => wp_block (wp_mono (h3 μ κ a w hr) fun e' a' w' ⟨he, ho⟩ => ?_)⟩
        subst he
        simp only [Exit.inBlock, if_true]
        exact ⟨trivial, ho⟩
      · rename_i hb
        have hb := beq_false hb
        refine ⟨.exit i, s1, h1, h2, fun μ κ a w hr => wp_block (wp_mono (h3 μ κ a w hr) fun e' a' w' ⟨he, ho⟩ => ?_)⟩
        subst he
        simp only [Exit.inBlock, if_neg hb]
        exact ⟨trivial, ho⟩
    | _ =>
      refine ⟨_, s1, h1, h2, fun μ κ a w hr => wp_block (wp_mono (h3 μ κ a w hr) fun e' a' w' ⟨he, ho⟩ => ?_)⟩
      subst he
      exact ⟨rfl, ho⟩
  | loop c ih =>
    intro s K hok hk
    rw [codeK_loop] at hk
    split at hk
    · rename_i T hT
      exact hL _ _ T c s K hT hk
    · obtain ⟨e, s', h1, h2, h3⟩ := loopK_sound (base := base) (fun s K hk => ih s K hok hk) _ s K hk
      exact ⟨e, s', h1, h2, fun μ κ a w hr => wp_loop_rounds _ (h3 μ κ a w hr)⟩
  | exit id => intro s K _ hk; exact ⟨.exit id, s, hk, Sem1.refl s, fun μ κ a w hr => wp_exit ⟨rfl, StOut.refl hr⟩⟩
  | ret => intro s K _ hk; exact ⟨.ret, s, hk, Sem1.refl s, fun μ κ a w hr => wp_ret ⟨rfl, StOut.refl hr⟩⟩
  | _ => intro s K _ hk; exact hk.elim

/-! Results -/

def resM (a : Act) (r : ResultVar) : Sem Value := match r with
  | .tmp t => pure (a.tmps.getD t undef)
  | .cell ad t => do loadVar t (← asAddr (a.tmps.getD ad undef))

theorem resO_spec {s : St} {μ κ : Nat → Nat} {a : Act} {w : World} (hr : StRel E base μ κ s a w) {r : ResultVar} {v : Value} (hv : resO E s r = some v) : (resM a r).run E.P w = .ok (renV μ κ v) w := by
  cases r with
  | tmp t =>
    simp only [resO] at hv
    split at hv
    · rename_i hto
      simp only [Option.some.injEq] at hv
      subst hv
      simp only [resM, hr.tmp t (toldAll_spec hto t (List.mem_singleton.2 rfl)), Sem.run_pure]
    · cases hv
  | cell ad t =>
    simp only [resO] at hv
    split at hv
    case h_2 => cases hv
    rename_i hto
    split at hv
    · rename_i x hx
      simp only [resM, hr.tmp ad (toldAll_spec hto ad (List.mem_singleton.2 rfl)), hx, renV_pointer, Option.map_some, asAddr, Sem.run_bind, Sem.run_pure, Result.andThen_ok]
      exact loadO_spec hr.rel hv
    · cases hv

theorem allRes_spec {s : St} {μ κ : Nat → Nat} {a : Act} {w : World} (hr : StRel E base μ κ s a w) : ∀ (l : List ResultVar) (vs : List Value), allRes E s l = some vs →
    (l.mapM (resM a)).run E.P w = .ok (vs.map (renV μ κ)) w := by
  intro l
  induction l with
  | nil => intro vs h; simp only [allRes, Option.some.injEq] at h; subst h; simp
  | cons r l ih =>
    intro vs h
    unfold allRes at h
    split at h
    · rename_i v hv
      split at h
      · rename_i us hus
        cases h
        have h2 := ih us hus
        rw [List.mapM_cons]
        simp only [Sem.run_bind, resO_spec hr hv, Result.andThen_ok, h2, Sem.run_pure, List.map_cons]
      · cases h
    · cases h

theorem results_spec {s : St} {μ κ : Nat → Nat} {a : Act} {w : World} (hr : StRel E base μ κ s a w) {fn : Func} {v : Value} (h : resultsO E s fn.results.toList = some v) :
    (results fn a.tmps).run E.P w = .ok (renV μ κ v) w := by
  have key : ∀ vs, allRes E s fn.results.toList = some vs → (results fn a.tmps).run E.P w = .ok (if h : (vs.map (renV μ κ)).toArray.size = 1 then (vs.map (renV μ κ)).toArray[0] else .tuple (vs.map (renV μ κ)).toArray) w := by
    intro vs hv
    have := allRes_spec hr _ vs hv
    have e : results fn a.tmps = (fn.results.mapM (resM a) >>= fun vs => pure (if h : vs.size = 1 then vs[0] else .tuple vs)) := by
      unfold results
      congr 2
    rw [e, Array.mapM_eq_mapM_toList, map_eq_pure_bind]
    simp only [Sem.run_bind, this, Result.andThen_ok, Sem.run_pure]
  unfold resultsO at h
  cases hx : allRes E s fn.results.toList with
  | none => rw [hx] at h; cases h
  | some vs =>
    rw [hx] at h
    rw [key _ hx]
    match vs, h with
    | [], h => simp only [Option.some.injEq] at h; subst h; simp
    | [x], h => simp only [Option.some.injEq] at h; subst h; simp
    | x :: y :: l, h => simp only [Option.some.injEq] at h; subst h; simp

theorem allRes_wf {D : Nat → Prop} {s : St} (ht : TWF D s) : ∀ (l : List ResultVar) (vs : List Value), allRes E s l = some vs → ∀ v ∈ vs, WF D v := by
  intro l
  induction l with
  | nil => intro vs h; simp only [allRes, Option.some.injEq] at h; subst h; intro v hv; cases hv
  | cons r l ih =>
    intro vs h
    unfold allRes at h
    split at h
    · rename_i v hv
      split at h
      · rename_i us hus
        cases h
        intro u hu
        rcases List.mem_cons.1 hu with rfl | hu
        · unfold resO at hv
          cases r with
          | tmp t =>
            simp only at hv
            split at hv
            · simp only [Option.some.injEq] at hv; subst hv; exact ht.2 t
            · cases hv
          | cell ad t =>
            simp only at hv
            split at hv
            · split at hv
              · exact loadO_wf ht.1 hv
              · cases hv
            · cases hv
        · exact ih us hus u hu
      · cases h
    · cases h

theorem results_wf {D : Nat → Prop} {s : St} (ht : TWF D s) {l : List ResultVar} {v : Value} (h : resultsO E s l = some v) : WF D v := by
  unfold resultsO at h
  split at h
  · rename_i x hx
    cases h
    exact allRes_wf ht l _ hx _ (by simp)
  · rename_i vs _ hx
    cases h
    exact WF.tuple.2 fun u hu => allRes_wf ht l vs hx u (by simpa using hu)
  · cases h

/-! Functions -/

theorem getTmp_numbered (args : List Value) : ∀ (k t : Nat), getTmp (numbered k args) t = if k ≤ t then (args[t - k]?).getD undef else undef := by
  induction args with
  | nil => intro k t; simp [numbered, getTmp_nil]
  | cons v l ih =>
    intro k t
    simp only [numbered, getTmp_cons]
    split
    · rename_i hb
      have := beq_true hb
      subst this
      simp
    · rename_i hb
      have := beq_false hb
      rw [ih]
      by_cases h : k ≤ t
      · have e : t - k = (t - (k + 1)) + 1 := by omega
        rw [if_pos (by omega), if_pos h, e]
        simp
      · rw [if_neg (by omega), if_neg h]

theorem numbered_wf {D : Nat → Prop} {args : List Value} (h : ∀ x ∈ args, WF D x) (t : Nat) : WF D (getTmp (numbered 0 args) t) := by
  rw [getTmp_numbered]
  simp only [Nat.zero_le, if_true, Nat.sub_zero]
  cases hx : args[t]? with
  | none => exact WF.undef
  | some v => exact h v (List.mem_of_getElem? hx)

theorem start_rel {μ κ : Nat → Nat} {h : Heap} {n : Nat} {w : World} {args : List Value} {m mw f : Nat} (hr : Rel E.P base μ κ h w) (hh : HWF (· < n) h) (ha : ∀ x ∈ args, WF (· < n) x) (hg : E.P.globals.size ≤ n) (hm : args.length ≤ m) :
    StRel E base μ κ { tmps := numbered 0 args, heap := h, next := n, mw := mw, size := m, fn := f } { tmps := (args.map (renV μ κ)).toArray ++ Array.replicate (m - (args.map (renV μ κ)).toArray.size) undef, defers := [] } w := by
  refine ⟨hr, by simp; omega, fun t _ => ?_, rfl, fun d hd => (by cases hd), ⟨hh, numbered_wf ha⟩, hg⟩
  rw [getTmp_numbered]
  simp only [Nat.zero_le, if_true, Nat.sub_zero, Array.getD_eq_getD_getElem?, Array.getElem?_append, List.size_toArray, List.length_map]
  split
  · rename_i hlt
    simp [List.getElem?_eq_getElem hlt]
  · rename_i hge
    rw [List.getElem?_eq_none (by omega)]
    simp only [Option.getD_none, renV_undef]
    rw [Array.getElem?_replicate]
    split <;> rfl

theorem EnvOk.bodyOk (hE : EnvOk E base) {f : FuncId} {fn : Func} {c : Code} (hf : E.P.funcs[f]? = some fn) (hb : fn.body = some c) (h : bodyOk E f c = true) : codeOk E.P.globals.size c = true := by
  unfold Go.Pe.bodyOk at h
  split at h
  · rename_i hs; exact hE.sure f fn c hs hf hb
  · exact h

/-- What a call that was put off comes to. -/
theorem deferred_sound (hE : EnvOk E base) (hL : LoopsOk E base) {call : CallFn} (hcall : CallOk E base call) {f : FuncId} {fn : Func} (hf : E.P.funcs[f]? = some fn) {args : List Value} {h : Heap} {n : Nat} {K : St → Prop} (hk : deferredK E call f fn args h n K) :
    ∃ t, K t ∧ fn.body.isSome = true ∧ n ≤ t.next ∧ (∀ D : Nat → Prop, (∀ k, D k → k < n) → (∀ g, g < E.P.globals.size → D g) → (∀ x ∈ args, WF D x) → HWF D h → HWF (Dp D n t.next) t.heap) ∧
      ∀ μ κ w, Rel E.P base μ κ h w → HWF (· < n) h → (∀ x ∈ args, WF (· < n) x) → E.P.globals.size ≤ n → ∀ u : FrameMode, CallsD E.P f (args.map (renV μ κ)).toArray u w fun e u' w' => u' = u ∧ ∃ x, e = .returned x ∧ ∃ μ' κ', Step t.mw n t.next μ κ w μ' κ' w' ∧ Rel E.P base μ' κ' t.heap w' := by
  unfold deferredK at hk
  split at hk
  · exact hk.elim
  · rename_i c hb
    obtain ⟨hck, hk⟩ := chk_true hk
    simp only [Bool.and_eq_true] at hck
    have hm := ble_true hck.1
    obtain ⟨e, s', h1, h2, h3⟩ := codeK_sound hE hL hcall c _ _ (hE.bodyOk hf hb hck.2) hk
    have fin : (e = .normal ∨ e = .ret) → s'.df = [] → (∃ v, resultsO E s' fn.results.toList = some v) → K s' → ∃ t, K t ∧ fn.body.isSome = true ∧ n ≤ t.next ∧ (∀ D : Nat → Prop, (∀ k, D k → k < n) → (∀ g, g < E.P.globals.size → D g) → (∀ x ∈ args, WF D x) → HWF D h → HWF (Dp D n t.next) t.heap) ∧
      ∀ μ κ w, Rel E.P base μ κ h w → HWF (· < n) h → (∀ x ∈ args, WF (· < n) x) → E.P.globals.size ≤ n → ∀ u : FrameMode, CallsD E.P f (args.map (renV μ κ)).toArray u w fun e u' w' => u' = u ∧ ∃ x, e = .returned x ∧ ∃ μ' κ', Step t.mw n t.next μ κ w μ' κ' w' ∧ Rel E.P base μ' κ' t.heap w' := by
      intro he hdf ⟨v, hv⟩ hK
      refine ⟨s', hK, by simp [hb], h2.wf.1, fun D hD hG hx hh => (h2.wf.2 D hD hG ⟨hh, numbered_wf hx⟩).1, fun μ κ w hr hh hx hg u => ?_⟩
      refine callsD_of_wp hf hb (wp_mono (h3 μ κ _ w (start_rel hr hh hx hg hm)) fun e' a' w' ⟨hee, μ', κ', q1, q2⟩ => ?_)
      have hbody : a'.defers = [] ∧ ∃ u, (results fn a'.tmps).run E.P w' = .ok u w' ∧ (∃ x, Ending.returned u = .returned x ∧ ∃ μ' κ', Step s'.mw n s'.next μ κ w μ' κ' w' ∧ Rel E.P base μ' κ' s'.heap w') :=
        ⟨by rw [q2.df, hdf]; rfl, _, results_spec q2 hv, _, rfl, μ', κ', q1, q2.rel⟩
      subst hee
      rcases he with rfl | rfl <;> exact hbody
    cases e with
    | normal =>
      simp only at h1
      split at h1
      · rename_i hdf
        split at h1
        · rename_i v hv; exact fin (.inl rfl) hdf ⟨v, hv⟩ h1
        · exact h1.elim
      · exact h1.elim
    | ret =>
      simp only at h1
      split at h1
      · rename_i hdf
        split at h1
        · rename_i v hv; exact fin (.inr rfl) hdf ⟨v, hv⟩ h1
        · exact h1.elim
      · exact h1.elim
    | _ => exact h1.elim

/-- All that were put off. -/
theorem leavesK_sound (hE : EnvOk E base) (hL : LoopsOk E base) {call : CallFn} (hcall : CallOk E base call) {fn : Func} : ∀ (ds : List (FuncId × List Value)) (s : St) (K : St → Prop), s.df = [] → leavesK E call ds s K →
    ∃ s', K s' ∧ s'.df = [] ∧ s'.mw ≤ s.mw ∧ (∀ D : Nat → Prop, (∀ k, D k → k < s.next) → (∀ g, g < E.P.globals.size → D g) → TWF D s → DWF D ds → TWF (Dp D s.next s'.next) s') ∧ s.next ≤ s'.next ∧
      ∀ μ κ a w, StRel E base μ κ s a w → DWF (· < s.next) ds → ∀ R : Ending → World → Prop, (∀ w', StOut E base s s' μ κ w a w' → ∃ v, (results fn a.tmps).run E.P w' = .ok v w' ∧ R (.returned v) w') →
        Leaves E.P fn a.tmps R (ds.map (defOf μ κ)) .returning w := by
  intro ds
  induction ds with
  | nil =>
    intro s K hdf hk
    refine ⟨s, hk, hdf, Nat.le_refl _, fun D _ _ hT _ => ⟨hT.1.mono Dp_mono, fun t => (hT.2 t).mono Dp_mono⟩, Nat.le_refl _, fun μ κ a w hr _ R hR => ?_⟩
    exact hR w (StOut.refl hr)
  | cons d ds ih =>
    intro s K hdf hk
    rw [leavesK_cons] at hk
    split at hk
    · exact hk.elim
    · rename_i fd hfd
      obtain ⟨t, hk, hbs, hn, hwf, hsem⟩ := deferred_sound hE hL hcall hfd hk
      obtain ⟨s', h1, h2, h3, h4, h5, h6⟩ := ih _ K rfl hk
      refine ⟨s', h1, h2, Nat.le_trans h3 (Nat.min_le_left _ _), fun D hD hG hT hd => ?_, Nat.le_trans hn h5, fun μ κ a w hr hd R hR => ?_⟩
      · have hh := hwf D hD hG (fun x hx => hd d (List.mem_cons_self ..) x hx) hT.1
        have := h4 (Dp D s.next t.next) (fun j hj => hj.elim (fun hj => Nat.lt_of_lt_of_le (hD j hj) hn) (fun hj => hj.2)) (fun g hg => .inl (hG g hg)) ⟨hh, fun t => (hT.2 t).mono Dp_mono⟩ (fun d hm v hv => (hd d (List.mem_cons_of_mem _ hm) v hv).mono Dp_mono)
        have hm : ∀ j, Dp (Dp D s.next t.next) t.next s'.next j → Dp D s.next s'.next j := fun j hj => by
          have h5 : t.next ≤ s'.next := h5
          rcases hj with (hj | hj) | hj
          · exact .inl hj
          · exact .inr ⟨hj.1, by omega⟩
          · exact .inr ⟨by omega, hj.2⟩
        exact ⟨this.1.mono hm, fun t => (this.2 t).mono hm⟩
      · have hc := hsem μ κ w hr.rel hr.wf.1 (fun x hx => hd d (List.mem_cons_self ..) x hx) hr.gl .returning
        refine leaves_cons (by simp) (by
          show (callFunc d.1 (#[] ++ _)).run E.P w = _
          rw [Array.empty_append]
          exact hE.enter d.1 fd hfd hbs _ w) (hc.mono fun e u' w' ⟨hu, x, he, μ', κ', st, hrel⟩ => ?_)
        subst he hu
        show Leaves E.P fn a.tmps R (ds.map (defOf μ κ)) (settle .returning) w'
        have hds : DWF (· < s.next) ds := fun d hm => hd d (List.mem_cons_of_mem _ hm)
        rw [← defs_same hds fun k hk => st.ag k (.inl hk)]
        have hx := hwf (· < s.next) (fun _ h => h) (fun g hg => Nat.lt_of_lt_of_le hg hr.gl) (fun x hx => hd d (List.mem_cons_self ..) x hx) hr.wf.1
        have hm : ∀ k, Dp (· < s.next) s.next t.next k → k < t.next := fun k hk => by
          rcases hk with hk | hk
          · exact Nat.lt_of_lt_of_le hk hn
          · exact hk.2
        refine h6 μ' κ' a w' ⟨hrel, hr.sz, fun i hto => ?_, ?_, fun d hd => (by cases hd), ⟨hx.mono hm, fun i => (hr.wf.2 i).mono fun k hk => Nat.lt_of_lt_of_le hk hn⟩, Nat.le_trans hr.gl hn⟩ (hds.mono fun k hk => Nat.lt_of_lt_of_le hk hn) R fun w'' ho => hR w'' ?_
        · rw [hr.tmp i hto]
          exact (hr.wf.2 i _ _ _ _ fun k hk => st.ag k (.inl hk)).symm
        · rw [hr.df, hdf]; rfl
        · exact StOut.trans (s1 := { tmps := s.tmps, heap := t.heap, next := t.next, mw := min s.mw t.mw, size := s.size, fn := s.fn }) (st.mono (Nat.min_le_right _ _)) h3 ho

theorem body_sound (hE : EnvOk E base) (hL : LoopsOk E base) {call : CallFn} (hcall : CallOk E base call) {f : FuncId} {fn : Func} (hf : E.P.funcs[f]? = some fn) {args : List Value} {h : Heap} {n : Nat} {K : Value → St → Prop} (hk : bodyK E call f fn args h n K) :
    ∃ v s, K v s ∧ FuncSem E base f args h n v s.heap s.next s.mw := by
  unfold bodyK at hk
  split at hk
  · exact hk.elim
  · rename_i c hb
    obtain ⟨hck, hk⟩ := chk_true hk
    simp only [Bool.and_eq_true] at hck
    have hm := ble_true hck.1
    obtain ⟨e, s1, h1, h2, h3⟩ := codeK_sound hE hL hcall c _ _ (hE.bodyOk hf hb hck.2) hk
    have fin : (e = .normal ∨ e = .ret) → leavesK E call s1.df { tmps := s1.tmps, heap := s1.heap, next := s1.next, mw := s1.mw, size := s1.size, fn := s1.fn } (fun s => (match resultsO E s fn.results.toList with | some v => K v s | none => False)) →
        ∃ v s, K v s ∧ FuncSem E base f args h n v s.heap s.next s.mw := by
      intro he hk
      obtain ⟨s', k1, k2, k3, k4, k5, k6⟩ := leavesK_sound (fn := fn) hE hL hcall s1.df _ _ rfl hk
      split at k1
      · rename_i v hv
        refine ⟨v, s', k1, ⟨Nat.le_trans h2.wf.1 k5, fun D hD hG hx hh => ?_⟩, fun μ κ w hr hh hx hg => ?_⟩
        · have t1 := h2.wf.2 D hD hG ⟨hh, numbered_wf hx⟩
          have t2 := h2.dwf D hD hG ⟨hh, numbered_wf hx⟩ (fun d hd => by cases hd)
          have l1 : n ≤ s1.next := h2.wf.1
          have l2 : s1.next ≤ s'.next := k5
          have t3 := k4 (Dp D n s1.next) (fun j hj => hj.elim (fun hj => Nat.lt_of_lt_of_le (hD j hj) l1) (fun hj => hj.2)) (fun g hg => .inl (hG g hg)) t1 t2
          have hmm : ∀ j, Dp (Dp D n s1.next) s1.next s'.next j → Dp D n s'.next j := fun j hj => by
            rcases hj with (hj | hj) | hj
            · exact .inl hj
            · exact .inr ⟨hj.1, by omega⟩
            · exact .inr ⟨by omega, hj.2⟩
          exact ⟨(results_wf t3 hv).mono hmm, t3.1.mono hmm⟩
        · rw [hE.enter f fn hf (by simp [hb])]
          refine ⟨rfl, calls_of_wp_defers hf hb (wp_mono (h3 μ κ _ w (start_rel hr hh hx hg hm)) fun e' a' w' ⟨hee, μ', κ', q1, q2⟩ => ?_)⟩
          have hbody : Leaves E.P fn a'.tmps (fun e w'' => ∃ u, e = .returned u ∧ Out E base s'.heap v s'.mw n s'.next μ κ w u w'') a'.defers .returning w' := by
            rw [q2.df]
            have q3 : StRel E base μ' κ' { tmps := s1.tmps, heap := s1.heap, next := s1.next, mw := s1.mw, size := s1.size, fn := s1.fn } { a' with defers := [] } w' := ⟨q2.rel, q2.sz, q2.tmp, rfl, fun d hd => (by cases hd), q2.wf, q2.gl⟩
            refine k6 μ' κ' { a' with defers := [] } w' q3 q2.dw _ fun w'' ⟨μ2, κ2, r1, r2⟩ => ?_
            exact ⟨_, results_spec r2 hv, _, rfl, μ2, κ2, (q1.mono k3).trans r1, rfl, r2.rel⟩
          subst hee
          rcases he with rfl | rfl <;> exact hbody
      · exact k1.elim
    cases e with
    | normal => exact fin (.inl rfl) (by simp only [restK_eq] at h1; exact h1)
    | ret => exact fin (.inr rfl) (by simp only [restK_eq] at h1; exact h1)
    | _ => exact h1.elim

theorem FuncSem.keep {f : FuncId} {args : List Value} {h h' : Heap} {n n' mw : Nat} {v : Value} (hs : FuncSem E base f args h n v h' n' mw) : FuncSem E base f args h n v (keepBelow h' n) n' mw := by
  have hsub : ∀ k b, getBlk (keepBelow h' n) k = some b → getBlk h' k = some b := fun k b hb => by
    rw [getBlk_keep] at hb
    split at hb
    · exact hb
    · cases hb
  obtain ⟨⟨s0, s1⟩, s2⟩ := hs
  refine ⟨⟨s0, fun D hD hG hx hh => ⟨(s1 D hD hG hx hh).1, (s1 D hD hG hx hh).2.sub hsub⟩⟩, fun μ κ w hr hh hx hg => ?_⟩
  have hout := s2 μ κ w hr hh hx hg
  have key : ∀ u w', Out E base h' v mw n n' μ κ w u w' → Out E base (keepBelow h' n) v mw n n' μ κ w u w' := fun u w' ⟨μ', κ', a, b, c⟩ => ⟨μ', κ', a, b, c.fewer hsub⟩
  have key2 : ∀ u w', Out E base h' u mw n n' μ κ w Go.undef w' → Out E base (keepBelow h' n) u mw n n' μ κ w Go.undef w' := fun u w' ⟨μ', κ', a, b, c⟩ => ⟨μ', κ', a, b, c.fewer hsub⟩
  generalize (callFunc f (args.map (renV μ κ)).toArray).run E.P w = r at *
  cases r with
  | halt x w' => exact hout.elim
  | ok nx w' =>
    cases nx with
    | value u => exact key _ _ hout
    | skip =>
      obtain ⟨μ', κ', a, b, c⟩ := hout
      exact ⟨μ', κ', a, b, c.fewer hsub⟩
    | enter g as =>
      obtain ⟨rfl, hc⟩ := hout
      exact ⟨rfl, hc.mono fun e w'' ⟨u, he, hu⟩ => ⟨u, he, key _ _ hu⟩⟩
    | _ => exact hout.elim

/-- A function that the model runs in place, and that touches nothing. -/
theorem FuncSem.ofValue {f : FuncId} {args : List Value} {v : Value} (hv : ∀ μ κ w, (callFunc f (args.map (renV μ κ)).toArray).run E.P w = .ok (.value (renV μ κ v)) w) (hw : ∀ D : Nat → Prop, (∀ x ∈ args, WF D x) → WF D v) (h : Heap) (n : Nat) :
    FuncSem E base f args h n v h n big := by
  refine ⟨⟨Nat.le_refl _, fun D _ _ hx hh => ⟨(hw D hx).mono Dp_mono, hh.mono Dp_mono⟩⟩, fun μ κ w hr _ _ _ => ?_⟩
  rw [hv μ κ w]
  exact Out.same hr

theorem funcK_sound (hE : EnvOk E base) (hL : LoopsOk E base) : ∀ d, CallOk E base (funcK E d) := by
  intro d
  induction d with
  | zero => intro f args h n K hk; exact hk.elim
  | succ d ih =>
    intro f args h n K hk
    unfold funcK at hk
    split at hk
    · exact hk.elim
    · rename_i fn hf
      obtain ⟨v, s, h1, h2⟩ := body_sound hE hL ih hf hk
      rw [leaveK_eq] at h1
      split at h1
      · split at h1
        · exact ⟨_, _, _, _, h1, h2.keep⟩
        · exact ⟨_, _, _, _, h1, h2⟩
      · exact ⟨_, _, _, _, h1, h2⟩

end
end Go.Pe
