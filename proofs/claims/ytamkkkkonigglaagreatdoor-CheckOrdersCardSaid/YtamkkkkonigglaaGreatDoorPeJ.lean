/-
  The evaluator's soundness, eighth part: what a state tells; one operation carried out; regions in their order.
-/
import Derived.Test.YtamkkkkonigglaaGreatDoorPeI
namespace Go.Pe
open Go Go.RowKit

def TWF (D : Nat → Prop) (s : St) : Prop := HWF D s.heap ∧ ∀ t, WF D (getTmp s.tmps t)

/-- Calls that are put off. -/
noncomputable def defOf (μ κ : Nat → Nat) (d : FuncId × List Value) : Deferred := { target := .fn (.func d.1) (d.2.map (renV μ κ)).toArray, args := #[] }
def DWF (D : Nat → Prop) (l : List (FuncId × List Value)) : Prop := ∀ d ∈ l, ∀ v ∈ d.2, WF D v
theorem DWF.mono {D D' : Nat → Prop} {l : List (FuncId × List Value)} (h : DWF D l) (hd : ∀ k, D k → D' k) : DWF D' l := fun d hm v hv => (h d hm v hv).mono hd
theorem defs_same {D : Nat → Prop} {l : List (FuncId × List Value)} {μ κ μ' κ' : Nat → Nat} (h : DWF D l) (hag : ∀ k, D k → μ' k = μ k ∧ κ' k = κ k) : l.map (defOf μ' κ') = l.map (defOf μ κ) :=
  List.map_congr_left fun d hd => by
    unfold defOf
    rw [List.map_congr_left fun v hv => h d hd v hv μ κ μ' κ' hag]

theorem mem_tmpsOf {l : List Operand} {t : Nat} (h : Operand.tmp t ∈ l) : t ∈ tmpsOf l := by
  induction l with
  | nil => cases h
  | cons x l ih =>
    rcases List.mem_cons.1 h with h1 | h1
    · subst h1; simp [tmpsOf]
    · have := ih h1
      cases x <;> simp [tmpsOf, this]

/-- A slot is told: of all slots, where nothing is weak. -/
def ToldE (E : Env) (s : St) (t : Nat) : Prop := E.weak = true → told s.tmps t = true
theorem toldAll_spec {E : Env} {s : St} {l : List Nat} (h : toldAll E s.tmps l = true) : ∀ t ∈ l, ToldE E s t := fun t ht hw => by
  unfold toldAll at h
  rw [hw] at h
  exact List.all_eq_true.1 h t ht

structure StRel (E : Env) (base : World) (μ κ : Nat → Nat) (s : St) (a : Act) (w : World) : Prop where
  rel : Rel E.P base μ κ s.heap w
  sz : a.tmps.size = s.size
  tmp : ∀ t, ToldE E s t → a.tmps.getD t undef = renV μ κ (getTmp s.tmps t)
  df : a.defers = s.df.map (defOf μ κ)
  dw : DWF (· < s.next) s.df
  wf : TWF (· < s.next) s
  gl : E.P.globals.size ≤ s.next

def SWf (E : Env) (s s' : St) : Prop :=
  s.next ≤ s'.next ∧ ∀ D : Nat → Prop, (∀ k, D k → k < s.next) → (∀ g, g < E.P.globals.size → D g) → TWF D s → TWF (Dp D s.next s'.next) s'

theorem SWf.refl (E : Env) (s : St) : SWf E s s := ⟨Nat.le_refl _, fun _ _ _ h => ⟨h.1.mono Dp_mono, fun t => (h.2 t).mono Dp_mono⟩⟩

theorem SWf.trans {E : Env} {s s1 s2 : St} (h : SWf E s s1) (k : SWf E s1 s2) : SWf E s s2 := by
  refine ⟨Nat.le_trans h.1 k.1, fun D hD hG hT => ?_⟩
  have l1 := h.1
  have l2 := k.1
  have h1 := h.2 D hD hG hT
  have h2 := k.2 (Dp D s.next s1.next) (fun j hj => hj.elim (fun hj => Nat.lt_of_lt_of_le (hD j hj) l1) (fun hj => hj.2)) (fun g hg => .inl (hG g hg)) h1
  have hm : ∀ j, Dp (Dp D s.next s1.next) s1.next s2.next j → Dp D s.next s2.next j := fun j hj => by
    rcases hj with (hj | hj) | hj
    · exact .inl hj
    · exact .inr ⟨hj.1, by omega⟩
    · exact .inr ⟨by omega, hj.2⟩
  exact ⟨h2.1.mono hm, fun t => (h2.2 t).mono hm⟩

def StOut (E : Env) (base : World) (s s' : St) (μ κ : Nat → Nat) (w : World) (a' : Act) (w' : World) : Prop :=
  ∃ μ' κ', Step s'.mw s.next s'.next μ κ w μ' κ' w' ∧ StRel E base μ' κ' s' a' w'

theorem StOut.trans {E : Env} {base : World} {s s1 s2 : St} {μ κ μ1 κ1 : Nat → Nat} {w w1 : World} {a2 : Act} {w2 : World} (h : Step s1.mw s.next s1.next μ κ w μ1 κ1 w1) (hm : s2.mw ≤ s1.mw)
    (k : StOut E base s1 s2 μ1 κ1 w1 a2 w2) : StOut E base s s2 μ κ w a2 w2 := by
  obtain ⟨μ2, κ2, k1, k2⟩ := k
  exact ⟨μ2, κ2, (h.mono hm).trans k1, k2⟩

section
variable {E : Env} {base : World}

theorem TWF.eval {D : Nat → Prop} {s : St} (h : TWF D s) (hG : ∀ g, g < E.P.globals.size → D g) {x : Operand} (hx : opdOk E.P.globals.size x = true) : WF D (evalO s.tmps x) := by
  cases x with
  | tmp t => exact h.2 t
  | const v => exact WF.pure hx
  | global g => exact WF.ptr.2 (hG g (by simpa [opdOk, Nat.blt_eq] using hx))
  | func f => exact WF.func0 _

theorem eval_gen {μ κ : Nat → Nat} {tm : List (Nat × Value)} {a : Act} {x : Operand} (hg : ∀ g, g < E.P.globals.size → μ g = g) (ht : ∀ t, x = .tmp t → a.tmps.getD t undef = renV μ κ (getTmp tm t)) (hx : opdOk E.P.globals.size x = true) :
    a.eval x = renV μ κ (evalO tm x) := by
  cases x with
  | tmp t => exact ht t rfl
  | const v => exact (ren_pure μ κ 6 v hx).symm
  | global g => simp [Act.eval, evalO, opdF, renAd, hg g (by simpa [opdOk, Nat.blt_eq] using hx)]
  | func f => rfl

theorem StRel.eval {μ κ : Nat → Nat} {s : St} {a : Act} {w : World} (h : StRel E base μ κ s a w) {x : Operand} (hx : opdOk E.P.globals.size x = true) (ht : ∀ t, x = .tmp t → ToldE E s t) : a.eval x = renV μ κ (evalO s.tmps x) :=
  eval_gen h.rel.glob (fun t e => h.tmp t (ht t e)) hx

def putS (s : St) (dst : Option Tmp) (v : Value) (h : Heap) (n mw : Nat) : St :=
  match dst with
  | none => { tmps := s.tmps, heap := h, next := n, mw := min s.mw mw, size := s.size, fn := s.fn, df := s.df }
  | some d => { tmps := (d, v) :: s.tmps, heap := h, next := n, mw := min s.mw mw, size := s.size, fn := s.fn, df := s.df }

theorem putSt_sound {s : St} {dst : Option Tmp} {v : Value} {h : Heap} {n mw : Nat} {K : St → Prop} (hk : putSt s dst v h n mw K) : K (putS s dst v h n mw) ∧ ∀ d, dst = some d → d < s.size := by
  rw [putSt_eq] at hk
  split at hk
  · exact ⟨hk, fun _ h => by cases h⟩
  · obtain ⟨h1, h2⟩ := chk_true hk
    exact ⟨h2, fun d hd => by cases hd; simpa [Nat.blt_eq] using h1⟩

theorem putK_sound {s : St} {o : Oper} {v : Value} {h : Heap} {n mw : Nat} {K : St → Prop} (hk : putK E s o v h n mw K) : K (putS s o.dst v h n mw) ∧ ∀ d, o.dst = some d → d < s.size := by
  unfold putK at hk
  split at hk
  · split at hk
    · rename_i b
      split at hk
      · obtain ⟨rfl, hk⟩ := hk
        exact putSt_sound hk
      · cases b <;> exact putSt_sound hk
    · exact putSt_sound hk
  · exact putSt_sound hk

theorem getTmp_put {s : St} {dst : Option Tmp} {v : Value} {h : Heap} {n mw : Nat} (t : Nat) : getTmp (putS s dst v h n mw).tmps t = if dst = some t then v else getTmp s.tmps t := by
  unfold putS
  cases dst with
  | none => simp
  | some d =>
    simp only [getTmp_cons, Option.some.injEq]
    split
    · rename_i hb; rw [if_pos (beq_true hb)]
    · rename_i hb; rw [if_neg (beq_false hb)]

@[simp] theorem putS_heap {s : St} {dst : Option Tmp} {v : Value} {h : Heap} {n mw : Nat} : (putS s dst v h n mw).heap = h := by cases dst <;> rfl
@[simp] theorem putS_next {s : St} {dst : Option Tmp} {v : Value} {h : Heap} {n mw : Nat} : (putS s dst v h n mw).next = n := by cases dst <;> rfl
@[simp] theorem putS_mw {s : St} {dst : Option Tmp} {v : Value} {h : Heap} {n mw : Nat} : (putS s dst v h n mw).mw = min s.mw mw := by cases dst <;> rfl
@[simp] theorem putS_fn {s : St} {dst : Option Tmp} {v : Value} {h : Heap} {n mw : Nat} : (putS s dst v h n mw).fn = s.fn := by cases dst <;> rfl
@[simp] theorem putS_df {s : St} {dst : Option Tmp} {v : Value} {h : Heap} {n mw : Nat} : (putS s dst v h n mw).df = s.df := by cases dst <;> rfl
@[simp] theorem putS_size {s : St} {dst : Option Tmp} {v : Value} {h : Heap} {n mw : Nat} : (putS s dst v h n mw).size = s.size := by cases dst <;> rfl

theorem getD_put (a : Act) (dst : Option Tmp) (v : Value) (t : Nat) (hd : ∀ d, dst = some d → d < a.tmps.size) : (a.put dst v).tmps.getD t undef = if dst = some t then v else a.tmps.getD t undef := by
  cases dst with
  | none => simp [Act.put]
  | some d =>
    have := hd d rfl
    simp only [Act.put, Array.getD_eq_getD_getElem?, Option.some.injEq, Array.getElem?_setIfInBounds]
    by_cases h : d = t
    · subst h; simp [this]
    · simp [h]

theorem size_put (a : Act) (dst : Option Tmp) (v : Value) : (a.put dst v).tmps.size = a.tmps.size := by cases dst <;> simp [Act.put]
theorem df_put (a : Act) (dst : Option Tmp) (v : Value) : (a.put dst v).defers = a.defers := by cases dst <;> simp [Act.put]

theorem told_put {s : St} {dst : Option Tmp} {v : Value} {h : Heap} {n mw : Nat} (t : Nat) : told (putS s dst v h n mw).tmps t = true ↔ dst = some t ∨ told s.tmps t = true := by
  unfold putS
  cases dst with
  | none => simp
  | some d =>
    simp only [told_cons, Option.some.injEq]
    split
    · rename_i hb; simp [beq_true hb]
    · rename_i hb; simp [beq_false hb]
theorem ToldE.put {s : St} {dst : Option Tmp} {v : Value} {h : Heap} {n mw : Nat} {t : Nat} (ht : dst ≠ some t → ToldE E s t) : ToldE E (putS s dst v h n mw) t := fun hw => by
  rw [told_put]
  by_cases e : dst = some t
  · exact .inl e
  · exact .inr (ht e hw)
theorem ToldE.of_put {s : St} {dst : Option Tmp} {v : Value} {h : Heap} {n mw : Nat} {t : Nat} (hne : dst ≠ some t) (ht : ToldE E (putS s dst v h n mw) t) : ToldE E s t := fun hw => by
  have := ht hw
  rw [told_put] at this
  exact this.resolve_left hne

/-- Slots after one is written. -/
theorem put_tmp {μ' κ' : Nat → Nat} {s : St} {a : Act} {dst : Option Tmp} {u v : Value} {h : Heap} {n mw : Nat} (hsz : a.tmps.size = s.size) (hd : ∀ d, dst = some d → d < s.size) (hu : u = renV μ' κ' v)
    (ht : ∀ t, dst ≠ some t → ToldE E s t → a.tmps.getD t undef = renV μ' κ' (getTmp s.tmps t)) (t : Nat) (hto : ToldE E (putS s dst v h n mw) t) : (a.put dst u).tmps.getD t undef = renV μ' κ' (getTmp (putS s dst v h n mw).tmps t) := by
  rw [getD_put a dst u t (fun d h => by rw [hsz]; exact hd d h), getTmp_put]
  split
  · exact hu
  · rename_i hne; exact ht t hne (hto.of_put hne)

theorem TWF.put {D : Nat → Prop} {s : St} {dst : Option Tmp} {v : Value} {h : Heap} {n mw : Nat} (ht : ∀ t, WF D (getTmp s.tmps t)) (hv : WF D v) (hh : HWF D h) : TWF D (putS s dst v h n mw) := by
  refine ⟨by simpa using hh, fun t => ?_⟩
  rw [getTmp_put]
  split
  · exact hv
  · exact ht t

theorem SWf.op {o : Oper} {s : St} {v : Value} {h : Heap} {n mw : Nat} (ho : operOk E.P.globals.size o = true) (hw : OpWf E (o.op.operands.toList.map (evalO s.tmps)) s.heap s.next v h n) : SWf E s (putS s o.dst v h n mw) := by
  obtain ⟨h0, h1⟩ := hw
  refine ⟨by simpa using h0, fun D hD hG hT => ?_⟩
  obtain ⟨a, b⟩ := h1 D hD hG (fun x hx => by
    obtain ⟨y, hy, rfl⟩ := List.mem_map.1 hx
    exact hT.eval hG (List.all_eq_true.1 ho y hy)) hT.1
  rw [putS_next]
  exact TWF.put (fun t => (hT.2 t).mono Dp_mono) a b

/-- One operation. -/
theorem op_step {o : Oper} {s : St} {v : Value} {h : Heap} {n mw : Nat} (ho : operOk E.P.globals.size o = true) (hd : ∀ d, o.dst = some d → d < s.size) (hs : OpSem E base o (evalO s.tmps) s.heap s.next v h n mw)
    {μ κ : Nat → Nat} {a : Act} {w : World} (hr : StRel E base μ κ s a w) (hto : ∀ t, Operand.tmp t ∈ o.op.operands.toList → ToldE E s t) {N : Act → World → Prop} {Q : Exit → Act → World → Prop} (hN : ∀ a' w', StOut E base s (putS s o.dst v h n mw) μ κ w a' w' → N a' w') : o.wp E.P a w N Q := by
  have hops := fun x hx => List.all_eq_true.1 ho x hx
  have hwf := SWf.op (mw := mw) ho hs.1
  have hout := hs.2 μ κ w a.eval hr.rel (fun x hx => hr.eval (hops x hx) fun t e => hto t (e ▸ hx)) hr.wf.1 (fun x hx => hr.wf.eval (fun g hg => Nat.lt_of_lt_of_le hg hr.gl) (hops x hx)) hr.gl
  have fin : ∀ u w', Out E base h v mw s.next n μ κ w u w' → StOut E base s (putS s o.dst v h n mw) μ κ w (a.put o.dst u) w' := by
    intro u w' ⟨μ', κ', h1, h2, h3⟩
    refine ⟨μ', κ', by simpa using h1.mono (Nat.min_le_right _ _), by simpa using h3, by rw [size_put, putS_size]; exact hr.sz, ?_, by rw [df_put, putS_df, defs_same hr.dw fun k hk => h1.ag k (.inl hk)]; exact hr.df, by rw [putS_df, putS_next]; exact hr.dw.mono fun k hk => Nat.lt_of_lt_of_le hk hs.1.1, ?_, by rw [putS_next]; exact Nat.le_trans hr.gl hs.1.1⟩
    · refine put_tmp hr.sz hd h2 fun t _ hx => ?_
      rw [hr.tmp t hx]
      exact (hr.wf.2 t _ _ _ _ fun k hk => h1.ag k (.inl hk)).symm
    · have hx := hwf.2 (· < s.next) (fun _ h => h) (fun g hg => Nat.lt_of_lt_of_le hg hr.gl) hr.wf
      have hm : ∀ k, Dp (· < s.next) s.next (putS s o.dst v h n mw).next k → k < (putS s o.dst v h n mw).next := fun k hk => by
        have := hwf.1
        rcases hk with hk | hk
        · exact Nat.lt_of_lt_of_le hk this
        · exact hk.2
      exact ⟨hx.1.mono hm, fun t => (hx.2 t).mono hm⟩
  unfold Oper.wp
  generalize (execOp a.eval o).run E.P w = r at *
  cases r with
  | halt x w' => exact hout.elim
  | ok nx w' =>
    cases nx with
    | value u => exact hN _ _ (fin u w' hout)
    | skip => exact hN _ _ (fin _ w' hout)
    | enter f args =>
      obtain ⟨rfl, hc⟩ := hout
      refine Calls.mono hc fun e w'' he => ?_
      obtain ⟨u, rfl, hu⟩ := he
      exact hN _ _ (fin u w'' hu)
    | _ => exact hout.elim

/-- An operation passed over. -/
theorem skip_step {o : Oper} {s : St} (hd : ∀ d, o.dst = some d → d < s.size) {μ κ : Nat → Nat} {a : Act} {w : World} (hr : StRel E base μ κ s a w) :
    StOut E base s (putS s o.dst undef s.heap s.next big) μ κ w (a.put o.dst undef) w := by
  refine ⟨μ, κ, by simpa using Step.refl _ _ _ _ _, by simpa using hr.rel, by rw [size_put, putS_size]; exact hr.sz, put_tmp hr.sz hd (by simp) (fun t _ => hr.tmp t), by rw [df_put, putS_df]; exact hr.df, by rw [putS_df, putS_next]; exact hr.dw, ?_, by rw [putS_next]; exact hr.gl⟩
  rw [putS_next]
  exact TWF.put hr.wf.2 WF.undef hr.wf.1

theorem SWf.skip {o : Oper} {s : St} : SWf E s (putS s o.dst undef s.heap s.next big) := by
  refine ⟨by simp, fun D hD hG hT => ?_⟩
  exact TWF.put (fun t => (hT.2 t).mono Dp_mono) WF.undef (hT.1.mono Dp_mono)

theorem ren_bool {μ κ : Nat → Nat} {v : Value} {b : Bool} (h : renV μ κ v = .bool b) : v = .bool b := by
  cases v with
  | bool c => simpa using h
  | slice a n c => cases a <;> simp at h
  | _ => simp at h

theorem guard_gen {ops : List Oper} {tm : List (Nat × Value)} {μ κ : Nat → Nat} {a : Act} {j : Nat} (ht : ∀ o d, nth ops j = some o → o.dst = some d → a.tmps.getD d undef = renV μ κ (getTmp tm d)) :
    yielded ops.toArray a.tmps j = guardV ops tm j := by
  unfold yielded guardV
  rw [nth_eq] at *
  simp only [List.getElem?_toArray]
  cases ho : ops[j]? with
  | none => simp
  | some o =>
    cases hd : o.dst with
    | none => simp [hd]
    | some d =>
      have h := ht o d ho hd
      simp only [Option.bind_some, hd]
      rw [Array.getD_eq_getD_getElem?] at h
      cases hv : a.tmps[d]? with
      | none =>
        rw [hv] at h
        simp only [Option.getD_none] at h
        cases hg : getTmp tm d with
        | bool b => rw [hg] at h; simp [undef] at h
        | _ => rfl
      | some v =>
        rw [hv] at h
        simp only [Option.getD_some] at h
        cases hg : getTmp tm d with
        | bool b => rw [hg] at h; simp at h; simp [h]
        | _ =>
          cases v with
          | bool b => exact absurd (ren_bool h.symm) (by rw [hg]; simp)
          | _ => rfl

theorem StRel.guard {ops : List Oper} {μ κ : Nat → Nat} {s : St} {a : Act} {w : World} (h : StRel E base μ κ s a w) (j : Nat) (ht : ∀ o d, nth ops j = some o → o.dst = some d → ToldE E s d) : yielded ops.toArray a.tmps j = guardV ops s.tmps j :=
  guard_gen fun o d ho hd => h.tmp d (ht o d ho hd)

theorem needs_opd {ops rest : List Oper} {o : Oper} {s : St} (h : ∀ t ∈ needs ops (o :: rest), ToldE E s t) : ∀ t, Operand.tmp t ∈ o.op.operands.toList → ToldE E s t := fun t ht =>
  h t (by unfold needs; exact List.mem_append_left _ (List.mem_append_right _ (mem_tmpsOf ht)))
theorem needs_guard {ops rest : List Oper} {o : Oper} {s : St} (h : ∀ t ∈ needs ops (o :: rest), ToldE E s t) {j : Nat} {b : Bool} (hg : o.guard = some (j, b)) : ∀ p d, nth ops j = some p → p.dst = some d → ToldE E s d := fun p d hp hd =>
  h d (by
    unfold needs guardSlot
    rw [hg]
    simp only [hp, hd]
    exact List.mem_append_left _ (List.mem_append_left _ (List.mem_singleton.2 rfl)))
theorem needs_next {ops rest : List Oper} {o : Oper} {s : St} (h : ∀ t ∈ needs ops (o :: rest), ToldE E s t) {v : Value} {H : Heap} {n mw : Nat} : ∀ t ∈ needs ops rest, ToldE E (putS s o.dst v H n mw) t := fun t ht =>
  ToldE.put fun hne => h t (by
    unfold needs
    refine List.mem_append_right _ (List.mem_filter.2 ⟨ht, ?_⟩)
    unfold dstIs
    cases hd : o.dst with
    | none => rfl
    | some d =>
      have : d ≠ t := fun e => hne (by rw [hd, e])
      show (!Nat.beq d t) = true
      cases hb : Nat.beq d t with
      | true => exact absurd (beq_true hb) this
      | false => rfl)

/-- Which way a guard goes. -/
theorem want_cases {ops : List Oper} {tm : List (Nat × Value)} {o : Oper} {yes no : Prop} (h : wantK ops tm o.guard yes no) :
    (yes ∧ Region.wanted o (guardV ops tm) = true) ∨ (no ∧ Region.wanted o (guardV ops tm) = false) := by
  rw [wantK_eq] at h
  unfold Region.wanted
  cases hg : o.guard with
  | none => rw [hg] at h; exact .inl ⟨h, rfl⟩
  | some p =>
    obtain ⟨j, want⟩ := p
    rw [hg] at h
    simp only at h ⊢
    split at h
    · rename_i hv; rw [hv]; cases want
      · exact .inr ⟨h, rfl⟩
      · exact .inl ⟨h, rfl⟩
    · rename_i hv; rw [hv]; cases want
      · exact .inl ⟨h, rfl⟩
      · exact .inr ⟨h, rfl⟩
    · rename_i hv; rw [hv]; exact .inr ⟨h, rfl⟩

theorem wanted_congr {o : Oper} {y y' : Nat → Option Bool} (h : ∀ j b, o.guard = some (j, b) → y j = y' j) : Region.wanted o y = Region.wanted o y' := by
  unfold Region.wanted
  cases hg : o.guard with
  | none => rfl
  | some p => simp only [h p.1 p.2 (by rw [hg])]

/-- What is asked of code: from any world that the state tells of it comes to another one, told by another state. -/
structure Sem1 (E : Env) (s s' : St) : Prop where
  wf : SWf E s s'
  mw : s'.mw ≤ s.mw
  size : s'.size = s.size
  dwf : ∀ D : Nat → Prop, (∀ k, D k → k < s.next) → (∀ g, g < E.P.globals.size → D g) → TWF D s → DWF D s.df → DWF (Dp D s.next s'.next) s'.df

theorem Sem1.refl (s : St) : Sem1 E s s := ⟨SWf.refl E s, Nat.le_refl _, rfl, fun _ _ _ _ h => h.mono Dp_mono⟩
theorem Sem1.trans {s s1 s2 : St} (h : Sem1 E s s1) (k : Sem1 E s1 s2) : Sem1 E s s2 := by
  refine ⟨h.wf.trans k.wf, Nat.le_trans k.mw h.mw, k.size.trans h.size, fun D hD hG hT hd => ?_⟩
  have l1 := h.wf.1
  have l2 := k.wf.1
  have h1 := h.wf.2 D hD hG hT
  have h2 := h.dwf D hD hG hT hd
  refine (k.dwf (Dp D s.next s1.next) (fun j hj => hj.elim (fun hj => Nat.lt_of_lt_of_le (hD j hj) l1) (fun hj => hj.2)) (fun g hg => .inl (hG g hg)) h1 h2).mono fun j hj => ?_
  rcases hj with (hj | hj) | hj
  · exact .inl hj
  · exact .inr ⟨hj.1, by omega⟩
  · exact .inr ⟨by omega, hj.2⟩

/-- What writes a slot puts no call off. -/
theorem Sem1.put {o : Oper} {s : St} {v : Value} {h : Heap} {n mw : Nat} (hw : SWf E s (putS s o.dst v h n mw)) : Sem1 E s (putS s o.dst v h n mw) :=
  ⟨hw, by simp; exact Nat.min_le_left _ _, by simp, fun _ _ _ _ hd => by rw [putS_df]; exact hd.mono Dp_mono⟩

theorem deferK_spec {ρ : Operand → Value} {c : Call} {K : FuncId × List Value → Prop} (hk : deferK ρ c K) : ∃ f g caps, c.callee = .value f ∧ c.args = #[] ∧ ρ f = .func (.func g) #[] ⟨caps⟩ ∧ K (g, caps) := by
  unfold deferK at hk
  split at hk
  · rename_i f hc ha
    split at hk
    · rename_i g caps hf
      exact ⟨f, g, caps, hc, Array.ext' ha, hf, hk⟩
    · exact hk.elim
  · exact hk.elim

/-- A call that is put off. -/
theorem defer_step {o : Oper} {c : Call} (hop : o.op = .defer c) {s : St} {f : Operand} {g : FuncId} {caps : List Value} (hc : c.callee = .value f) (ha : c.args = #[]) (hf : evalO s.tmps f = .func (.func g) #[] ⟨caps⟩) (ho : operOk E.P.globals.size o = true)
    (hd : ∀ d, o.dst = some d → d < s.size) {μ κ : Nat → Nat} {a : Act} {w : World} (hr : StRel E base μ κ s a w) (hto : ∀ t, Operand.tmp t ∈ o.op.operands.toList → ToldE E s t) {N : Act → World → Prop} {Q : Exit → Act → World → Prop}
    (hN : ∀ a' w', StOut E base s (putS { s with df := (g, caps) :: s.df } o.dst undef s.heap s.next big) μ κ w a' w' → N a' w') : o.wp E.P a w N Q := by
  have hops : o.op.operands.toList = f :: c.args.toList := by simp [hop, Op.operands, Call.operands, hc]
  have hfo : opdOk E.P.globals.size f = true := List.all_eq_true.1 ho f (by rw [hops]; exact List.mem_cons_self ..)
  have e1 : a.eval f = .func (.func g) #[] (caps.map (renV μ κ)).toArray := by rw [hr.eval hfo fun t e => hto t (by rw [hops, e]; exact List.mem_cons_self ..), hf]; simp
  have hw : WF (· < s.next) (evalO s.tmps f) := hr.wf.eval (fun g hg => Nat.lt_of_lt_of_le hg hr.gl) hfo
  rw [hf] at hw
  have hcap := (WF.func.1 hw).2
  have e : (execOp a.eval o).run E.P w = .ok (.defer (defOf μ κ (g, caps))) w := by
    simp [execOp, hop, resolve, hc, e1, ha, Deferred.ofValue, defOf]
  unfold Oper.wp
  rw [e, Oper.upon_defer]
  refine hN _ _ ⟨μ, κ, by simpa using Step.refl _ _ _ _ _, by simpa using hr.rel, by rw [size_put, putS_size]; exact hr.sz, ?_, ?_, ?_, ?_, by rw [putS_next]; exact hr.gl⟩
  · exact put_tmp (s := { s with df := (g, caps) :: s.df }) (a := { a with defers := defOf μ κ (g, caps) :: a.defers }) hr.sz hd (by simp) fun t _ => hr.tmp t
  · rw [df_put, putS_df]
    show defOf μ κ (g, caps) :: a.defers = _
    rw [hr.df]; rfl
  · rw [putS_df, putS_next]
    intro d hm v hv
    rcases List.mem_cons.1 hm with rfl | hm
    · exact hcap v hv
    · exact hr.dw d hm v hv
  · rw [putS_next]
    exact TWF.put (s := { s with df := (g, caps) :: s.df }) hr.wf.2 WF.undef hr.wf.1

theorem Sem1.defer {o : Oper} {c : Call} (hop : o.op = .defer c) {s : St} {f : Operand} {g : FuncId} {caps : List Value} (hc : c.callee = .value f) (hf : evalO s.tmps f = .func (.func g) #[] ⟨caps⟩) (ho : operOk E.P.globals.size o = true) :
    Sem1 E s (putS { s with df := (g, caps) :: s.df } o.dst undef s.heap s.next big) := by
  refine ⟨⟨by simp, fun D hD hG hT => ?_⟩, by simp; exact Nat.min_le_left _ _, by simp, fun D hD hG hT hdf => ?_⟩
  · exact TWF.put (s := { s with df := (g, caps) :: s.df }) (fun t => (hT.2 t).mono Dp_mono) WF.undef (hT.1.mono Dp_mono)
  · rw [putS_df]
    have hops : o.op.operands.toList = f :: c.args.toList := by simp [hop, Op.operands, Call.operands, hc]
    have hw := hT.eval hG (List.all_eq_true.1 ho f (by rw [hops]; exact List.mem_cons_self ..))
    rw [hf] at hw
    intro d hm v hv
    rcases List.mem_cons.1 hm with rfl | hm
    · exact ((WF.func.1 hw).2 v hv).mono Dp_mono
    · exact (hdf d hm v hv).mono Dp_mono

theorem StOut.refl {s : St} {μ κ : Nat → Nat} {a : Act} {w : World} (h : StRel E base μ κ s a w) : StOut E base s s μ κ w a w := ⟨μ, κ, Step.refl _ _ _ _ _, h⟩

theorem opsK_sound (hE : EnvOk E base) {call : CallFn} (hcall : CallOk E base call) (ops : List Oper) {K : St → Prop} : ∀ (rest : List Oper) (s : St), rest.all (operOk E.P.globals.size) = true → (∀ t ∈ needs ops rest, ToldE E s t) → opsK E call ops rest s K →
    ∃ s', K s' ∧ Sem1 E s s' ∧ ∀ μ κ a w, StRel E base μ κ s a w → ∀ Q : Exit → Act → World → Prop, (∀ a' w', StOut E base s s' μ κ w a' w' → Q .normal a' w') → wpList E.P ops.toArray Q rest a w := by
  intro rest
  induction rest with
  | nil =>
    intro s _ _ hk
    exact ⟨s, hk, Sem1.refl s, fun μ κ a w hr Q hQ => wpList_nil (hQ a w (StOut.refl hr))⟩
  | cons o rest ih =>
    intro s hok hne hk
    simp only [List.all_cons, Bool.and_eq_true] at hok
    obtain ⟨ho, hrest⟩ := hok
    rw [opsK_cons] at hk
    rcases want_cases hk with ⟨hk, hw⟩ | ⟨hk, hw⟩
    · split at hk
      · rename_i c hop
        obtain ⟨f, g, caps, hc, ha, hf, hk⟩ := deferK_spec hk
        obtain ⟨h3, hd⟩ := putSt_sound hk
        obtain ⟨s', hK, hs, hwp⟩ := ih _ hrest (needs_next (s := { s with df := (g, caps) :: s.df }) hne) h3
        refine ⟨s', hK, Sem1.trans (Sem1.defer hop hc hf ho) hs, fun μ κ a w hr Q hQ => ?_⟩
        unfold wpList
        rw [if_pos (by rw [wanted_congr (fun j b hg => hr.guard (ops := ops) j (needs_guard hne hg))]; exact hw)]
        refine .inl (defer_step hop hc ha hf ho hd hr (needs_opd hne) fun a' w' ⟨μ', κ', q1, q2⟩ => hwp μ' κ' a' w' q2 Q fun a'' w'' q3 => hQ _ _ ?_)
        exact StOut.trans (s1 := putS { s with df := (g, caps) :: s.df } o.dst undef s.heap s.next big) q1 hs.mw q3
      · obtain ⟨v, h, n, mw, h1, h2⟩ := opK_sound hE hcall hk
        obtain ⟨h3, hd⟩ := putK_sound h1
        obtain ⟨s', hK, hs, hwp⟩ := ih _ hrest (needs_next hne) h3
        refine ⟨s', hK, Sem1.trans (Sem1.put (SWf.op ho h2.1)) hs, fun μ κ a w hr Q hQ => ?_⟩
        unfold wpList
        rw [if_pos (by rw [wanted_congr (fun j b hg => hr.guard (ops := ops) j (needs_guard hne hg))]; exact hw)]
        refine .inl (op_step ho hd h2 hr (needs_opd hne) fun a' w' ⟨μ', κ', q1, q2⟩ => hwp μ' κ' a' w' q2 Q fun a'' w'' q3 => hQ _ _ (StOut.trans q1 hs.mw q3))
    · obtain ⟨h3, hd⟩ := putSt_sound hk
      obtain ⟨s', hK, hs, hwp⟩ := ih _ hrest (needs_next hne) h3
      refine ⟨s', hK, Sem1.trans (Sem1.put SWf.skip) hs, fun μ κ a w hr Q hQ => ?_⟩
      unfold wpList
      rw [if_neg (by rw [wanted_congr (fun j b hg => hr.guard (ops := ops) j (needs_guard hne hg))]; simp [hw])]
      obtain ⟨μ', κ', q1, q2⟩ := skip_step (E := E) (base := base) hd hr
      exact hwp μ' κ' _ _ q2 Q fun a'' w'' q3 => hQ _ _ (StOut.trans q1 hs.mw q3)

end
end Go.Pe
