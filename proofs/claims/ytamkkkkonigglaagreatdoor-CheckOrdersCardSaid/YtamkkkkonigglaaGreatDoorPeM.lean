/-
  The evaluator's soundness, eleventh part: regions whose order is drawn: every order.
-/
import Derived.Test.YtamkkkkonigglaaGreatDoorPeL
namespace Go.Pe
open Go Go.RowKit

section
variable {E : Env} {base : World} {ops : List Oper} {σ : Nat → St} {rf : Nat → List (Nat × Nat × Nat)} {lf : Nat → Recs} {Vf : Nat → Heap} {mf : Nat → Nat}

def seen (σ : Nat → St) (S : Nat → Prop) (k : Nat) : Prop := k < (σ 0).next ∨ ∃ m, S m ∧ own σ m k

/-- What holds when these operations are carried out. -/
structure Inv (E : Env) (base : World) (ops : List Oper) (σ : Nat → St) (Vf : Nat → Heap) (mf : Nat → Nat) (μ0 κ0 : Nat → Nat) (w0 : World) (S : Nat → Prop) (μ κ : Nat → Nat) (a : Act) (w : World) : Prop where
  shut : Shut ops S
  dom : ∀ i, S i → i < ops.length
  hs : ∃ (HS : Heap) (c : Nat → Nat), (∀ k, seen σ S k → c k ≤ ops.length ∧ ∀ m, m < ops.length → touch σ Vf mf m k → (S m ↔ m < c k)) ∧
    (∀ k b, getBlk HS k = some b ↔ seen σ S k ∧ getBlk (σ (c k)).heap k = some b) ∧ HWF (seen σ S) HS ∧ Rel E.P base μ κ HS w
  sz : a.tmps.size = (σ 0).size
  s1 : ∀ (j : Nat) o t, S j → ops[j]? = some o → o.dst = some t → a.tmps.getD t undef = renV μ κ (getTmp (σ (j + 1)).tmps t)
  s2 : ∀ t, (∀ (j : Nat) o, S j → ops[j]? = some o → o.dst ≠ some t) → ToldE E (σ 0) t → a.tmps.getD t undef = renV μ κ (getTmp (σ 0).tmps t)
  df : a.defers = (σ 0).df.map (defOf μ0 κ0)
  nm : ∀ k, (k < (σ 0).next ∨ (σ ops.length).next ≤ k) → μ k = μ0 k ∧ κ k = κ0 k
  nw : ∀ m k, S m → own σ m k → w0.heap.size ≤ μ k ∨ ∃ j, (σ ops.length).mw ≤ j ∧ j < (σ 0).next ∧ μ k = μ0 j
  hsz : w0.heap.size ≤ w.heap.size
  fr : ∀ b, b < w0.heap.size → (∀ k, (σ ops.length).mw ≤ k → k < (σ 0).next → μ0 k ≠ b) → w.heap[b]? = w0.heap[b]?
  nd : ∀ t ∈ needs ops ops, ToldE E (σ 0) t

variable {μ0 κ0 μ κ : Nat → Nat} {w0 w : World} {S : Nat → Prop} {a : Act} {i : Nat} {o : Oper}

def plus (S : Nat → Prop) (i : Nat) : Nat → Prop := fun j => S j ∨ j = i

theorem plus_shut (hS : Shut ops S) (ho : ops[i]? = some o) (hr : ∀ e ∈ o.after, Region.binds .any e = true → S e.on) : Shut ops (plus S i) := by
  intro j p hp hj e he hb
  rcases hj with hj | rfl
  · exact .inl (hS j p hp hj e he hb)
  · rw [ho] at hp; cases hp
    exact .inl (hr e he hb)

theorem Inv.ahead (I : Inv E base ops σ Vf mf μ0 κ0 w0 S μ κ a w) (ho : ops[i]? = some o) (hr : ∀ e ∈ o.after, Region.binds .any e = true → S e.on) {j : Nat} (hj : j ∈ anc ops i) : S j := anc_shut I.shut i o ho hr j hj

theorem Inv.back (I : Inv E base ops σ Vf mf μ0 κ0 w0 S μ κ a w) {j : Nat} (hS : S j) (hj : i ∈ anc ops j) : S i := by
  obtain ⟨p, hp⟩ := getO (I.dom j hS)
  exact anc_in I.shut hp hS hj

theorem PA_seen (h : ∀ j, j ∈ anc ops i → S j) {k : Nat} (hk : PA ops σ i k) : seen σ S k := by
  rcases hk with hk | ⟨m, hm, hk⟩
  · exact .inl hk
  · exact .inr ⟨m, h m hm, hk⟩

/-- A slot that an operation reads: told from the beginning, or written ahead of it. -/
theorem needs_mem {all : List Oper} : ∀ (l : List Oper) (i : Nat) (o : Oper) (t : Nat), l[i]? = some o → t ∈ guardSlot all o ++ tmpsOf o.op.operands.toList → t ∈ needs all l ∨ ∃ (j : Nat) (p : Oper), j < i ∧ l[j]? = some p ∧ p.dst = some t := by
  intro l
  induction l with
  | nil => intro i o t h; simp at h
  | cons q l ih =>
    intro i o t h ht
    cases i with
    | zero =>
      simp only [List.getElem?_cons_zero, Option.some.injEq] at h
      subst h
      exact .inl (by unfold needs; exact List.mem_append_left _ ht)
    | succ i =>
      rw [List.getElem?_cons_succ] at h
      rcases ih i o t h ht with h1 | ⟨j, p, h1, h2, h3⟩
      · by_cases hq : q.dst = some t
        · exact .inr ⟨0, q, by omega, by simp, hq⟩
        · refine .inl ?_
          unfold needs
          refine List.mem_append_right _ (List.mem_filter.2 ⟨h1, ?_⟩)
          unfold dstIs
          cases hd : q.dst with
          | none => rfl
          | some d =>
            have : d ≠ t := fun e => hq (by rw [hd, e])
            show (!Nat.beq d t) = true
            cases hb : Nat.beq d t with
            | true => exact absurd (beq_true hb) this
            | false => rfl
      · exact .inr ⟨j + 1, p, by omega, by rw [List.getElem?_cons_succ]; exact h2, h3⟩

/-- A slot as the operation finds it. -/
theorem Inv.slot (I : Inv E base ops σ Vf mf μ0 κ0 w0 S μ κ a w) (R : Run E base ops σ rf lf Vf mf) (ho : ops[i]? = some o) (hi : ¬ S i) (hr : ∀ e ∈ o.after, Region.binds .any e = true → S e.on) {t : Nat}
    (hto : t ∈ guardSlot ops o ++ tmpsOf o.op.operands.toList) (ht : ∀ (j : Nat) p, ops[j]? = some p → p.dst = some t → j ∈ anc ops i ∨ i = j ∨ i ∈ anc ops j) : a.tmps.getD t undef = renV μ κ (getTmp (σ i).tmps t) := by
  have hlt := ltO ho
  by_cases hex : ∃ (j : Nat) (p : Oper), S j ∧ ops[j]? = some p ∧ p.dst = some t
  · obtain ⟨j, p, hj, hp, hd⟩ := hex
    rw [I.s1 j p t hj hp hd]
    rcases ht j p hp hd with h | h | h
    · rw [R.slotB hp hd (anc_lt i j hlt h) (by omega)]
    · subst h; exact absurd hj hi
    · exact absurd (anc_in I.shut hp hj h) hi
  · have hfirst : ToldE E (σ 0) t := by
      rcases needs_mem ops i o t ho hto with h | ⟨j, p, hj, hp, hd⟩
      · exact I.nd t h
      · rcases ht j p hp hd with h | h | h
        · exact absurd ⟨j, p, I.ahead ho hr h, hp, hd⟩ hex
        · omega
        · have := anc_lt j i (ltO hp) h; omega
    rw [I.s2 t (fun j p hj hp e => hex ⟨j, p, hj, hp, e⟩) hfirst, R.slotA (i := 0) i (Nat.zero_le _) (by omega) fun m p _ hm hp e => ?_]
    rcases ht m p hp e with h | h | h
    · exact hex ⟨m, p, I.ahead ho hr h, hp, e⟩
    · omega
    · have := anc_lt m i (by omega) h; omega

theorem Inv.wanted (I : Inv E base ops σ Vf mf μ0 κ0 w0 S μ κ a w) (R : Run E base ops σ rf lf Vf mf) (ho : ops[i]? = some o) (hi : ¬ S i) (hr : ∀ e ∈ o.after, Region.binds .any e = true → S e.on) :
    Region.wanted o (yielded ops.toArray a.tmps) = Region.wanted o (guardV ops (σ i).tmps) := by
  refine wanted_congr fun j b hg => guard_gen (μ := μ) (κ := κ) fun p d hp hd => ?_
  have hs : d ∈ guardSlot ops o ++ tmpsOf o.op.operands.toList := List.mem_append_left _ (by
    unfold guardSlot
    rw [hg]
    simp [hp, hd])
  rw [nth_eq] at hp
  refine I.slot R ho hi hr hs fun l q hq hqd => .inl ?_
  have := R.static.dst j p l q d hp hq hd hqd
  subst this
  exact R.static.gd i o j b ho hg

theorem Inv.opd (I : Inv E base ops σ Vf mf μ0 κ0 w0 S μ κ a w) (R : Run E base ops σ rf lf Vf mf) (ho : ops[i]? = some o) (hi : ¬ S i) (hr : ∀ e ∈ o.after, Region.binds .any e = true → S e.on) :
    ∀ x ∈ o.op.operands.toList, a.eval x = renV μ κ (evalO (σ i).tmps x) := by
  intro x hx
  obtain ⟨HS, c, _, _, _, hrel⟩ := I.hs
  refine eval_gen hrel.glob (fun t e => ?_) (List.all_eq_true.1 (R.opers i o ho) x hx)
  subst e
  exact I.slot R ho hi hr (List.mem_append_right _ (mem_tmpsOf hx)) fun j p hp hd => R.static.opd i o t j p ho hx hp hd

theorem own_plus {k : Nat} (h : seen σ (plus S i) k) : seen σ S k ∨ own σ i k := by
  rcases h with h | ⟨m, h | rfl, hk⟩
  · exact .inl (.inl h)
  · exact .inl (.inr ⟨m, h, hk⟩)
  · exact .inr hk

theorem seen_plus {k : Nat} (h : seen σ S k ∨ own σ i k) : seen σ (plus S i) k := by
  rcases h with (h | ⟨m, h, hk⟩) | hk
  · exact .inl h
  · exact .inr ⟨m, .inl h, hk⟩
  · exact .inr ⟨i, .inr rfl, hk⟩

theorem Inv.not_own (I : Inv E base ops σ Vf mf μ0 κ0 w0 S μ κ a w) (R : Run E base ops σ rf lf Vf mf) (hlt : i < ops.length) (hi : ¬ S i) {k : Nat} (hk : seen σ S k) : ¬ own σ i k := by
  intro hown
  rcases hk with hk | ⟨m, hm, hk⟩
  · have := R.own_ge hlt hown; omega
  · have := R.own_inj (I.dom m hm) hlt hk hown
    subst this; exact hi hm

/-- What a slot holds is told by names that are given. -/
theorem Inv.slot_wf (I : Inv E base ops σ Vf mf μ0 κ0 w0 S μ κ a w) (R : Run E base ops σ rf lf Vf mf) (hg : E.P.globals.size ≤ (σ 0).next) (ht : TWF (· < (σ 0).next) (σ 0)) {j : Nat} {p : Oper} {t : Nat} (hj : S j) (hp : ops[j]? = some p) (hd : p.dst = some t) :
    WF (seen σ S) (getTmp (σ (j + 1)).tmps t) :=
  ((R.wfV hg ht j p hp).1 t hd).mono fun k hk => by
    rcases hk with hk | hk
    · exact PA_seen (fun m hm => anc_in I.shut hp hj hm) hk
    · exact .inr ⟨j, hj, hk⟩

/-- The slots, after one more is written, under names that are the same for what is given. -/
theorem Inv.slots (I : Inv E base ops σ Vf mf μ0 κ0 w0 S μ κ a w) (R : Run E base ops σ rf lf Vf mf) (hg : E.P.globals.size ≤ (σ 0).next) (ht : TWF (· < (σ 0).next) (σ 0)) (ho : ops[i]? = some o) (hi : ¬ S i) {μ' κ' : Nat → Nat} {u : Value}
    (hd : ∀ d, o.dst = some d → d < (σ i).size) (hag : ∀ k, seen σ S k → μ' k = μ k ∧ κ' k = κ k) (hu : ∀ t, o.dst = some t → u = renV μ' κ' (getTmp (σ (i + 1)).tmps t)) :
    (a.put o.dst u).tmps.size = (σ 0).size ∧
    (∀ (j : Nat) p t, plus S i j → ops[j]? = some p → p.dst = some t → (a.put o.dst u).tmps.getD t undef = renV μ' κ' (getTmp (σ (j + 1)).tmps t)) ∧
    (∀ t, (∀ (j : Nat) p, plus S i j → ops[j]? = some p → p.dst ≠ some t) → ToldE E (σ 0) t → (a.put o.dst u).tmps.getD t undef = renV μ' κ' (getTmp (σ 0).tmps t)) := by
  have hsz := I.sz
  have hsi := (R.mw_le (i := 0) i (Nat.zero_le _) (by have := ltO ho; omega)).2
  have hd' : ∀ d, o.dst = some d → d < a.tmps.size := fun d h => by rw [hsz, ← hsi]; exact hd d h
  refine ⟨by rw [size_put]; exact hsz, fun j p t hj hp hdt => ?_, fun t hno hto => ?_⟩
  · rw [getD_put a o.dst u t hd']
    split
    · rename_i e
      have := R.static.dst i o j p t ho hp e hdt
      subst this
      exact hu t e
    · rename_i e
      rcases hj with hj | rfl
      · rw [I.s1 j p t hj hp hdt]
        exact (I.slot_wf R hg ht hj hp hdt _ _ _ _ fun k hk => hag k hk).symm
      · rw [ho] at hp; cases hp; exact absurd hdt e
  · rw [getD_put a o.dst u t hd', if_neg (hno i o (.inr rfl) ho), I.s2 t (fun j p hj hp => hno j p (.inl hj) hp) hto]
    exact (ht.2 t _ _ _ _ fun k hk => hag k (.inl hk)).symm

theorem inv_start (hr : StRel E base μ0 κ0 (σ 0) a w0) (hnd : ∀ t ∈ needs ops ops, ToldE E (σ 0) t) : Inv E base ops σ Vf mf μ0 κ0 w0 (fun _ => False) μ0 κ0 a w0 := by
  refine ⟨fun _ _ _ h => h.elim, fun _ h => h.elim, ⟨(σ 0).heap, fun _ => 0, fun k _ => ⟨Nat.zero_le _, fun m _ _ => ⟨False.elim, fun h => absurd h (Nat.not_lt_zero _)⟩⟩, fun k b => ⟨fun h => ⟨.inl (hr.wf.1 k b h).1, h⟩, fun h => h.2⟩,
    hr.wf.1.mono fun k hk => .inl hk, hr.rel⟩, hr.sz, fun _ _ _ h => h.elim, fun t _ => hr.tmp t, hr.df, fun _ _ => ⟨rfl, rfl⟩, fun _ _ h => h.elim, Nat.le_refl _, fun _ _ _ => rfl, hnd⟩

theorem inv_end (R : Run E base ops σ rf lf Vf mf) (hr : StRel E base μ0 κ0 (σ 0) a w0) {a' : Act} (I : Inv E base ops σ Vf mf μ0 κ0 w0 S μ κ a' w) (hall : ∀ i, i < ops.length → S i) : StOut E base (σ 0) (σ ops.length) μ0 κ0 w0 a' w := by
  obtain ⟨HS, c, h1, h4, h5, h6⟩ := I.hs
  have hnext := R.next_le (i := 0) ops.length (Nat.zero_le _) (Nat.le_refl _)
  have hN := R.twf hr.gl hr.wf (i := ops.length) (Nat.le_refl _)
  refine ⟨μ, κ, ⟨hnext, I.nm, I.hsz, fun b hb hh => I.fr b hb hh, fun k k1 k2 => ?_⟩, h6.fewer fun k b hb => ?_, I.sz.trans (R.mw_le (i := 0) ops.length (Nat.zero_le _) (Nat.le_refl _)).2.symm, fun t hto => ?_, by
    rw [R.df ops.length (Nat.le_refl _), defs_same hr.dw fun k hk => I.nm k (.inl hk)]
    exact I.df, by
    rw [R.df ops.length (Nat.le_refl _)]
    exact hr.dw.mono fun k hk => Nat.lt_of_lt_of_le hk hnext, hN, Nat.le_trans hr.gl hnext⟩
  · rcases R.own_ex ops.length (Nat.le_refl _) k2 with h | ⟨m, hm, h⟩
    · omega
    · exact I.nw m k (hall m hm) h
  · have hk := (hN.1 k b hb).1
    have hseen : seen σ S k := by
      rcases R.own_ex ops.length (Nat.le_refl _) hk with h | ⟨m, hm, h⟩
      · exact .inl h
      · exact .inr ⟨m, hall m hm, h⟩
    obtain ⟨c1, c2⟩ := h1 k hseen
    refine (h4 k b).2 ⟨hseen, ?_⟩
    rw [← R.heapN hr.gl hr.wf (i := c k) ops.length c1 (Nat.le_refl _) fun m m1 m2 hm => ?_]
    · exact hb
    · have := (c2 m m2 hm).1 (hall m m2); omega
  · by_cases hex : ∃ (j : Nat) (p : Oper), ops[j]? = some p ∧ p.dst = some t
    · obtain ⟨j, p, hp, hd⟩ := hex
      rw [I.s1 j p t (hall j (ltO hp)) hp hd, R.slotB hp hd (ltO hp) (Nat.le_refl _)]
    · rw [I.s2 t (fun j p _ hp e => hex ⟨j, p, hp, e⟩) (R.toldA ops.length (Nat.le_refl _) (fun m p _ hp e => hex ⟨m, p, hp, e⟩) hto), R.slotA (i := 0) ops.length (Nat.zero_le _) (Nat.le_refl _) fun m p _ _ hp e => hex ⟨m, p, hp, e⟩]

/-- An operation that is not carried out. -/
theorem inv_skip (R : Run E base ops σ rf lf Vf mf) (hg : E.P.globals.size ≤ (σ 0).next) (ht : TWF (· < (σ 0).next) (σ 0)) (I : Inv E base ops σ Vf mf μ0 κ0 w0 S μ κ a w) (ho : ops[i]? = some o) (hi : ¬ S i)
    (hr : ∀ e ∈ o.after, Region.binds .any e = true → S e.on) (hd : ∀ d, o.dst = some d → d < (σ i).size) (hV : Vf i = []) (h1 : σ (i + 1) = putS (σ i) o.dst undef (σ i).heap (σ i).next big) :
    Inv E base ops σ Vf mf μ0 κ0 w0 (plus S i) μ κ (a.put o.dst undef) w := by
  have hlt := ltO ho
  obtain ⟨HS, c, q3, q4, q5, q6⟩ := I.hs
  obtain ⟨t1, t2, t3⟩ := I.slots R hg ht ho hi (μ' := μ) (κ' := κ) (u := undef) hd (fun _ _ => ⟨rfl, rfl⟩) fun t e => by rw [h1, getTmp_put, if_pos e]; simp
  have noown : ∀ k, ¬ own σ i k := fun k hk => by
    have a := hk.1; have b := hk.2; rw [h1, putS_next] at b; omega
  have notouch : ∀ k, ¬ touch σ Vf mf i k := fun k hk => by
    rcases hk with hk | ⟨_, b, hb⟩
    · exact noown k hk
    · rw [hV] at hb; simp [getBlk] at hb
  have hseen : ∀ k, seen σ (plus S i) k ↔ seen σ S k := fun k => ⟨fun h => (own_plus h).resolve_right (noown k), fun h => seen_plus (.inl h)⟩
  refine ⟨plus_shut I.shut ho hr, fun j hj => hj.elim (I.dom j) fun e => by omega, ⟨HS, c, fun k hk => ?_, fun k b => by rw [q4 k b, hseen], q5.mono fun k hk => (hseen k).2 hk, q6⟩, t1, t2, t3, by rw [df_put]; exact I.df, I.nm, fun m k hm hk => ?_, I.hsz, I.fr, I.nd⟩
  · obtain ⟨c1, c2⟩ := q3 k ((hseen k).1 hk)
    refine ⟨c1, fun m hm htm => ?_⟩
    rw [← c2 m hm htm]
    constructor
    · rintro (h | rfl)
      · exact h
      · exact absurd htm (notouch k)
    · exact .inl
  · rcases hm with hm | rfl
    · exact I.nw m k hm hk
    · exact absurd hk (noown k)

/-- What stands in the blocks at which an operation looks. -/
theorem Inv.foot (I : Inv E base ops σ Vf mf μ0 κ0 w0 S μ κ a w) (R : Run E base ops σ rf lf Vf mf) (hg : E.P.globals.size ≤ (σ 0).next) (ht : TWF (· < (σ 0).next) (σ 0)) (ho : ops[i]? = some o) (hi : ¬ S i) (hr : ∀ e ∈ o.after, Region.binds .any e = true → S e.on)
    {k c : Nat} {b : Blk} (hb : getBlk (Vf i) k = some b) (hc : c ≤ ops.length) (hc2 : ∀ m, m < ops.length → touch σ Vf mf m k → (S m ↔ m < c)) : seen σ S k ∧ getBlk (σ c).heap k = some b := by
  have hlt := ltO ho
  obtain ⟨f1, f2, f3⟩ := R.foot hlt hb
  refine ⟨PA_seen (fun j hj => I.ahead ho hr hj) f2, ?_⟩
  rcases Nat.le_total c i with hle | hle
  · rw [← R.heapN hg ht (i := c) i hle (by omega) fun m m1 m2 hm => ?_]
    · exact f1
    · rcases R.ordV hlt (by omega) (by omega) hm hb with h | h
      · have := (hc2 m (by omega) hm).1 (I.ahead ho hr h.2); omega
      · omega
  · rw [R.heapN hg ht (i := i) c hle hc fun m m1 m2 hm => ?_]
    · exact f1
    · have hS := (hc2 m (by omega) hm).2 m2
      have hne : i ≠ m := fun e => hi (e ▸ hS)
      rcases R.ordV hlt (by omega) hne hm hb with h | h
      · omega
      · exact hi (I.back hS h.2)

/-- After an operation: what it touches is told anew, all else as before. -/
theorem inv_put (R : Run E base ops σ rf lf Vf mf) (hg : E.P.globals.size ≤ (σ 0).next) (ht : TWF (· < (σ 0).next) (σ 0)) (I : Inv E base ops σ Vf mf μ0 κ0 w0 S μ κ a w) (ho : ops[i]? = some o) (hi : ¬ S i)
    (hr : ∀ e ∈ o.after, Region.binds .any e = true → S e.on) (hd : ∀ d, o.dst = some d → d < (σ i).size) {μ' κ' : Nat → Nat} {u : Value} {w' : World} {HT : Heap}
    (hag : ∀ k, seen σ S k → μ' k = μ k ∧ κ' k = κ k) (hnm : ∀ k, (k < (σ 0).next ∨ (σ ops.length).next ≤ k) → μ' k = μ k ∧ κ' k = κ k) (hu : ∀ t, o.dst = some t → u = renV μ' κ' (getTmp (σ (i + 1)).tmps t))
    (hsz : w.heap.size ≤ w'.heap.size) (hfr : ∀ b, b < w.heap.size → (∀ k, Wr (Vf i) (mf i) k → μ k ≠ b) → w'.heap[b]? = w.heap[b]?)
    (hnw : ∀ k, own σ i k → w.heap.size ≤ μ' k ∨ ∃ j, Wr (Vf i) (mf i) j ∧ μ' k = μ j)
    (hT : ∀ k b, getBlk HT k = some b ↔ touch σ Vf mf i k ∧ getBlk (σ (i + 1)).heap k = some b) (hrel : Rel E.P base μ' κ' HT w') :
    Inv E base ops σ Vf mf μ0 κ0 w0 (plus S i) μ' κ' (a.put o.dst u) w' := by
  have hlt := ltO ho
  obtain ⟨HS, c, q3, q4, q5, q6⟩ := I.hs
  obtain ⟨t1, t2, t3⟩ := I.slots R hg ht ho hi (u := u) hd hag hu
  have dec : ∀ k, touch σ Vf mf i k ↔ (inW (Vf i) (mf i) k || newIn (σ i).next (σ (i + 1)).next k) = true := fun k => by
    rw [Bool.or_eq_true, inW_iff, newIn_iff]
    exact or_comm
  have hfoot : ∀ k b, getBlk (Vf i) k = some b → seen σ S k ∧ getBlk HS k = some b := fun k b hb => by
    have hs := PA_seen (σ := σ) (fun j hj => I.ahead ho hr hj) (R.foot hlt hb).2.1
    obtain ⟨c1, c2⟩ := q3 k hs
    have := I.foot R hg ht ho hi hr hb c1 c2
    exact ⟨hs, (q4 k b).2 this⟩
  have hsT : ∀ k, touch σ Vf mf i k → seen σ (plus S i) k := fun k hk => by
    rcases hk with hk | ⟨_, b, hb⟩
    · exact seen_plus (.inr hk)
    · exact seen_plus (.inl (hfoot k b hb).1)
  have hsN : ∀ k, ¬ touch σ Vf mf i k → seen σ (plus S i) k → seen σ S k := fun k hk h => (own_plus h).resolve_right fun h => hk (.inl h)
  obtain ⟨HN, hget⟩ : ∃ HN : Heap, ∀ k, (touch σ Vf mf i k → getBlk HN k = getBlk HT k) ∧ (¬ touch σ Vf mf i k → getBlk HN k = getBlk HS k) := by
    refine ⟨HT ++ keepH (fun k => !(inW (Vf i) (mf i) k || newIn (σ i).next (σ (i + 1)).next k)) HS, fun k => ⟨fun hk => ?_, fun hk => ?_⟩⟩
    · rw [getBlk_append, getBlk_keepH, (dec k).1 hk]; simp
    · have h0 : getBlk HT k = none := by
        cases hgb : getBlk HT k with
        | none => rfl
        | some b => exact absurd ((hT k b).1 hgb).1 hk
      have h1 : (inW (Vf i) (mf i) k || newIn (σ i).next (σ (i + 1)).next k) = false := by
        cases hc : (inW (Vf i) (mf i) k || newIn (σ i).next (σ (i + 1)).next k) with
        | false => rfl
        | true => exact absurd ((dec k).2 hc) hk
      rw [getBlk_append, h0, Option.none_or, getBlk_keepH, h1]; simp
  obtain ⟨c', hc'⟩ : ∃ c' : Nat → Nat, ∀ k, (touch σ Vf mf i k → c' k = i + 1) ∧ (¬ touch σ Vf mf i k → c' k = c k) :=
    ⟨fun k => if (inW (Vf i) (mf i) k || newIn (σ i).next (σ (i + 1)).next k) = true then i + 1 else c k, fun k => ⟨fun h => if_pos ((dec k).1 h), fun h => if_neg fun h2 => h ((dec k).2 h2)⟩⟩
  refine ⟨plus_shut I.shut ho hr, fun j hj => hj.elim (I.dom j) fun e => by omega,
    ⟨HN, c', fun k hk => ?_, fun k b => ?_, fun k b hb => ?_, ⟨hrel.below, fun k b hb => ?_, fun k j x y hx hy e => ?_, hrel.glob, hrel.gsz⟩⟩,
    t1, t2, t3, by rw [df_put]; exact I.df, fun k hk => ?_, fun m k hm hk => ?_, Nat.le_trans I.hsz hsz, fun b hb hh => ?_, I.nd⟩
  · by_cases hk2 : touch σ Vf mf i k
    · rw [(hc' k).1 hk2]
      refine ⟨by omega, fun m hm htm => ⟨?_, fun h => ?_⟩⟩
      · rintro (h | rfl)
        · by_cases e : i = m
          · omega
          · rcases R.ord hlt hm e htm hk2 with h2 | h2
            · omega
            · exact absurd (I.back h h2.2) hi
        · omega
      · by_cases e : i = m
        · exact .inr e.symm
        · rcases R.ord hlt hm e htm hk2 with h2 | h2
          · exact .inl (I.ahead ho hr h2.2)
          · omega
    · rw [(hc' k).2 hk2]
      obtain ⟨c1, c2⟩ := q3 k (hsN k hk2 hk)
      refine ⟨c1, fun m hm htm => ?_⟩
      rw [← c2 m hm htm]
      constructor
      · rintro (h | rfl)
        · exact h
        · exact absurd htm hk2
      · exact .inl
  · by_cases hk2 : touch σ Vf mf i k
    · rw [(hc' k).1 hk2, (hget k).1 hk2, hT]
      exact ⟨fun h => ⟨hsT k hk2, h.2⟩, fun h => ⟨hk2, h.2⟩⟩
    · rw [(hc' k).2 hk2, (hget k).2 hk2, q4]
      exact ⟨fun h => ⟨seen_plus (.inl h.1), h.2⟩, fun h => ⟨hsN k hk2 h.1, h.2⟩⟩
  · by_cases hk2 : touch σ Vf mf i k
    · rw [(hget k).1 hk2] at hb
      refine ⟨hsT k hk2, fun v hv => ?_⟩
      refine ((R.wfV hg ht i o ho).2.1 k b hk2 ((hT k b).1 hb).2 v hv).mono fun j hj => ?_
      rcases hj with hj | hj
      · exact seen_plus (.inl (PA_seen (fun j hj => I.ahead ho hr hj) hj))
      · exact seen_plus (.inr hj)
    · rw [(hget k).2 hk2] at hb
      obtain ⟨h1, h2⟩ := q5 k b hb
      exact ⟨seen_plus (.inl h1), fun v hv => (h2 v hv).mono fun j hj => seen_plus (.inl hj)⟩
  · by_cases hk2 : touch σ Vf mf i k
    · rw [(hget k).1 hk2] at hb; exact hrel.blk k b hb
    · rw [(hget k).2 hk2] at hb
      obtain ⟨h1, h2⟩ := q5 k b hb
      obtain ⟨e1, e2⟩ := hag k h1
      refine (q6.blk k b hb).same e1 e2 (fun v hv => h2 v hv _ _ _ _ hag) (hfr _ (q6.blk k b hb).lt fun j hj e => ?_)
      obtain ⟨d, hd⟩ := hj.2
      have := q6.inj j k d b (hfoot j d hd).2 hb e
      subst this
      exact hk2 (.inr hj)
  · have cross : ∀ k j x y, touch σ Vf mf i k → ¬ touch σ Vf mf i j → getBlk HT k = some x → getBlk HS j = some y → μ' k ≠ μ' j := by
      intro k j x y hk hj hx hy e
      obtain ⟨e1, e2⟩ := hag j (q5 j y hy).1
      have hjl := (q6.blk j y hy).lt
      have hwr : ∀ l, Wr (Vf i) (mf i) l → μ l = μ j → False := fun l hl e => by
        obtain ⟨d, hd⟩ := hl.2
        have := q6.inj l j d y (hfoot l d hd).2 hy e
        subst this
        exact hj (.inr hl)
      rcases hk with hk | hk
      · rcases hnw k hk with h | ⟨l, l1, l2⟩
        · omega
        · exact hwr l l1 (by omega)
      · obtain ⟨d, hd⟩ := hk.2
        have := (hag k (hfoot k d hd).1).1
        exact hwr k hk (by omega)
    by_cases hk2 : touch σ Vf mf i k
    · rw [(hget k).1 hk2] at hx
      by_cases hj2 : touch σ Vf mf i j
      · rw [(hget j).1 hj2] at hy; exact hrel.inj k j x y hx hy e
      · rw [(hget j).2 hj2] at hy; exact absurd e (cross k j x y hk2 hj2 hx hy)
    · rw [(hget k).2 hk2] at hx
      by_cases hj2 : touch σ Vf mf i j
      · rw [(hget j).1 hj2] at hy; exact absurd e.symm (cross j k y x hj2 hk2 hy hx)
      · rw [(hget j).2 hj2] at hy
        have a1 := (hag k (q5 k x hx).1).1
        have a2 := (hag j (q5 j y hy).1).1
        exact q6.inj k j x y hx hy (by omega)
  · have a1 := hnm k hk
    have a2 := I.nm k hk
    exact ⟨a1.1.trans a2.1, a1.2.trans a2.2⟩
  · rcases hm with hm | rfl
    · rw [(hag k (.inr ⟨m, hm, hk⟩)).1]; exact I.nw m k hm hk
    · rcases hnw k hk with h | ⟨j, j1, j2⟩
      · exact .inl (Nat.le_trans I.hsz h)
      · obtain ⟨d, hd⟩ := j1.2
        rcases (hfoot j d hd).1 with h | ⟨l, hl, h⟩
        · exact .inr ⟨j, R.wr_mw hlt j1, h, by rw [j2, (I.nm j (.inl h)).1]⟩
        · rw [j2]; exact I.nw l j hl h
  · rw [hfr b (Nat.lt_of_lt_of_le hb I.hsz) fun j hj => ?_, I.fr b hb hh]
    obtain ⟨d, hd⟩ := hj.2
    rcases (hfoot j d hd).1 with h | ⟨l, hl, h⟩
    · rw [(I.nm j (.inl h)).1]; exact hh j (R.wr_mw hlt hj) h
    · rcases I.nw l j hl h with h | ⟨m, m1, m2, m3⟩
      · omega
      · rw [m3]; exact hh m m1 m2

end
end Go.Pe
