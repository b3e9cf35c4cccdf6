/-
  The evaluator's soundness, eleventh part: regions whose order is drawn: every order.
  The evaluator's soundness, twelfth part: regions whose order is drawn: each operation, and the whole.
  The evaluator's soundness, thirteenth part: code; functions; the evaluator is right.
  The evaluator's last part: from what is reckoned to a contract.
  Rules for functions; an environment out of rules; tables; the close of a law that is true for every input.
  Rules for what the model runs in place: bits.Add64, bits.Sub64, bytealg.CountString, bytealg.IndexByteString, abi.NoEscape.
-/
import Derived.Test.YthmogphlnjpakaaGreatDoorPeI1
import Derived.Laws.Sem
import Derived.Defers
import Derived.Carry
import Derived.ChangeSame
import Derived.OpenShut
import Derived.Lib.LaidTab
import Derived.Lib.Bytealg
import Derived.Laws.Externs

namespace Go.Pe
open Go Go.RowKit
section
variable {E : Env} {base : World} {ops : List Oper} {σ : Nat → St} {rf : Nat → List (Nat × Nat × Nat)} {lf : Nat → Recs} {Vf : Nat → Heap} {mf : Nat → Nat}
def seen (σ : Nat → St) (S : Nat → Prop) (k : Nat) : Prop := k < (σ 0).next ∨ ∃ m, S m ∧ own σ m k
structure Inv (E : Env) (base : World) (ops : List Oper) (σ : Nat → St) (Vf : Nat → Heap) (mf : Nat → Nat) (μ0 κ0 : Nat → Nat) (w0 : World) (S : Nat → Prop) (μ κ : Nat → Nat) (a : Act) (w : World) : Prop where
  shut : Shut ops S
  dom : ∀ i, S i → i < ops.length
  hs : ∃ (HS : Heap) (c : Nat → Nat), (∀ k, seen σ S k → c k ≤ ops.length ∧ ∀ m, m < ops.length → touch σ Vf mf m k → (S m ↔ m < c k)) ∧
    (∀ k b, getBlk HS k = some b ↔ seen σ S k ∧ getBlk (σ (c k)).heap k = some b) ∧ HWF (seen σ S) HS ∧ Rel E.P base μ κ HS w
  sz : a.tmps.size = (σ 0).size
  s1 : ∀ (j : Nat) o t, S j → ops[j]? = some o → o.dst = some t → a.tmps.getD t undef = renV μ κ (getTmp (σ (j + 1)).tmps t)
  s2 : ∀ t, (∀ (j : Nat) o, S j → ops[j]? = some o → o.dst ≠ some t) → ToldE E (σ 0) t → a.tmps.getD t undef = renV μ κ (getTmp (σ 0).tmps t)
  df : a.defers = (σ 0).df.map (defOf μ0 κ0)
  nm : ∀ k, (k < (σ 0).next ∨ (σ ops.length).next ≤ k) → μ k = μ0 k ∧ κ k = κ0 k
  nw : ∀ m k, S m → own σ m k → w0.heap.size ≤ μ k ∨ ∃ j, (σ ops.length).mw ≤ j ∧ j < (σ 0).next ∧ μ k = μ0 j
  hsz : w0.heap.size ≤ w.heap.size
  fr : ∀ b, b < w0.heap.size → (∀ k, (σ ops.length).mw ≤ k → k < (σ 0).next → μ0 k ≠ b) → w.heap[b]? = w0.heap[b]?
  nd : ∀ t ∈ needs ops ops, ToldE E (σ 0) t
variable {μ0 κ0 μ κ : Nat → Nat} {w0 w : World} {S : Nat → Prop} {a : Act} {i : Nat} {o : Oper}
def plus (S : Nat → Prop) (i : Nat) : Nat → Prop := fun j => S j ∨ j = i
theorem plus_shut (hS : Shut ops S) (ho : ops[i]? = some o) (hr : ∀ e ∈ o.after, Region.binds .any e = true → S e.on) : Shut ops (plus S i) := by
  intro j p hp hj e he hb
  rcases hj with hj | rfl
  · exact .inl (hS j p hp hj e he hb)
  · rw [ho] at hp; cases hp
    exact .inl (hr e he hb)
theorem Inv.ahead (I : Inv E base ops σ Vf mf μ0 κ0 w0 S μ κ a w) (ho : ops[i]? = some o) (hr : ∀ e ∈ o.after, Region.binds .any e = true → S e.on) {j : Nat} (hj : j ∈ anc ops i) : S j := anc_shut I.shut i o ho hr j hj
theorem Inv.back (I : Inv E base ops σ Vf mf μ0 κ0 w0 S μ κ a w) {j : Nat} (hS : S j) (hj : i ∈ anc ops j) : S i := by
  obtain ⟨p, hp⟩ := getO (I.dom j hS)
  exact anc_in I.shut hp hS hj
theorem PA_seen (h : ∀ j, j ∈ anc ops i → S j) {k : Nat} (hk : PA ops σ i k) : seen σ S k := by
  rcases hk with hk | ⟨m, hm, hk⟩
  · exact .inl hk
  · exact .inr ⟨m, h m hm, hk⟩
theorem needs_mem {all : List Oper} : ∀ (l : List Oper) (i : Nat) (o : Oper) (t : Nat), l[i]? = some o → t ∈ guardSlot all o ++ tmpsOf o.op.operands.toList → t ∈ needs all l ∨ ∃ (j : Nat) (p : Oper), j < i ∧ l[j]? = some p ∧ p.dst = some t := by
  intro l
  induction l with
  | nil => intro i o t h; simp at h
  | cons q l ih =>
    intro i o t h ht
    cases i with
    | zero =>
      simp only [List.getElem?_cons_zero, Option.some.injEq] at h
      subst h
      exact .inl (by unfold needs; exact List.mem_append_left _ ht)
    | succ i =>
      rw [List.getElem?_cons_succ] at h
      rcases ih i o t h ht with h1 | ⟨j, p, h1, h2, h3⟩
      · by_cases hq : q.dst = some t
        · exact .inr ⟨0, q, by omega, by simp, hq⟩
        · refine .inl ?_
          unfold needs
          refine List.mem_append_right _ (List.mem_filter.2 ⟨h1, ?_⟩)
          unfold dstIs
          cases hd : q.dst with
          | none => rfl
          | some d =>
            have : d ≠ t := fun e => hq (by rw [hd, e])
            show (!Nat.beq d t) = true
            cases hb : Nat.beq d t with
            | true => exact absurd (beq_true hb) this
            | false => rfl
      · exact .inr ⟨j + 1, p, by omega, by rw [List.getElem?_cons_succ]; exact h2, h3⟩
theorem Inv.slot (I : Inv E base ops σ Vf mf μ0 κ0 w0 S μ κ a w) (R : Run E base ops σ rf lf Vf mf) (ho : ops[i]? = some o) (hi : ¬ S i) (hr : ∀ e ∈ o.after, Region.binds .any e = true → S e.on) {t : Nat}
    (hto : t ∈ guardSlot ops o ++ tmpsOf o.op.operands.toList) (ht : ∀ (j : Nat) p, ops[j]? = some p → p.dst = some t → j ∈ anc ops i ∨ i = j ∨ i ∈ anc ops j) : a.tmps.getD t undef = renV μ κ (getTmp (σ i).tmps t) := by
  have hlt := ltO ho
  by_cases hex : ∃ (j : Nat) (p : Oper), S j ∧ ops[j]? = some p ∧ p.dst = some t
  · obtain ⟨j, p, hj, hp, hd⟩ := hex
    rw [I.s1 j p t hj hp hd]
    rcases ht j p hp hd with h | h | h
    · rw [R.slotB hp hd (anc_lt i j hlt h) (by omega)]
    · subst h; exact absurd hj hi
    · exact absurd (anc_in I.shut hp hj h) hi
  · have hfirst : ToldE E (σ 0) t := by
      rcases needs_mem ops i o t ho hto with h | ⟨j, p, hj, hp, hd⟩
      · exact I.nd t h
      · rcases ht j p hp hd with h | h | h
        · exact absurd ⟨j, p, I.ahead ho hr h, hp, hd⟩ hex
        · omega
        · have := anc_lt j i (ltO hp) h; omega
    rw [I.s2 t (fun j p hj hp e => hex ⟨j, p, hj, hp, e⟩) hfirst, R.slotA (i := 0) i (Nat.zero_le _) (by omega) fun m p _ hm hp e => ?_]
    rcases ht m p hp e with h | h | h
    · exact hex ⟨m, p, I.ahead ho hr h, hp, e⟩
    · omega
    · have := anc_lt m i (by omega) h; omega
theorem Inv.wanted (I : Inv E base ops σ Vf mf μ0 κ0 w0 S μ κ a w) (R : Run E base ops σ rf lf Vf mf) (ho : ops[i]? = some o) (hi : ¬ S i) (hr : ∀ e ∈ o.after, Region.binds .any e = true → S e.on) :
    Region.wanted o (yielded ops.toArray a.tmps) = Region.wanted o (guardV ops (σ i).tmps) := by
  refine wanted_congr fun j b hg => guard_gen (μ := μ) (κ := κ) fun p d hp hd => ?_
  have hs : d ∈ guardSlot ops o ++ tmpsOf o.op.operands.toList := List.mem_append_left _ (by
    unfold guardSlot
    rw [hg]
    simp [hp, hd])
  rw [nth_eq] at hp
  refine I.slot R ho hi hr hs fun l q hq hqd => .inl ?_
  have := R.static.dst j p l q d hp hq hd hqd
  subst this
  exact R.static.gd i o j b ho hg
theorem Inv.opd (I : Inv E base ops σ Vf mf μ0 κ0 w0 S μ κ a w) (R : Run E base ops σ rf lf Vf mf) (ho : ops[i]? = some o) (hi : ¬ S i) (hr : ∀ e ∈ o.after, Region.binds .any e = true → S e.on) :
    ∀ x ∈ o.op.operands.toList, a.eval x = renV μ κ (evalO (σ i).tmps x) := by
  intro x hx
  obtain ⟨HS, c, _, _, _, hrel⟩ := I.hs
  refine eval_gen hrel.glob (fun t e => ?_) (List.all_eq_true.1 (R.opers i o ho) x hx)
  subst e
  exact I.slot R ho hi hr (List.mem_append_right _ (mem_tmpsOf hx)) fun j p hp hd => R.static.opd i o t j p ho hx hp hd
theorem own_plus {k : Nat} (h : seen σ (plus S i) k) : seen σ S k ∨ own σ i k := by
  rcases h with h | ⟨m, h | rfl, hk⟩
  · exact .inl (.inl h)
  · exact .inl (.inr ⟨m, h, hk⟩)
  · exact .inr hk
theorem seen_plus {k : Nat} (h : seen σ S k ∨ own σ i k) : seen σ (plus S i) k := by
  rcases h with (h | ⟨m, h, hk⟩) | hk
  · exact .inl h
  · exact .inr ⟨m, .inl h, hk⟩
  · exact .inr ⟨i, .inr rfl, hk⟩
theorem Inv.not_own (I : Inv E base ops σ Vf mf μ0 κ0 w0 S μ κ a w) (R : Run E base ops σ rf lf Vf mf) (hlt : i < ops.length) (hi : ¬ S i) {k : Nat} (hk : seen σ S k) : ¬ own σ i k := by
  intro hown
  rcases hk with hk | ⟨m, hm, hk⟩
  · have := R.own_ge hlt hown; omega
  · have := R.own_inj (I.dom m hm) hlt hk hown
    subst this; exact hi hm
theorem Inv.slot_wf (I : Inv E base ops σ Vf mf μ0 κ0 w0 S μ κ a w) (R : Run E base ops σ rf lf Vf mf) (hg : E.P.globals.size ≤ (σ 0).next) (ht : TWF (· < (σ 0).next) (σ 0)) {j : Nat} {p : Oper} {t : Nat} (hj : S j) (hp : ops[j]? = some p) (hd : p.dst = some t) :
    WF (seen σ S) (getTmp (σ (j + 1)).tmps t) :=
  ((R.wfV hg ht j p hp).1 t hd).mono fun k hk => by
    rcases hk with hk | hk
    · exact PA_seen (fun m hm => anc_in I.shut hp hj hm) hk
    · exact .inr ⟨j, hj, hk⟩
theorem Inv.slots (I : Inv E base ops σ Vf mf μ0 κ0 w0 S μ κ a w) (R : Run E base ops σ rf lf Vf mf) (hg : E.P.globals.size ≤ (σ 0).next) (ht : TWF (· < (σ 0).next) (σ 0)) (ho : ops[i]? = some o) (hi : ¬ S i) {μ' κ' : Nat → Nat} {u : Value}
    (hd : ∀ d, o.dst = some d → d < (σ i).size) (hag : ∀ k, seen σ S k → μ' k = μ k ∧ κ' k = κ k) (hu : ∀ t, o.dst = some t → u = renV μ' κ' (getTmp (σ (i + 1)).tmps t)) :
    (a.put o.dst u).tmps.size = (σ 0).size ∧
    (∀ (j : Nat) p t, plus S i j → ops[j]? = some p → p.dst = some t → (a.put o.dst u).tmps.getD t undef = renV μ' κ' (getTmp (σ (j + 1)).tmps t)) ∧
    (∀ t, (∀ (j : Nat) p, plus S i j → ops[j]? = some p → p.dst ≠ some t) → ToldE E (σ 0) t → (a.put o.dst u).tmps.getD t undef = renV μ' κ' (getTmp (σ 0).tmps t)) := by
  have hsz := I.sz
  have hsi := (R.mw_le (i := 0) i (Nat.zero_le _) (by have := ltO ho; omega)).2
  have hd' : ∀ d, o.dst = some d → d < a.tmps.size := fun d h => by rw [hsz, ← hsi]; exact hd d h
  refine ⟨by rw [size_put]; exact hsz, fun j p t hj hp hdt => ?_, fun t hno hto => ?_⟩
  · rw [getD_put a o.dst u t hd']
    split
    · rename_i e
      have := R.static.dst i o j p t ho hp e hdt
      subst this
      exact hu t e
    · rename_i e
      rcases hj with hj | rfl
      · rw [I.s1 j p t hj hp hdt]
        exact (I.slot_wf R hg ht hj hp hdt _ _ _ _ fun k hk => hag k hk).symm
      · rw [ho] at hp; cases hp; exact absurd hdt e
  · rw [getD_put a o.dst u t hd', if_neg (hno i o (.inr rfl) ho), I.s2 t (fun j p hj hp => hno j p (.inl hj) hp) hto]
    exact (ht.2 t _ _ _ _ fun k hk => hag k (.inl hk)).symm
theorem inv_start (hr : StRel E base μ0 κ0 (σ 0) a w0) (hnd : ∀ t ∈ needs ops ops, ToldE E (σ 0) t) : Inv E base ops σ Vf mf μ0 κ0 w0 (fun _ => False) μ0 κ0 a w0 := by
  refine ⟨fun _ _ _ h => h.elim, fun _ h => h.elim, ⟨(σ 0).heap, fun _ => 0, fun k _ => ⟨Nat.zero_le _, fun m _ _ => ⟨False.elim, fun h => absurd h (Nat.not_lt_zero _)⟩⟩, fun k b => ⟨fun h => ⟨.inl (hr.wf.1 k b h).1, h⟩, fun h => h.2⟩,
    hr.wf.1.mono fun k hk => .inl hk, hr.rel⟩, hr.sz, fun _ _ _ h => h.elim, fun t _ => hr.tmp t, hr.df, fun _ _ => ⟨rfl, rfl⟩, fun _ _ h => h.elim, Nat.le_refl _, fun _ _ _ => rfl, hnd⟩
theorem inv_end (R : Run E base ops σ rf lf Vf mf) (hr : StRel E base μ0 κ0 (σ 0) a w0) {a' : Act} (I : Inv E base ops σ Vf mf μ0 κ0 w0 S μ κ a' w) (hall : ∀ i, i < ops.length → S i) : StOut E base (σ 0) (σ ops.length) μ0 κ0 w0 a' w := by
  obtain ⟨HS, c, h1, h4, h5, h6⟩ := I.hs
  have hnext := R.next_le (i := 0) ops.length (Nat.zero_le _) (Nat.le_refl _)
  have hN := R.twf hr.gl hr.wf (i := ops.length) (Nat.le_refl _)
  refine ⟨μ, κ, ⟨hnext, I.nm, I.hsz, fun b hb hh => I.fr b hb hh, fun k k1 k2 => ?_⟩, h6.fewer fun k b hb => ?_, I.sz.trans (R.mw_le (i := 0) ops.length (Nat.zero_le _) (Nat.le_refl _)).2.symm, fun t hto => ?_, by
    rw [R.df ops.length (Nat.le_refl _), defs_same hr.dw fun k hk => I.nm k (.inl hk)]
    exact I.df, by
    rw [R.df ops.length (Nat.le_refl _)]
    exact hr.dw.mono fun k hk => Nat.lt_of_lt_of_le hk hnext, hN, Nat.le_trans hr.gl hnext⟩
  · rcases R.own_ex ops.length (Nat.le_refl _) k2 with h | ⟨m, hm, h⟩
    · omega
    · exact I.nw m k (hall m hm) h
  · have hk := (hN.1 k b hb).1
    have hseen : seen σ S k := by
      rcases R.own_ex ops.length (Nat.le_refl _) hk with h | ⟨m, hm, h⟩
      · exact .inl h
      · exact .inr ⟨m, hall m hm, h⟩
    obtain ⟨c1, c2⟩ := h1 k hseen
    refine (h4 k b).2 ⟨hseen, ?_⟩
    rw [← R.heapN hr.gl hr.wf (i := c k) ops.length c1 (Nat.le_refl _) fun m m1 m2 hm => ?_]
    · exact hb
    · have := (c2 m m2 hm).1 (hall m m2); omega
  · by_cases hex : ∃ (j : Nat) (p : Oper), ops[j]? = some p ∧ p.dst = some t
    · obtain ⟨j, p, hp, hd⟩ := hex
      rw [I.s1 j p t (hall j (ltO hp)) hp hd, R.slotB hp hd (ltO hp) (Nat.le_refl _)]
    · rw [I.s2 t (fun j p _ hp e => hex ⟨j, p, hp, e⟩) (R.toldA ops.length (Nat.le_refl _) (fun m p _ hp e => hex ⟨m, p, hp, e⟩) hto), R.slotA (i := 0) ops.length (Nat.zero_le _) (Nat.le_refl _) fun m p _ _ hp e => hex ⟨m, p, hp, e⟩]
theorem inv_skip (R : Run E base ops σ rf lf Vf mf) (hg : E.P.globals.size ≤ (σ 0).next) (ht : TWF (· < (σ 0).next) (σ 0)) (I : Inv E base ops σ Vf mf μ0 κ0 w0 S μ κ a w) (ho : ops[i]? = some o) (hi : ¬ S i)
    (hr : ∀ e ∈ o.after, Region.binds .any e = true → S e.on) (hd : ∀ d, o.dst = some d → d < (σ i).size) (hV : Vf i = []) (h1 : σ (i + 1) = putS (σ i) o.dst undef (σ i).heap (σ i).next big) :
    Inv E base ops σ Vf mf μ0 κ0 w0 (plus S i) μ κ (a.put o.dst undef) w := by
  have hlt := ltO ho
  obtain ⟨HS, c, q3, q4, q5, q6⟩ := I.hs
  obtain ⟨t1, t2, t3⟩ := I.slots R hg ht ho hi (μ' := μ) (κ' := κ) (u := undef) hd (fun _ _ => ⟨rfl, rfl⟩) fun t e => by rw [h1, getTmp_put, if_pos e]; simp
  have noown : ∀ k, ¬ own σ i k := fun k hk => by
    have a := hk.1; have b := hk.2; rw [h1, putS_next] at b; omega
  have notouch : ∀ k, ¬ touch σ Vf mf i k := fun k hk => by
    rcases hk with hk | ⟨_, b, hb⟩
    · exact noown k hk
    · rw [hV] at hb; simp [getBlk] at hb
  have hseen : ∀ k, seen σ (plus S i) k ↔ seen σ S k := fun k => ⟨fun h => (own_plus h).resolve_right (noown k), fun h => seen_plus (.inl h)⟩
  refine ⟨plus_shut I.shut ho hr, fun j hj => hj.elim (I.dom j) fun e => by omega, ⟨HS, c, fun k hk => ?_, fun k b => by rw [q4 k b, hseen], q5.mono fun k hk => (hseen k).2 hk, q6⟩, t1, t2, t3, by rw [df_put]; exact I.df, I.nm, fun m k hm hk => ?_, I.hsz, I.fr, I.nd⟩
  · obtain ⟨c1, c2⟩ := q3 k ((hseen k).1 hk)
    refine ⟨c1, fun m hm htm => ?_⟩
    rw [← c2 m hm htm]
    constructor
    · rintro (h | rfl)
      · exact h
      · exact absurd htm (notouch k)
    · exact .inl
  · rcases hm with hm | rfl
    · exact I.nw m k hm hk
    · exact absurd hk (noown k)
theorem Inv.foot (I : Inv E base ops σ Vf mf μ0 κ0 w0 S μ κ a w) (R : Run E base ops σ rf lf Vf mf) (hg : E.P.globals.size ≤ (σ 0).next) (ht : TWF (· < (σ 0).next) (σ 0)) (ho : ops[i]? = some o) (hi : ¬ S i) (hr : ∀ e ∈ o.after, Region.binds .any e = true → S e.on)
    {k c : Nat} {b : Blk} (hb : getBlk (Vf i) k = some b) (hc : c ≤ ops.length) (hc2 : ∀ m, m < ops.length → touch σ Vf mf m k → (S m ↔ m < c)) : seen σ S k ∧ getBlk (σ c).heap k = some b := by
  have hlt := ltO ho
  obtain ⟨f1, f2, f3⟩ := R.foot hlt hb
  refine ⟨PA_seen (fun j hj => I.ahead ho hr hj) f2, ?_⟩
  rcases Nat.le_total c i with hle | hle
  · rw [← R.heapN hg ht (i := c) i hle (by omega) fun m m1 m2 hm => ?_]
    · exact f1
    · rcases R.ordV hlt (by omega) (by omega) hm hb with h | h
      · have := (hc2 m (by omega) hm).1 (I.ahead ho hr h.2); omega
      · omega
  · rw [R.heapN hg ht (i := i) c hle hc fun m m1 m2 hm => ?_]
    · exact f1
    · have hS := (hc2 m (by omega) hm).2 m2
      have hne : i ≠ m := fun e => hi (e ▸ hS)
      rcases R.ordV hlt (by omega) hne hm hb with h | h
      · omega
      · exact hi (I.back hS h.2)
theorem inv_put (R : Run E base ops σ rf lf Vf mf) (hg : E.P.globals.size ≤ (σ 0).next) (ht : TWF (· < (σ 0).next) (σ 0)) (I : Inv E base ops σ Vf mf μ0 κ0 w0 S μ κ a w) (ho : ops[i]? = some o) (hi : ¬ S i)
    (hr : ∀ e ∈ o.after, Region.binds .any e = true → S e.on) (hd : ∀ d, o.dst = some d → d < (σ i).size) {μ' κ' : Nat → Nat} {u : Value} {w' : World} {HT : Heap}
    (hag : ∀ k, seen σ S k → μ' k = μ k ∧ κ' k = κ k) (hnm : ∀ k, (k < (σ 0).next ∨ (σ ops.length).next ≤ k) → μ' k = μ k ∧ κ' k = κ k) (hu : ∀ t, o.dst = some t → u = renV μ' κ' (getTmp (σ (i + 1)).tmps t))
    (hsz : w.heap.size ≤ w'.heap.size) (hfr : ∀ b, b < w.heap.size → (∀ k, Wr (Vf i) (mf i) k → μ k ≠ b) → w'.heap[b]? = w.heap[b]?)
    (hnw : ∀ k, own σ i k → w.heap.size ≤ μ' k ∨ ∃ j, Wr (Vf i) (mf i) j ∧ μ' k = μ j)
    (hT : ∀ k b, getBlk HT k = some b ↔ touch σ Vf mf i k ∧ getBlk (σ (i + 1)).heap k = some b) (hrel : Rel E.P base μ' κ' HT w') :
    Inv E base ops σ Vf mf μ0 κ0 w0 (plus S i) μ' κ' (a.put o.dst u) w' := by
  have hlt := ltO ho
  obtain ⟨HS, c, q3, q4, q5, q6⟩ := I.hs
  obtain ⟨t1, t2, t3⟩ := I.slots R hg ht ho hi (u := u) hd hag hu
  have dec : ∀ k, touch σ Vf mf i k ↔ (inW (Vf i) (mf i) k || newIn (σ i).next (σ (i + 1)).next k) = true := fun k => by
    rw [Bool.or_eq_true, inW_iff, newIn_iff]
    exact or_comm
  have hfoot : ∀ k b, getBlk (Vf i) k = some b → seen σ S k ∧ getBlk HS k = some b := fun k b hb => by
    have hs := PA_seen (σ := σ) (fun j hj => I.ahead ho hr hj) (R.foot hlt hb).2.1
    obtain ⟨c1, c2⟩ := q3 k hs
    have := I.foot R hg ht ho hi hr hb c1 c2
    exact ⟨hs, (q4 k b).2 this⟩
  have hsT : ∀ k, touch σ Vf mf i k → seen σ (plus S i) k := fun k hk => by
    rcases hk with hk | ⟨_, b, hb⟩
    · exact seen_plus (.inr hk)
    · exact seen_plus (.inl (hfoot k b hb).1)
  have hsN : ∀ k, ¬ touch σ Vf mf i k → seen σ (plus S i) k → seen σ S k := fun k hk h => (own_plus h).resolve_right fun h => hk (.inl h)
  obtain ⟨HN, hget⟩ : ∃ HN : Heap, ∀ k, (touch σ Vf mf i k → getBlk HN k = getBlk HT k) ∧ (¬ touch σ Vf mf i k → getBlk HN k = getBlk HS k) := by
    refine ⟨HT ++ keepH (fun k => !(inW (Vf i) (mf i) k || newIn (σ i).next (σ (i + 1)).next k)) HS, fun k => ⟨fun hk => ?_, fun hk => ?_⟩⟩
    · rw [getBlk_append, getBlk_keepH, (dec k).1 hk]; simp
    · have h0 : getBlk HT k = none := by
        cases hgb : getBlk HT k with
        | none => rfl
        | some b => exact absurd ((hT k b).1 hgb).1 hk
      have h1 : (inW (Vf i) (mf i) k || newIn (σ i).next (σ (i + 1)).next k) = false := by
        cases hc : (inW (Vf i) (mf i) k || newIn (σ i).next (σ (i + 1)).next k) with
        | false => rfl
        | true => exact absurd ((dec k).2 hc) hk
      rw [getBlk_append, h0, Option.none_or, getBlk_keepH, h1]; simp
  obtain ⟨c', hc'⟩ : ∃ c' : Nat → Nat, ∀ k, (touch σ Vf mf i k → c' k = i + 1) ∧ (¬ touch σ Vf mf i k → c' k = c k) :=
    ⟨fun k => if (inW (Vf i) (mf i) k || newIn (σ i).next (σ (i + 1)).next k) = true then i + 1 else c k, fun k => ⟨fun h => if_pos ((dec k).1 h), fun h => if_neg fun h2 => h ((dec k).2 h2)⟩⟩
  refine ⟨plus_shut I.shut ho hr, fun j hj => hj.elim (I.dom j) fun e => by omega,
    ⟨HN, c', fun k hk => ?_, fun k b => ?_, fun k b hb => ?_, ⟨hrel.below, fun k b hb => ?_, fun k j x y hx hy e => ?_, hrel.glob, hrel.gsz⟩⟩,
    t1, t2, t3, by rw [df_put]; exact I.df, fun k hk => ?_, fun m k hm hk => ?_, Nat.le_trans I.hsz hsz, fun b hb hh => ?_, I.nd⟩
  · by_cases hk2 : touch σ Vf mf i k
    · rw [(hc' k).1 hk2]
      refine ⟨by omega, fun m hm htm => ⟨?_, fun h => ?_⟩⟩
      · rintro (h | rfl)
        · by_cases e : i = m
          · omega
          · rcases R.ord hlt hm e htm hk2 with h2 | h2
            · omega
            · exact absurd (I.back h h2.2) hi
        · omega
      · by_cases e : i = m
        · exact .inr e.symm
        · rcases R.ord hlt hm e htm hk2 with h2 | h2
          · exact .inl (I.ahead ho hr h2.2)
          · omega
    · rw [(hc' k).2 hk2]
      obtain ⟨c1, c2⟩ := q3 k (hsN k hk2 hk)
      refine ⟨c1, fun m hm htm => ?_⟩
      rw [← c2 m hm htm]
      constructor
      · rintro (h | rfl)
        · exact h
        · exact absurd htm hk2
      · exact .inl
  · by_cases hk2 : touch σ Vf mf i k
    · rw [(hc' k).1 hk2, (hget k).1 hk2, hT]
      exact ⟨fun h => ⟨hsT k hk2, h.2⟩, fun h => ⟨hk2, h.2⟩⟩
    · rw [(hc' k).2 hk2, (hget k).2 hk2, q4]
      exact ⟨fun h => ⟨seen_plus (.inl h.1), h.2⟩, fun h => ⟨hsN k hk2 h.1, h.2⟩⟩
  · by_cases hk2 : touch σ Vf mf i k
    · rw [(hget k).1 hk2] at hb
      refine ⟨hsT k hk2, fun v hv => ?_⟩
      refine ((R.wfV hg ht i o ho).2.1 k b hk2 ((hT k b).1 hb).2 v hv).mono fun j hj => ?_
      rcases hj with hj | hj
      · exact seen_plus (.inl (PA_seen (fun j hj => I.ahead ho hr hj) hj))
      · exact seen_plus (.inr hj)
    · rw [(hget k).2 hk2] at hb
      obtain ⟨h1, h2⟩ := q5 k b hb
      exact ⟨seen_plus (.inl h1), fun v hv => (h2 v hv).mono fun j hj => seen_plus (.inl hj)⟩
  · by_cases hk2 : touch σ Vf mf i k
    · rw [(hget k).1 hk2] at hb; exact hrel.blk k b hb
    · rw [(hget k).2 hk2] at hb
      obtain ⟨h1, h2⟩ := q5 k b hb
      obtain ⟨e1, e2⟩ := hag k h1
      refine (q6.blk k b hb).same e1 e2 (fun v hv => h2 v hv _ _ _ _ hag) (hfr _ (q6.blk k b hb).lt fun j hj e => ?_)
      obtain ⟨d, hd⟩ := hj.2
      have := q6.inj j k d b (hfoot j d hd).2 hb e
      subst this
      exact hk2 (.inr hj)
  · have cross : ∀ k j x y, touch σ Vf mf i k → ¬ touch σ Vf mf i j → getBlk HT k = some x → getBlk HS j = some y → μ' k ≠ μ' j := by
      intro k j x y hk hj hx hy e
      obtain ⟨e1, e2⟩ := hag j (q5 j y hy).1
      have hjl := (q6.blk j y hy).lt
      have hwr : ∀ l, Wr (Vf i) (mf i) l → μ l = μ j → False := fun l hl e => by
        obtain ⟨d, hd⟩ := hl.2
        have := q6.inj l j d y (hfoot l d hd).2 hy e
        subst this
        exact hj (.inr hl)
      rcases hk with hk | hk
      · rcases hnw k hk with h | ⟨l, l1, l2⟩
        · omega
        · exact hwr l l1 (by omega)
      · obtain ⟨d, hd⟩ := hk.2
        have := (hag k (hfoot k d hd).1).1
        exact hwr k hk (by omega)
    by_cases hk2 : touch σ Vf mf i k
    · rw [(hget k).1 hk2] at hx
      by_cases hj2 : touch σ Vf mf i j
      · rw [(hget j).1 hj2] at hy; exact hrel.inj k j x y hx hy e
      · rw [(hget j).2 hj2] at hy; exact absurd e (cross k j x y hk2 hj2 hx hy)
    · rw [(hget k).2 hk2] at hx
      by_cases hj2 : touch σ Vf mf i j
      · rw [(hget j).1 hj2] at hy; exact absurd e.symm (cross j k y x hj2 hk2 hy hx)
      · rw [(hget j).2 hj2] at hy
        have a1 := (hag k (q5 k x hx).1).1
        have a2 := (hag j (q5 j y hy).1).1
        exact q6.inj k j x y hx hy (by omega)
  · have a1 := hnm k hk
    have a2 := I.nm k hk
    exact ⟨a1.1.trans a2.1, a1.2.trans a2.2⟩
  · rcases hm with hm | rfl
    · rw [(hag k (.inr ⟨m, hm, hk⟩)).1]; exact I.nw m k hm hk
    · rcases hnw k hk with h | ⟨j, j1, j2⟩
      · exact .inl (Nat.le_trans I.hsz h)
      · obtain ⟨d, hd⟩ := j1.2
        rcases (hfoot j d hd).1 with h | ⟨l, hl, h⟩
        · exact .inr ⟨j, R.wr_mw hlt j1, h, by rw [j2, (I.nm j (.inl h)).1]⟩
        · rw [j2]; exact I.nw l j hl h
  · rw [hfr b (Nat.lt_of_lt_of_le hb I.hsz) fun j hj => ?_, I.fr b hb hh]
    obtain ⟨d, hd⟩ := hj.2
    rcases (hfoot j d hd).1 with h | ⟨l, hl, h⟩
    · rw [(I.nm j (.inl h)).1]; exact hh j (R.wr_mw hlt hj) h
    · rcases I.nw l j hl h with h | ⟨m, m1, m2, m3⟩
      · omega
      · rw [m3]; exact hh m m1 m2
end
end Go.Pe

namespace Go.Pe
open Go Go.RowKit
section
variable {E : Env} {base : World} {ops : List Oper} {σ : Nat → St} {rf : Nat → List (Nat × Nat × Nat)} {lf : Nat → Recs} {Vf : Nat → Heap} {mf : Nat → Nat}
variable {μ0 κ0 μ κ : Nat → Nat} {w0 w : World} {S : Nat → Prop} {a : Act} {i : Nat} {o : Oper}
theorem Inv.below (_I : Inv E base ops σ Vf mf μ0 κ0 w0 S μ κ a w) (R : Run E base ops σ rf lf Vf mf) (hg : E.P.globals.size ≤ (σ 0).next) (ht : TWF (· < (σ 0).next) (σ 0)) (ho : ops[i]? = some o) :
    ∀ x ∈ o.op.operands.toList, WF (· < (σ i).next) (evalO (σ i).tmps x) := fun x hx =>
  (R.twf hg ht (i := i) (by have := ltO ho; omega)).eval (fun g hgg => Nat.lt_of_lt_of_le hgg (Nat.le_trans hg (R.next_le i (Nat.zero_le _) (by have := ltO ho; omega)))) (List.all_eq_true.1 (R.opers i o ho) x hx)
theorem wp_of_out {h' : Heap} {v : Value} {mw n n' : Nat} {N : Act → World → Prop} {Q : Exit → Act → World → Prop} (hout : OpOut E base h' v mw n n' μ κ w ((execOp a.eval o).run E.P w))
    (fin : ∀ u w', Out E base h' v mw n n' μ κ w u w' → N (a.put o.dst u) w') : o.wp E.P a w N Q := by
  unfold Oper.wp
  generalize (execOp a.eval o).run E.P w = r at *
  cases r with
  | halt x w' => exact hout.elim
  | ok nx w' =>
    cases nx with
    | value u => exact fin u w' hout
    | skip => exact fin _ w' hout
    | enter f args =>
      obtain ⟨rfl, hc⟩ := hout
      refine Calls.mono hc fun e w'' he => ?_
      obtain ⟨u, rfl, hu⟩ := he
      exact fin u w'' hu
    | _ => exact hout.elim
theorem inv_op (R : Run E base ops σ rf lf Vf mf) (hg : E.P.globals.size ≤ (σ 0).next) (ht : TWF (· < (σ 0).next) (σ 0)) (I : Inv E base ops σ Vf mf μ0 κ0 w0 S μ κ a w) (ho : ops[i]? = some o) (hi : ¬ S i)
    (hr : ∀ e ∈ o.after, Region.binds .any e = true → S e.on) (hd : ∀ d, o.dst = some d → d < (σ i).size) {v : Value} {h : Heap} {n : Nat} {H : Heap} {m : Nat} (h2 : OpSem E base o (evalO (σ i).tmps) (Vf i) (σ i).next v h n (mf i))
    (h4 : σ (i + 1) = putS (σ i) o.dst v H n m) (h5 : (∀ k b, getBlk (Vf i) k = some b → k < (σ i).next) → Merged (Vf i) (mf i) (σ i).next n h (σ i).heap H)
    (h6 : (σ i).next ≤ mf i ∨ (m ≤ mf i ∧ ∃ B, E.P.globals.size ≤ B ∧ B ≤ mf i ∧ B ≤ (σ i).next ∧ (∀ k b, getBlk (Vf i) k = some b → ∀ u, some u ∈ b.cells → WF (inD B (Vf i)) u) ∧ ∀ x ∈ o.op.operands.toList, WF (inD B (Vf i)) (evalO (σ i).tmps x)))
    {N : Act → World → Prop} {Q : Exit → Act → World → Prop} (hN : ∀ μ' κ' a' w', Inv E base ops σ Vf mf μ0 κ0 w0 (plus S i) μ' κ' a' w' → N a' w') : o.wp E.P a w N Q := by
  have hlt := ltO ho
  have hti := R.twf hg ht (i := i) (by omega)
  have hgi := Nat.le_trans hg (R.next_le i (Nat.zero_le _) (by omega))
  have h0i := R.next_le (i := 0) i (Nat.zero_le _) (by omega)
  obtain ⟨HS, c, q3, q4, q5, q6⟩ := I.hs
  have hn : (σ (i + 1)).next = n := by rw [h4, putS_next]
  have hnN : n ≤ (σ ops.length).next := by rw [← hn]; exact R.next_le _ (by omega) (Nat.le_refl _)
  have hM := R.merged hlt h5
  have hV : ∀ k b, getBlk (Vf i) k = some b → getBlk HS k = some b := fun k b hb => by
    have hs := PA_seen (σ := σ) (fun j hj => I.ahead ho hr hj) (R.foot hlt hb).2.1
    obtain ⟨c1, c2⟩ := q3 k hs
    exact (q4 k b).2 (I.foot R hg ht ho hi hr hb c1 c2)
  have hown : ∀ k, own σ i k ↔ (σ i).next ≤ k ∧ k < n := fun k => by unfold own; rw [hn]
  have hseen : ∀ k, seen σ S k → ¬ ((σ i).next ≤ k ∧ k < n) := fun k hk h => I.not_own R hlt hi hk ((hown k).2 h)
  have hVw : HWF (· < (σ i).next) (Vf i) := hti.1.sub fun k b hb => (R.foot hlt hb).1
  obtain ⟨HT, hT⟩ : ∃ HT : Heap, ∀ k b, getBlk HT k = some b ↔ touch σ Vf mf i k ∧ getBlk h k = some b := by
    refine ⟨keepH (fun k => inW (Vf i) (mf i) k || newIn (σ i).next (σ (i + 1)).next k) h, fun k b => ?_⟩
    have dec : (inW (Vf i) (mf i) k || newIn (σ i).next (σ (i + 1)).next k) = true ↔ touch σ Vf mf i k := by
      rw [Bool.or_eq_true, inW_iff, newIn_iff]
      exact or_comm
    rw [getBlk_keepH]
    split
    · rename_i hp; exact ⟨fun h => ⟨dec.1 hp, h⟩, fun h => h.2⟩
    · rename_i hp; exact ⟨fun h => (nomatch h), fun h => absurd (dec.2 h.1) hp⟩
  have hT2 : ∀ k b, getBlk HT k = some b ↔ touch σ Vf mf i k ∧ getBlk (σ (i + 1)).heap k = some b := fun k b => by
    rw [hT]
    constructor
    · rintro ⟨t1, t2⟩; exact ⟨t1, by rw [R.heapT hg ht hlt hn (by rw [h4, putS_heap]) hM t1]; exact t2⟩
    · rintro ⟨t1, t2⟩; exact ⟨t1, by rw [R.heapT hg ht hlt hn (by rw [h4, putS_heap]) hM t1] at t2; exact t2⟩
  rcases h6 with h6 | ⟨_, B, gB, g1, gN, g2, g3⟩
  · have hout := h2.2 μ κ w a.eval (q6.fewer hV) (I.opd R ho hi hr) hVw (I.below R hg ht ho) hgi
    refine wp_of_out hout fun u w' ⟨μ', κ', st, hu, hrel⟩ => hN μ' κ' _ _ ?_
    have hag : ∀ k, seen σ S k → μ' k = μ k ∧ κ' k = κ k := fun k hk => by
      have := hseen k hk
      exact st.ag k (by omega)
    refine inv_put R hg ht I ho hi hr hd hag (fun k hk => st.ag k (by omega)) (fun t e => by rw [h4, getTmp_put, if_pos e]; exact hu) st.sz (fun b hb _ => st.fr b hb fun j j1 j2 => by omega) (fun k hk => ?_) hT2 (hrel.fewer fun k b hb => ((hT k b).1 hb).2)
    rcases st.nw k ((hown k).1 hk).1 ((hown k).1 hk).2 with h | ⟨j, j1, j2, _⟩
    · exact .inl h
    · omega
  · have hDn : ∀ k, inD B (Vf i) k → k < (σ i).next := fun k hk => by
      rcases hk with hk | ⟨b, hb⟩
      · omega
      · exact (R.foot hlt hb).2.2
    obtain ⟨μ1, hμ1, hμ2⟩ : ∃ μ1 : Nat → Nat, (∀ k, inD B (Vf i) k → μ1 k = μ k) ∧ ∀ k, ¬ inD B (Vf i) k → w.heap.size ≤ μ1 k := by
      have dec : ∀ k, inB B (Vf i) k = true ↔ inD B (Vf i) k := fun k => by
        refine ⟨inB_iff, fun h => ?_⟩
        unfold inB
        split
        · rfl
        · rename_i hb
          rcases h with h | ⟨b, h⟩
          · have : Nat.blt k B = true := by simpa [Nat.blt_eq] using h
            rw [this] at hb; cases hb
          · exact hasB_iff.2 ⟨b, h⟩
      refine ⟨fun k => if inB B (Vf i) k = true then μ k else w.heap.size + k, fun k hk => if_pos ((dec k).2 hk), fun k hk => ?_⟩
      show _ ≤ if inB B (Vf i) k = true then μ k else w.heap.size + k
      rw [if_neg fun h => hk ((dec k).1 h)]
      omega
    have hcell : ∀ u : Value, WF (inD B (Vf i)) u → renV μ1 κ u = renV μ κ u := fun u hu => hu μ κ μ1 κ fun k hk => ⟨hμ1 k hk, rfl⟩
    have hrel1 : Rel E.P base μ1 κ (Vf i) w := by
      refine ⟨q6.below, fun k b hb => ?_, fun k j x y hx hy e => ?_, fun g hgg => by rw [hμ1 g (.inl (Nat.lt_of_lt_of_le hgg gB))]; exact q6.glob g hgg, q6.gsz⟩
      · exact (q6.blk k b (hV k b hb)).same (hμ1 k (.inr ⟨b, hb⟩)) rfl (fun u hu => hcell u (g2 k b hb u hu)) rfl
      · rw [hμ1 k (.inr ⟨x, hx⟩), hμ1 j (.inr ⟨y, hy⟩)] at e
        exact q6.inj k j x y (hV k x hx) (hV j y hy) e
    have hout := h2.2 μ1 κ w a.eval hrel1 (fun x hx => by rw [I.opd R ho hi hr x hx, hcell _ (g3 x hx)]) hVw (I.below R hg ht ho) hgi
    obtain ⟨w1, w2⟩ := h2.1.2 (inD B (Vf i)) hDn (fun g hgg => .inl (Nat.lt_of_lt_of_le hgg gB)) (fun y hy => by
        obtain ⟨x, hx, rfl⟩ := List.mem_map.1 hy
        exact g3 x hx) (fun k b hb => ⟨.inr ⟨b, hb⟩, g2 k b hb⟩)
    refine wp_of_out hout fun u w' ⟨μ', κ', st, hu, hrel⟩ => ?_
    obtain ⟨μ3, κ3, e1, e2⟩ : ∃ μ3 κ3 : Nat → Nat, (∀ k, (σ i).next ≤ k ∧ k < n → μ3 k = μ' k ∧ κ3 k = κ' k) ∧ ∀ k, ¬ ((σ i).next ≤ k ∧ k < n) → μ3 k = μ k ∧ κ3 k = κ k :=
      ⟨fun k => if (σ i).next ≤ k ∧ k < n then μ' k else μ k, fun k => if (σ i).next ≤ k ∧ k < n then κ' k else κ k, fun k hk => ⟨if_pos hk, if_pos hk⟩, fun k hk => ⟨if_neg hk, if_neg hk⟩⟩
    have hag : ∀ k, Dp (inD B (Vf i)) (σ i).next n k → μ3 k = μ' k ∧ κ3 k = κ' k := fun k hk => by
      by_cases hb : (σ i).next ≤ k ∧ k < n
      · exact e1 k hb
      · have hk := hk.resolve_right hb
        have hl := hDn k hk
        have a1 := e2 k hb
        have a2 := st.ag k (.inl hl)
        rw [a1.1, a1.2, a2.1, a2.2, hμ1 k hk]
        exact ⟨rfl, rfl⟩
    have hwr : ∀ j, Wr (Vf i) (mf i) j → inD B (Vf i) j := fun j hj => .inr hj.2
    refine hN μ3 κ3 _ _ (inv_put R hg ht I ho hi hr hd (fun k hk => e2 k (hseen k hk)) (fun k hk => e2 k (by omega)) (fun t e => ?_) st.sz (fun b hb hh => st.fr b hb fun j j1 j2 e => ?_) (fun k hk => ?_) hT2 ⟨hrel.below, fun k b hb => ?_, fun k j x y hx hy e => ?_, fun g hgg => ?_, hrel.gsz⟩)
    · rw [h4, getTmp_put, if_pos e, hu]
      exact (w1 _ _ _ _ hag).symm
    · by_cases hj : inD B (Vf i) j
      · rcases hj with hj | hj
        · omega
        · exact hh j ⟨j1, hj⟩ (by rw [← hμ1 j (.inr hj)]; exact e)
      · have := hμ2 j hj; omega
    · have hk := (hown k).1 hk
      rw [(e1 k hk).1]
      rcases st.nw k hk.1 hk.2 with h | ⟨j, j1, j2, j3⟩
      · exact .inl h
      · by_cases hj : inD B (Vf i) j
        · have hb := hj.resolve_left (by omega)
          exact .inr ⟨j, ⟨j1, hb⟩, by rw [j3, hμ1 j hj]⟩
        · exact .inl (by rw [j3]; exact hμ2 j hj)
    · have hb' := ((hT k b).1 hb).2
      obtain ⟨d1, d2⟩ := w2 k b hb'
      obtain ⟨a1, a2⟩ := hag k d1
      exact (hrel.blk k b hb').same a1 a2 (fun u hu => d2 u hu _ _ _ _ hag) rfl
    · have hx' := ((hT k x).1 hx).2
      have hy' := ((hT j y).1 hy).2
      rw [(hag k (w2 k x hx').1).1, (hag j (w2 j y hy').1).1] at e
      exact hrel.inj k j x y hx' hy' e
    · rw [(hag g (.inl (.inl (Nat.lt_of_lt_of_le hgg gB)))).1]; exact hrel.glob g hgg
theorem inv_store (R : Run E base ops σ rf lf Vf mf) (hg : E.P.globals.size ≤ (σ 0).next) (ht : TWF (· < (σ 0).next) (σ 0)) (I : Inv E base ops σ Vf mf μ0 κ0 w0 S μ κ a w) (ho : ops[i]? = some o) (hi : ¬ S i)
    (hr : ∀ e ∈ o.after, Region.binds .any e = true → S e.on) (hd : ∀ d, o.dst = some d → d < (σ i).size) {t : TypeId} {ao x : Operand} {ad : Addr} {sz : Nat} {h' : Heap} {b : Blk} (g1 : o.op = .store t ao x) (g2 : evalO (σ i).tmps ao = .pointer (some ad))
    (g3 : sizeT E t = some sz) (g4 : (evalO (σ i).tmps x).cells.size = sz) (g5 : storeO (σ i).heap ad (evalO (σ i).tmps x).cells.toList = some h') (g6 : getBlk (σ i).heap ad.block = some b)
    (g7 : Vf i = [(ad.block, b)]) (g8 : mf i = ad.block) (h1 : σ (i + 1) = putS (σ i) o.dst undef h' (σ i).next ad.block)
    {N : Act → World → Prop} {Q : Exit → Act → World → Prop} (hN : ∀ μ' κ' a' w', Inv E base ops σ Vf mf μ0 κ0 w0 (plus S i) μ' κ' a' w' → N a' w') : o.wp E.P a w N Q := by
  have hlt := ltO ho
  obtain ⟨HS, c, q3, q4, q5, q6⟩ := I.hs
  have hVb : getBlk (Vf i) ad.block = some b := by rw [g7, getBlk_cons, if_pos rfl]
  have hHS : getBlk HS ad.block = some b := by
    have hs := PA_seen (σ := σ) (fun j hj => I.ahead ho hr hj) (R.foot hlt hVb).2.1
    obtain ⟨c1, c2⟩ := q3 ad.block hs
    exact (q4 _ b).2 (I.foot R hg ht ho hi hr hVb c1 c2)
  obtain ⟨b', c', e1, e2, e3⟩ := storeO_get g5
  rw [g6] at e1
  cases e1
  have hst := e3 HS hHS
  have ha1 := I.opd R ho hi hr ao (by simp [g1, Op.operands])
  have ha2 := I.opd R ho hi hr x (by simp [g1, Op.operands])
  obtain ⟨w', hrun, hr', hsz, hoth⟩ := storeO_spec q6 hst
  have hexec : (execOp a.eval o).run E.P w = .ok .skip w' := by
    simp [execOp, g1, Instr.storeAt, Instr.sureAddr, ha1, ha2, g2, storeVar, run_sizeT g3, cells_ren, g4]
    rw [hrun]; rfl
  have htouch : ∀ k, touch σ Vf mf i k ↔ k = ad.block := fun k => by
    constructor
    · rintro (hk | ⟨_, d, hd⟩)
      · have a := hk.1; have b := hk.2; rw [h1, putS_next] at b; omega
      · rw [g7, getBlk_cons] at hd
        split at hd
        · rename_i e; exact e.symm
        · simp [getBlk] at hd
    · rintro rfl
      exact .inr ⟨by rw [g8]; exact Nat.le_refl _, b, hVb⟩
  have noown : ∀ k, ¬ own σ i k := fun k hk => by
    have a := hk.1; have b := hk.2; rw [h1, putS_next] at b; omega
  have hT : ∀ k d, getBlk [(ad.block, c')] k = some d ↔ touch σ Vf mf i k ∧ getBlk (σ (i + 1)).heap k = some d := fun k d => by
    rw [htouch, getBlk_cons, h1, putS_heap, e2, getBlk_set]
    split
    · rename_i e
      subst e
      rw [if_pos rfl, g6]
      simp
    · rename_i e
      simp only [getBlk]
      exact ⟨fun h => (nomatch h), fun h => absurd h.1.symm e⟩
  have hfew : ∀ k d, getBlk [(ad.block, c')] k = some d → getBlk (setBlk HS ad.block c') k = some d := fun k d hd => by
    rw [getBlk_cons] at hd
    split at hd
    · rename_i e; subst e; rw [getBlk_set, if_pos rfl, hHS]; exact hd
    · simp [getBlk] at hd
  have hinv := inv_put R hg ht I ho hi hr hd (μ' := μ) (κ' := κ) (u := undef) (w' := w') (HT := [(ad.block, c')]) (fun _ _ => ⟨rfl, rfl⟩) (fun _ _ => ⟨rfl, rfl⟩) (fun t e => by rw [h1, getTmp_put, if_pos e]; simp) hsz
    (fun b _ hh => hoth b fun e => hh ad.block ⟨by rw [g8]; exact Nat.le_refl _, _, hVb⟩ e.symm) (fun k hk => absurd hk (noown k)) hT (hr'.fewer hfew)
  unfold Oper.wp
  rw [hexec]
  exact hN _ _ _ _ hinv
theorem inv_step (R : Run E base ops σ rf lf Vf mf) (hg : E.P.globals.size ≤ (σ 0).next) (ht : TWF (· < (σ 0).next) (σ 0)) (I : Inv E base ops σ Vf mf μ0 κ0 w0 S μ κ a w) (ho : ops[i]? = some o) (hi : ¬ S i)
    (hr : ∀ e ∈ o.after, Region.binds .any e = true → S e.on) {N : Act → World → Prop} {Q : Exit → Act → World → Prop} (hN : ∀ μ' κ' a' w', Inv E base ops σ Vf mf μ0 κ0 w0 (plus S i) μ' κ' a' w' → N a' w') :
    wpOp E.P ops.toArray Q i N a w := by
  unfold wpOp
  have ho' : ops.toArray[i]? = some o := by simpa using ho
  rw [ho']
  simp only [I.wanted R ho hi hr]
  have hD := R.step i o ho
  cases hD.kind with
  | skip h1 h2 h3 =>
    rw [if_neg (by simp [h1])]
    exact hN _ _ _ _ (inv_skip R hg ht I ho hi hr hD.dst h2 h3)
  | op v h n H m h1 h2 h3 h4 h5 h6 =>
    rw [if_pos h1]
    exact .inl (inv_op R hg ht I ho hi hr hD.dst h2 h4 h5 h6 hN)
  | st t a x ad sz h' b h1 h2 h3 h4 h5 h6 h7 h8 h9 h10 =>
    rw [if_pos h1]
    exact .inl (inv_store R hg ht I ho hi hr hD.dst h2 h3 h4 h5 h6 h7 h8 h9 h10 hN)
def listedS (listed : Array Bool) (i : Nat) : Prop := listed.getD i false = true
theorem Inv.congr {S S' : Nat → Prop} (h : ∀ i, S i ↔ S' i) (I : Inv E base ops σ Vf mf μ0 κ0 w0 S μ κ a w) : Inv E base ops σ Vf mf μ0 κ0 w0 S' μ κ a w := by
  have : S = S' := funext fun i => propext (h i)
  exact this ▸ I
theorem listed_set {listed : Array Bool} {i : Nat} (hi : i < listed.size) (j : Nat) : plus (listedS listed) i j ↔ listedS (listed.setIfInBounds i true) j := by
  unfold plus listedS
  by_cases e : i = j
  · subst e
    simp [hi]
  · rw [getD_set_ne false e]
    constructor
    · rintro (h | h)
      · exact h
      · exact absurd h.symm e
    · exact .inl
theorem drawn_any (R : Run E base ops σ rf lf Vf mf) (hr0 : StRel E base μ0 κ0 (σ 0) a w0) {Q : Exit → Act → World → Prop} (hQ : ∀ a' w', StOut E base (σ 0) (σ ops.length) μ0 κ0 w0 a' w' → Q .normal a' w') :
    ∀ (fuel : Nat) (listed : Array Bool) (μ κ : Nat → Nat) (a : Act) (w : World) (L : List Nat), listed.size = ops.length → Inv E base ops σ Vf mf μ0 κ0 w0 (listedS listed) μ κ a w → L.length ≤ fuel → (∀ i, i < ops.length → ¬ listedS listed i → i ∈ L) →
      wpAny E.P .any ops.toArray Q fuel listed a w := by
  have hall : ∀ (listed : Array Bool) (μ κ : Nat → Nat) (a : Act) (w : World), Inv E base ops σ Vf mf μ0 κ0 w0 (listedS listed) μ κ a w → listed.size = ops.length → Region.ready .any ops.toArray listed = [] → Q .normal a w := by
    intro listed μ κ a w I hsz hnil
    refine hQ _ _ (inv_end R hr0 I fun i => ?_)
    induction i using Nat.strongRecOn with
    | _ i ih =>
      intro hi
      refine Classical.byContradiction fun hno => ?_
      obtain ⟨o, ho⟩ := getO hi
      have : i ∈ Region.ready .any ops.toArray listed := by
        refine mem_ready.2 ⟨?_, o, by simpa using ho, fun e he hb => ih e.on (R.static.fw i o ho e he hb) (by have := R.static.fw i o ho e he hb; omega)⟩
        have hlt : i < listed.size := by omega
        unfold listedS at hno
        simp only [Array.getD_eq_getD_getElem?, Array.getElem?_eq_getElem hlt, Option.getD_some] at hno ⊢
        simpa using hno
      rw [hnil] at this
      cases this
  have hmem : ∀ (listed : Array Bool) i, listed.size = ops.length → i ∈ Region.ready .any ops.toArray listed → i < ops.length ∧ ¬ listedS listed i ∧ ∃ o, ops[i]? = some o ∧ ∀ e ∈ o.after, Region.binds .any e = true → listedS listed e.on := by
    intro listed i hsz hi
    obtain ⟨h0, o, ho, hall⟩ := mem_ready.1 hi
    have ho' : ops[i]? = some o := by simpa using ho
    refine ⟨ltO ho', fun h => ?_, o, ho', hall⟩
    unfold listedS at h
    have hlt : i < listed.size := by have := ltO ho'; omega
    simp only [Array.getD_eq_getD_getElem?, Array.getElem?_eq_getElem hlt, Option.getD_some] at h h0
    rw [h] at h0; cases h0
  intro fuel
  induction fuel with
  | zero =>
    intro listed μ κ a w L hsz I hL hc
    have hnil : Region.ready .any ops.toArray listed = [] := by
      refine List.eq_nil_iff_forall_not_mem.2 fun i hi => ?_
      obtain ⟨h1, h2, _⟩ := hmem listed i hsz hi
      have := hc i h1 h2
      have hn : L = [] := List.length_eq_zero_iff.1 (by omega)
      rw [hn] at this; cases this
    exact ⟨hnil, hall listed μ κ a w I hsz hnil⟩
  | succ fuel ih =>
    intro listed μ κ a w L hsz I hL hc
    refine ⟨hall listed μ κ a w I hsz, fun i hi => ?_⟩
    obtain ⟨h1, h2, o, ho, hr⟩ := hmem listed i hsz hi
    refine inv_step R hr0.gl hr0.wf I ho h2 hr fun μ' κ' a' w' I' => ?_
    have hlt : i < listed.size := by omega
    refine ih _ μ' κ' a' w' (L.erase i) (by simpa using hsz) (I'.congr (listed_set hlt)) ?_ fun j hj hno => ?_
    · have := List.length_erase_of_mem (hc i h1 h2)
      have : 0 < L.length := List.length_pos_of_mem (hc i h1 h2)
      omega
    · have hne : j ≠ i := fun e => hno ((listed_set hlt j).1 (.inr e))
      exact (List.mem_erase_of_ne hne).2 (hc j hj fun h => hno ((listed_set hlt j).1 (.inl h)))
theorem StRel.drawn {s : St} {n : Nat} (h : StRel E base μ κ s a w) : StRel E base μ κ s a { w with drawn := n } :=
  ⟨⟨⟨h.rel.below.os, h.rel.below.tape, h.rel.below.output, h.rel.below.size, h.rel.below.block⟩, h.rel.blk, h.rel.inj, h.rel.glob, h.rel.gsz⟩, h.sz, h.tmp, h.df, h.dw, h.wf, h.gl⟩
theorem StOut.drawn {s s' : St} {n : Nat} {a' : Act} {w' : World} (h : StOut E base s s' μ κ { w with drawn := n } a' w') : StOut E base s s' μ κ w a' w' := by
  obtain ⟨μ', κ', h1, h2⟩ := h
  exact ⟨μ', κ', ⟨h1.le, h1.ag, h1.sz, h1.fr, h1.nw⟩, h2⟩
theorem drawnK_sound (hE : EnvOk E base) {call : CallFn} {W : Bool} (hcall : CallOk E base call) {s : St} {K : St → Prop} (hok : ops.all (operOk E.P.globals.size) = true) (hst : drawStatic ops (ancL [] 0 ops) = true) (hnd : ∀ t ∈ needs ops ops, ToldE E s t) (hk : drawnK E call W ops s K) :
    ∃ s', K s' ∧ Sem1 E s s' ∧ ∀ id μ κ a w, StRel E base μ κ s a w → ∀ Q : Exit → Act → World → Prop, (∀ a' w', StOut E base s s' μ κ w a' w' → Q .normal a' w') → (Code.region id ops.toArray true).wp E.P Q a w := by
  rw [drawnK_eq] at hk
  obtain ⟨σ, rf, lf, Vf, mf, h1, h2, h3, h4, h5⟩ := drawK_run hE hcall ops 0 [] [] s hk
  simp only [Nat.zero_add] at h4 h5
  have R : Run E base ops σ rf lf Vf mf := ⟨static_of hst, fun i o ho => List.all_eq_true.1 hok o (List.mem_of_getElem? ho), h2, fun i o ho => by rw [h1]; exact h5 i o ho⟩
  subst h1
  refine ⟨_, h4, ⟨R.swf ops.length (Nat.zero_le _) (Nat.le_refl _), (R.mw_le (i := 0) ops.length (Nat.zero_le _) (Nat.le_refl _)).1, (R.mw_le (i := 0) ops.length (Nat.zero_le _) (Nat.le_refl _)).2, fun D _ _ _ hd => by
    rw [R.df ops.length (Nat.le_refl _)]
    exact hd.mono Dp_mono⟩, fun id μ κ a w hr Q hQ => ?_⟩
  refine wp_region_any hE.mixed ?_
  have hr' := hr.drawn (n := w.drawn + 1)
  have hfalse : ∀ i, ¬ listedS (Array.replicate ops.toArray.size false) i := fun i h => by
    unfold listedS at h
    simp only [Array.getD_eq_getD_getElem?, Array.getElem?_replicate] at h
    split at h <;> simp at h
  refine drawn_any R hr' (fun a' w' h => hQ a' w' h.drawn) _ _ μ κ a _ (List.range ops.length) (by simp) ((inv_start hr' hnd).congr fun i => ⟨False.elim, fun h => hfalse i h⟩) (by simp) fun i hi _ => by simpa using hi
end
end Go.Pe

namespace Go.Pe
open Go Go.RowKit
section
variable {E : Env} {base : World}
def CodeSem (E : Env) (base : World) (c : Code) (s : St) (e : Exit) (s' : St) : Prop :=
  Sem1 E s s' ∧ ∀ μ κ a w, StRel E base μ κ s a w → c.wp E.P (fun e' a' w' => e' = e ∧ StOut E base s s' μ κ w a' w') a w
theorem loopK_sound {c : Code} {call : CallFn} (ih : ∀ (s : St) (K : Exit → St → Prop), codeK E call c s K → ∃ e s', K e s' ∧ CodeSem E base c s e s') : ∀ (n : Nat) (s : St) (K : Exit → St → Prop), loopK (codeK E call c) n s K →
    ∃ e s', K e s' ∧ Sem1 E s s' ∧ ∀ μ κ a w, StRel E base μ κ s a w → Code.rounds E.P c (fun e' a' w' => e' = e ∧ StOut E base s s' μ κ w a' w') n a w := by
  intro n
  induction n with
  | zero => intro s K hk; exact hk.elim
  | succ n ihn =>
    intro s K hk
    unfold loopK at hk
    obtain ⟨e1, s1, h1, h2, h3⟩ := ih s _ hk
    cases e1 with
    | normal =>
      obtain ⟨e, s', k1, k2, k3⟩ := ihn s1 K h1
      refine ⟨e, s', k1, h2.trans k2, fun μ κ a w hr => ?_⟩
      rw [rounds_succ]
      refine wp_mono (h3 μ κ a w hr) fun e' a' w' ⟨he, μ1, κ1, q1, q2⟩ => ?_
      subst he
      refine (?_ : Code.rounds E.P c _ n a' w')
      have key : ∀ n a w, Code.rounds E.P c (fun e' a' w' => e' = e ∧ StOut E base s1 s' μ1 κ1 w a' w') n a w → True := fun _ _ _ _ => trivial
      have := k3 μ1 κ1 a' w' q2
      have mono : ∀ (n : Nat) (a : Act) (w : World) (Q Q' : Exit → Act → World → Prop), (∀ e a w, Q e a w → Q' e a w) → Code.rounds E.P c Q n a w → Code.rounds E.P c Q' n a w := by
        intro n
        induction n with
        | zero => intro a w Q Q' _ h; exact h
        | succ n ih =>
          intro a w Q Q' hq h
          rw [rounds_succ] at h ⊢
          refine wp_mono h fun e a w he => ?_
          cases e with
          | normal => exact ih _ _ _ _ hq he
          | _ => exact hq _ _ _ he
      exact mono _ _ _ _ _ (fun e' a'' w'' ⟨he, ho⟩ => ⟨he, StOut.trans q1 k2.mw ho⟩) this
    | _ =>
      refine ⟨_, s1, h1, h2, fun μ κ a w hr => ?_⟩
      rw [rounds_succ]
      refine wp_mono (h3 μ κ a w hr) fun e' a' w' ⟨he, ho⟩ => ?_
      subst he
      exact ⟨rfl, ho⟩
def LoopsOk (E : Env) (base : World) : Prop :=
  ∀ f id T c s K, E.loopP f id = some T → T c s K → ∃ e s', K e s' ∧ CodeSem E base (.loop c) s e s'
theorem codeK_sound (hE : EnvOk E base) (hL : LoopsOk E base) {call : CallFn} (hcall : CallOk E base call) : ∀ (c : Code) (s : St) (K : Exit → St → Prop), codeOk E.P.globals.size c = true → codeK E call c s K → ∃ e s', K e s' ∧ CodeSem E base c s e s' := by
  intro c
  induction c with
  | skip => intro s K _ hk; exact ⟨.normal, s, hk, Sem1.refl s, fun μ κ a w hr => wp_skip ⟨rfl, StOut.refl hr⟩⟩
  | region id ops draw =>
    intro s K hok hk
    cases draw with
    | false =>
      obtain ⟨hto, hk⟩ := chk_true (b := toldAll E s.tmps (needs ops.toList ops.toList)) (p := opsK E call ops.toList ops.toList s fun s => K .normal s) hk
      obtain ⟨s', h1, h2, h3⟩ := opsK_sound hE hcall ops.toList ops.toList s (by simp only [codeOk, Bool.and_eq_true] at hok; exact hok.1) (toldAll_spec hto) hk
      refine ⟨.normal, s', h1, h2, fun μ κ a w hr => wp_region_list ?_⟩
      have := h3 μ κ a w hr (fun e' a' w' => e' = .normal ∧ StOut E base s s' μ κ w a' w') fun a' w' h => ⟨rfl, h⟩
      simpa using this
    | true =>
      simp only [codeOk, Bool.and_eq_true] at hok
      obtain ⟨hto, hk⟩ := chk_true (b := toldAll E s.tmps (needs ops.toList ops.toList)) (p := drawnK E call (E.wild s.fn id) ops.toList s fun s => K .normal s) hk
      obtain ⟨s', h1, h2, h3⟩ := drawnK_sound hE hcall hok.1 hok.2 (toldAll_spec hto) hk
      refine ⟨.normal, s', h1, h2, fun μ κ a w hr => ?_⟩
      have := h3 id μ κ a w hr (fun e' a' w' => e' = .normal ∧ StOut E base s s' μ κ w a' w') fun a' w' h => ⟨rfl, h⟩
      simpa using this
  | seq x y ihx ihy =>
    intro s K hok hk
    simp only [codeOk, Bool.and_eq_true] at hok
    rw [codeK_seq] at hk
    obtain ⟨e1, s1, h1, h2, h3⟩ := ihx s _ hok.1 hk
    cases e1 with
    | normal =>
      obtain ⟨e, s', k1, k2, k3⟩ := ihy s1 K hok.2 h1
      refine ⟨e, s', k1, h2.trans k2, fun μ κ a w hr => wp_seq (wp_mono (h3 μ κ a w hr) fun e' a' w' ⟨he, μ1, κ1, q1, q2⟩ => ?_)⟩
      subst he
      exact wp_mono (k3 μ1 κ1 a' w' q2) fun e' a'' w'' ⟨he, ho⟩ => ⟨he, StOut.trans q1 k2.mw ho⟩
    | _ =>
      refine ⟨_, s1, h1, h2, fun μ κ a w hr => wp_seq (wp_mono (h3 μ κ a w hr) fun e' a' w' ⟨he, ho⟩ => ?_)⟩
      subst he
      exact ⟨rfl, ho⟩
  | cond x y z ihy ihz =>
    intro s K hok hk
    simp only [codeOk, Bool.and_eq_true] at hok
    rw [codeK_cond] at hk
    obtain ⟨hto, hk⟩ := chk_true hk
    split at hk
    · rename_i t ht
      have hc : ∀ μ κ a w, StRel E base μ κ s a w → a.eval x = .bool t := fun μ κ a w hr => by rw [hr.eval hok.1 fun t e => toldAll_spec hto t (by rw [e]; simp [tmpsOf]), ht]; rfl
      cases t with
      | true =>
        obtain ⟨e, s', k1, k2, k3⟩ := ihy s K hok.2.1 hk
        exact ⟨e, s', k1, k2, fun μ κ a w hr => wp_cond_true (hc μ κ a w hr) (k3 μ κ a w hr)⟩
      | false =>
        obtain ⟨e, s', k1, k2, k3⟩ := ihz s K hok.2.2 hk
        exact ⟨e, s', k1, k2, fun μ κ a w hr => wp_cond_false (hc μ κ a w hr) (k3 μ κ a w hr)⟩
    · exact hk.elim
  | block id c ih =>
    intro s K hok hk
    rw [codeK_block] at hk
    obtain ⟨e1, s1, h1, h2, h3⟩ := ih s _ hok hk
    cases e1 with
    | exit i =>
      simp only at h1
      split at h1
      · rename_i hb
        have hb := beq_true hb
        subst hb
        refine ⟨.normal, s1, h1, h2, fun μ κ a w hr => wp_block (wp_mono (h3 μ κ a w hr) fun e' a' w' ⟨he, ho⟩ => ?_)⟩
        subst he
        simp only [Exit.inBlock, if_true]
        exact ⟨trivial, ho⟩
      · rename_i hb
        have hb := beq_false hb
        refine ⟨.exit i, s1, h1, h2, fun μ κ a w hr => wp_block (wp_mono (h3 μ κ a w hr) fun e' a' w' ⟨he, ho⟩ => ?_)⟩
        subst he
        simp only [Exit.inBlock, if_neg hb]
        exact ⟨trivial, ho⟩
    | _ =>
      refine ⟨_, s1, h1, h2, fun μ κ a w hr => wp_block (wp_mono (h3 μ κ a w hr) fun e' a' w' ⟨he, ho⟩ => ?_)⟩
      subst he
      exact ⟨rfl, ho⟩
  | loop c ih =>
    intro s K hok hk
    rw [codeK_loop] at hk
    split at hk
    · rename_i T hT
      exact hL _ _ T c s K hT hk
    · obtain ⟨e, s', h1, h2, h3⟩ := loopK_sound (base := base) (fun s K hk => ih s K hok hk) _ s K hk
      exact ⟨e, s', h1, h2, fun μ κ a w hr => wp_loop_rounds _ (h3 μ κ a w hr)⟩
  | exit id => intro s K _ hk; exact ⟨.exit id, s, hk, Sem1.refl s, fun μ κ a w hr => wp_exit ⟨rfl, StOut.refl hr⟩⟩
  | ret => intro s K _ hk; exact ⟨.ret, s, hk, Sem1.refl s, fun μ κ a w hr => wp_ret ⟨rfl, StOut.refl hr⟩⟩
  | _ => intro s K _ hk; exact hk.elim
/-! Results -/
def resM (a : Act) (r : ResultVar) : Sem Value := match r with
  | .tmp t => pure (a.tmps.getD t undef)
  | .cell ad t => do loadVar t (← asAddr (a.tmps.getD ad undef))
theorem resO_spec {s : St} {μ κ : Nat → Nat} {a : Act} {w : World} (hr : StRel E base μ κ s a w) {r : ResultVar} {v : Value} (hv : resO E s r = some v) : (resM a r).run E.P w = .ok (renV μ κ v) w := by
  cases r with
  | tmp t =>
    simp only [resO] at hv
    split at hv
    · rename_i hto
      simp only [Option.some.injEq] at hv
      subst hv
      simp only [resM, hr.tmp t (toldAll_spec hto t (List.mem_singleton.2 rfl)), Sem.run_pure]
    · cases hv
  | cell ad t =>
    simp only [resO] at hv
    split at hv
    case h_2 => cases hv
    rename_i hto
    split at hv
    · rename_i x hx
      simp only [resM, hr.tmp ad (toldAll_spec hto ad (List.mem_singleton.2 rfl)), hx, renV_pointer, Option.map_some, asAddr, Sem.run_bind, Sem.run_pure, Result.andThen_ok]
      exact loadO_spec hr.rel hv
    · cases hv
theorem allRes_spec {s : St} {μ κ : Nat → Nat} {a : Act} {w : World} (hr : StRel E base μ κ s a w) : ∀ (l : List ResultVar) (vs : List Value), allRes E s l = some vs →
    (l.mapM (resM a)).run E.P w = .ok (vs.map (renV μ κ)) w := by
  intro l
  induction l with
  | nil => intro vs h; simp only [allRes, Option.some.injEq] at h; subst h; simp
  | cons r l ih =>
    intro vs h
    unfold allRes at h
    split at h
    · rename_i v hv
      split at h
      · rename_i us hus
        cases h
        have h2 := ih us hus
        rw [List.mapM_cons]
        simp only [Sem.run_bind, resO_spec hr hv, Result.andThen_ok, h2, Sem.run_pure, List.map_cons]
      · cases h
    · cases h
theorem results_spec {s : St} {μ κ : Nat → Nat} {a : Act} {w : World} (hr : StRel E base μ κ s a w) {fn : Func} {v : Value} (h : resultsO E s fn.results.toList = some v) :
    (results fn a.tmps).run E.P w = .ok (renV μ κ v) w := by
  have key : ∀ vs, allRes E s fn.results.toList = some vs → (results fn a.tmps).run E.P w = .ok (if h : (vs.map (renV μ κ)).toArray.size = 1 then (vs.map (renV μ κ)).toArray[0] else .tuple (vs.map (renV μ κ)).toArray) w := by
    intro vs hv
    have := allRes_spec hr _ vs hv
    have e : results fn a.tmps = (fn.results.mapM (resM a) >>= fun vs => pure (if h : vs.size = 1 then vs[0] else .tuple vs)) := by
      unfold results
      congr 2
    rw [e, Array.mapM_eq_mapM_toList, map_eq_pure_bind]
    simp only [Sem.run_bind, this, Result.andThen_ok, Sem.run_pure]
  unfold resultsO at h
  cases hx : allRes E s fn.results.toList with
  | none => rw [hx] at h; cases h
  | some vs =>
    rw [hx] at h
    rw [key _ hx]
    match vs, h with
    | [], h => simp only [Option.some.injEq] at h; subst h; simp
    | [x], h => simp only [Option.some.injEq] at h; subst h; simp
    | x :: y :: l, h => simp only [Option.some.injEq] at h; subst h; simp
theorem allRes_wf {D : Nat → Prop} {s : St} (ht : TWF D s) : ∀ (l : List ResultVar) (vs : List Value), allRes E s l = some vs → ∀ v ∈ vs, WF D v := by
  intro l
  induction l with
  | nil => intro vs h; simp only [allRes, Option.some.injEq] at h; subst h; intro v hv; cases hv
  | cons r l ih =>
    intro vs h
    unfold allRes at h
    split at h
    · rename_i v hv
      split at h
      · rename_i us hus
        cases h
        intro u hu
        rcases List.mem_cons.1 hu with rfl | hu
        · unfold resO at hv
          cases r with
          | tmp t =>
            simp only at hv
            split at hv
            · simp only [Option.some.injEq] at hv; subst hv; exact ht.2 t
            · cases hv
          | cell ad t =>
            simp only at hv
            split at hv
            · split at hv
              · exact loadO_wf ht.1 hv
              · cases hv
            · cases hv
        · exact ih us hus u hu
      · cases h
    · cases h
theorem results_wf {D : Nat → Prop} {s : St} (ht : TWF D s) {l : List ResultVar} {v : Value} (h : resultsO E s l = some v) : WF D v := by
  unfold resultsO at h
  split at h
  · rename_i x hx
    cases h
    exact allRes_wf ht l _ hx _ (by simp)
  · rename_i vs _ hx
    cases h
    exact WF.tuple.2 fun u hu => allRes_wf ht l vs hx u (by simpa using hu)
  · cases h
/-! Functions -/
theorem getTmp_numbered (args : List Value) : ∀ (k t : Nat), getTmp (numbered k args) t = if k ≤ t then (args[t - k]?).getD undef else undef := by
  induction args with
  | nil => intro k t; simp [numbered, getTmp_nil]
  | cons v l ih =>
    intro k t
    simp only [numbered, getTmp_cons]
    split
    · rename_i hb
      have := beq_true hb
      subst this
      simp
    · rename_i hb
      have := beq_false hb
      rw [ih]
      by_cases h : k ≤ t
      · have e : t - k = (t - (k + 1)) + 1 := by omega
        rw [if_pos (by omega), if_pos h, e]
        simp
      · rw [if_neg (by omega), if_neg h]
theorem numbered_wf {D : Nat → Prop} {args : List Value} (h : ∀ x ∈ args, WF D x) (t : Nat) : WF D (getTmp (numbered 0 args) t) := by
  rw [getTmp_numbered]
  simp only [Nat.zero_le, if_true, Nat.sub_zero]
  cases hx : args[t]? with
  | none => exact WF.undef
  | some v => exact h v (List.mem_of_getElem? hx)
theorem start_rel {μ κ : Nat → Nat} {h : Heap} {n : Nat} {w : World} {args : List Value} {m mw f : Nat} (hr : Rel E.P base μ κ h w) (hh : HWF (· < n) h) (ha : ∀ x ∈ args, WF (· < n) x) (hg : E.P.globals.size ≤ n) (hm : args.length ≤ m) :
    StRel E base μ κ { tmps := numbered 0 args, heap := h, next := n, mw := mw, size := m, fn := f } { tmps := (args.map (renV μ κ)).toArray ++ Array.replicate (m - (args.map (renV μ κ)).toArray.size) undef, defers := [] } w := by
  refine ⟨hr, by simp; omega, fun t _ => ?_, rfl, fun d hd => (by cases hd), ⟨hh, numbered_wf ha⟩, hg⟩
  rw [getTmp_numbered]
  simp only [Nat.zero_le, if_true, Nat.sub_zero, Array.getD_eq_getD_getElem?, Array.getElem?_append, List.size_toArray, List.length_map]
  split
  · rename_i hlt
    simp [List.getElem?_eq_getElem hlt]
  · rename_i hge
    rw [List.getElem?_eq_none (by omega)]
    simp only [Option.getD_none, renV_undef]
    rw [Array.getElem?_replicate]
    split <;> rfl
theorem EnvOk.bodyOk (hE : EnvOk E base) {f : FuncId} {fn : Func} {c : Code} (hf : E.P.funcs[f]? = some fn) (hb : fn.body = some c) (h : bodyOk E f c = true) : codeOk E.P.globals.size c = true := by
  unfold Go.Pe.bodyOk at h
  split at h
  · rename_i hs; exact hE.sure f fn c hs hf hb
  · exact h
theorem deferred_sound (hE : EnvOk E base) (hL : LoopsOk E base) {call : CallFn} (hcall : CallOk E base call) {f : FuncId} {fn : Func} (hf : E.P.funcs[f]? = some fn) {args : List Value} {h : Heap} {n : Nat} {K : St → Prop} (hk : deferredK E call f fn args h n K) :
    ∃ t, K t ∧ fn.body.isSome = true ∧ n ≤ t.next ∧ (∀ D : Nat → Prop, (∀ k, D k → k < n) → (∀ g, g < E.P.globals.size → D g) → (∀ x ∈ args, WF D x) → HWF D h → HWF (Dp D n t.next) t.heap) ∧
      ∀ μ κ w, Rel E.P base μ κ h w → HWF (· < n) h → (∀ x ∈ args, WF (· < n) x) → E.P.globals.size ≤ n → ∀ u : FrameMode, CallsD E.P f (args.map (renV μ κ)).toArray u w fun e u' w' => u' = u ∧ ∃ x, e = .returned x ∧ ∃ μ' κ', Step t.mw n t.next μ κ w μ' κ' w' ∧ Rel E.P base μ' κ' t.heap w' := by
  unfold deferredK at hk
  split at hk
  · exact hk.elim
  · rename_i c hb
    obtain ⟨hck, hk⟩ := chk_true hk
    simp only [Bool.and_eq_true] at hck
    have hm := ble_true hck.1
    obtain ⟨e, s', h1, h2, h3⟩ := codeK_sound hE hL hcall c _ _ (hE.bodyOk hf hb hck.2) hk
    have fin : (e = .normal ∨ e = .ret) → s'.df = [] → (∃ v, resultsO E s' fn.results.toList = some v) → K s' → ∃ t, K t ∧ fn.body.isSome = true ∧ n ≤ t.next ∧ (∀ D : Nat → Prop, (∀ k, D k → k < n) → (∀ g, g < E.P.globals.size → D g) → (∀ x ∈ args, WF D x) → HWF D h → HWF (Dp D n t.next) t.heap) ∧
      ∀ μ κ w, Rel E.P base μ κ h w → HWF (· < n) h → (∀ x ∈ args, WF (· < n) x) → E.P.globals.size ≤ n → ∀ u : FrameMode, CallsD E.P f (args.map (renV μ κ)).toArray u w fun e u' w' => u' = u ∧ ∃ x, e = .returned x ∧ ∃ μ' κ', Step t.mw n t.next μ κ w μ' κ' w' ∧ Rel E.P base μ' κ' t.heap w' := by
      intro he hdf ⟨v, hv⟩ hK
      refine ⟨s', hK, by simp [hb], h2.wf.1, fun D hD hG hx hh => (h2.wf.2 D hD hG ⟨hh, numbered_wf hx⟩).1, fun μ κ w hr hh hx hg u => ?_⟩
      refine callsD_of_wp hf hb (wp_mono (h3 μ κ _ w (start_rel hr hh hx hg hm)) fun e' a' w' ⟨hee, μ', κ', q1, q2⟩ => ?_)
      have hbody : a'.defers = [] ∧ ∃ u, (results fn a'.tmps).run E.P w' = .ok u w' ∧ (∃ x, Ending.returned u = .returned x ∧ ∃ μ' κ', Step s'.mw n s'.next μ κ w μ' κ' w' ∧ Rel E.P base μ' κ' s'.heap w') :=
        ⟨by rw [q2.df, hdf]; rfl, _, results_spec q2 hv, _, rfl, μ', κ', q1, q2.rel⟩
      subst hee
      rcases he with rfl | rfl <;> exact hbody
    cases e with
    | normal =>
      simp only at h1
      split at h1
      · rename_i hdf
        split at h1
        · rename_i v hv; exact fin (.inl rfl) hdf ⟨v, hv⟩ h1
        · exact h1.elim
      · exact h1.elim
    | ret =>
      simp only at h1
      split at h1
      · rename_i hdf
        split at h1
        · rename_i v hv; exact fin (.inr rfl) hdf ⟨v, hv⟩ h1
        · exact h1.elim
      · exact h1.elim
    | _ => exact h1.elim
theorem leavesK_sound (hE : EnvOk E base) (hL : LoopsOk E base) {call : CallFn} (hcall : CallOk E base call) {fn : Func} : ∀ (ds : List (FuncId × List Value)) (s : St) (K : St → Prop), s.df = [] → leavesK E call ds s K →
    ∃ s', K s' ∧ s'.df = [] ∧ s'.mw ≤ s.mw ∧ (∀ D : Nat → Prop, (∀ k, D k → k < s.next) → (∀ g, g < E.P.globals.size → D g) → TWF D s → DWF D ds → TWF (Dp D s.next s'.next) s') ∧ s.next ≤ s'.next ∧
      ∀ μ κ a w, StRel E base μ κ s a w → DWF (· < s.next) ds → ∀ R : Ending → World → Prop, (∀ w', StOut E base s s' μ κ w a w' → ∃ v, (results fn a.tmps).run E.P w' = .ok v w' ∧ R (.returned v) w') →
        Leaves E.P fn a.tmps R (ds.map (defOf μ κ)) .returning w := by
  intro ds
  induction ds with
  | nil =>
    intro s K hdf hk
    refine ⟨s, hk, hdf, Nat.le_refl _, fun D _ _ hT _ => ⟨hT.1.mono Dp_mono, fun t => (hT.2 t).mono Dp_mono⟩, Nat.le_refl _, fun μ κ a w hr _ R hR => ?_⟩
    exact hR w (StOut.refl hr)
  | cons d ds ih =>
    intro s K hdf hk
    rw [leavesK_cons] at hk
    split at hk
    · exact hk.elim
    · rename_i fd hfd
      obtain ⟨t, hk, hbs, hn, hwf, hsem⟩ := deferred_sound hE hL hcall hfd hk
      obtain ⟨s', h1, h2, h3, h4, h5, h6⟩ := ih _ K rfl hk
      refine ⟨s', h1, h2, Nat.le_trans h3 (Nat.min_le_left _ _), fun D hD hG hT hd => ?_, Nat.le_trans hn h5, fun μ κ a w hr hd R hR => ?_⟩
      · have hh := hwf D hD hG (fun x hx => hd d (List.mem_cons_self ..) x hx) hT.1
        have := h4 (Dp D s.next t.next) (fun j hj => hj.elim (fun hj => Nat.lt_of_lt_of_le (hD j hj) hn) (fun hj => hj.2)) (fun g hg => .inl (hG g hg)) ⟨hh, fun t => (hT.2 t).mono Dp_mono⟩ (fun d hm v hv => (hd d (List.mem_cons_of_mem _ hm) v hv).mono Dp_mono)
        have hm : ∀ j, Dp (Dp D s.next t.next) t.next s'.next j → Dp D s.next s'.next j := fun j hj => by
          have h5 : t.next ≤ s'.next := h5
          rcases hj with (hj | hj) | hj
          · exact .inl hj
          · exact .inr ⟨hj.1, by omega⟩
          · exact .inr ⟨by omega, hj.2⟩
        exact ⟨this.1.mono hm, fun t => (this.2 t).mono hm⟩
      · have hc := hsem μ κ w hr.rel hr.wf.1 (fun x hx => hd d (List.mem_cons_self ..) x hx) hr.gl .returning
        refine leaves_cons (by simp) (by
          show (callFunc d.1 (#[] ++ _)).run E.P w = _
          rw [Array.empty_append]
          exact hE.enter d.1 fd hfd hbs _ w) (hc.mono fun e u' w' ⟨hu, x, he, μ', κ', st, hrel⟩ => ?_)
        subst he hu
        show Leaves E.P fn a.tmps R (ds.map (defOf μ κ)) (settle .returning) w'
        have hds : DWF (· < s.next) ds := fun d hm => hd d (List.mem_cons_of_mem _ hm)
        rw [← defs_same hds fun k hk => st.ag k (.inl hk)]
        have hx := hwf (· < s.next) (fun _ h => h) (fun g hg => Nat.lt_of_lt_of_le hg hr.gl) (fun x hx => hd d (List.mem_cons_self ..) x hx) hr.wf.1
        have hm : ∀ k, Dp (· < s.next) s.next t.next k → k < t.next := fun k hk => by
          rcases hk with hk | hk
          · exact Nat.lt_of_lt_of_le hk hn
          · exact hk.2
        refine h6 μ' κ' a w' ⟨hrel, hr.sz, fun i hto => ?_, ?_, fun d hd => (by cases hd), ⟨hx.mono hm, fun i => (hr.wf.2 i).mono fun k hk => Nat.lt_of_lt_of_le hk hn⟩, Nat.le_trans hr.gl hn⟩ (hds.mono fun k hk => Nat.lt_of_lt_of_le hk hn) R fun w'' ho => hR w'' ?_
        · rw [hr.tmp i hto]
          exact (hr.wf.2 i _ _ _ _ fun k hk => st.ag k (.inl hk)).symm
        · rw [hr.df, hdf]; rfl
        · exact StOut.trans (s1 := { tmps := s.tmps, heap := t.heap, next := t.next, mw := min s.mw t.mw, size := s.size, fn := s.fn }) (st.mono (Nat.min_le_right _ _)) h3 ho
theorem body_sound (hE : EnvOk E base) (hL : LoopsOk E base) {call : CallFn} (hcall : CallOk E base call) {f : FuncId} {fn : Func} (hf : E.P.funcs[f]? = some fn) {args : List Value} {h : Heap} {n : Nat} {K : Value → St → Prop} (hk : bodyK E call f fn args h n K) :
    ∃ v s, K v s ∧ FuncSem E base f args h n v s.heap s.next s.mw := by
  unfold bodyK at hk
  split at hk
  · exact hk.elim
  · rename_i c hb
    obtain ⟨hck, hk⟩ := chk_true hk
    simp only [Bool.and_eq_true] at hck
    have hm := ble_true hck.1
    obtain ⟨e, s1, h1, h2, h3⟩ := codeK_sound hE hL hcall c _ _ (hE.bodyOk hf hb hck.2) hk
    have fin : (e = .normal ∨ e = .ret) → leavesK E call s1.df { tmps := s1.tmps, heap := s1.heap, next := s1.next, mw := s1.mw, size := s1.size, fn := s1.fn } (fun s => (match resultsO E s fn.results.toList with | some v => K v s | none => False)) →
        ∃ v s, K v s ∧ FuncSem E base f args h n v s.heap s.next s.mw := by
      intro he hk
      obtain ⟨s', k1, k2, k3, k4, k5, k6⟩ := leavesK_sound (fn := fn) hE hL hcall s1.df _ _ rfl hk
      split at k1
      · rename_i v hv
        refine ⟨v, s', k1, ⟨Nat.le_trans h2.wf.1 k5, fun D hD hG hx hh => ?_⟩, fun μ κ w hr hh hx hg => ?_⟩
        · have t1 := h2.wf.2 D hD hG ⟨hh, numbered_wf hx⟩
          have t2 := h2.dwf D hD hG ⟨hh, numbered_wf hx⟩ (fun d hd => by cases hd)
          have l1 : n ≤ s1.next := h2.wf.1
          have l2 : s1.next ≤ s'.next := k5
          have t3 := k4 (Dp D n s1.next) (fun j hj => hj.elim (fun hj => Nat.lt_of_lt_of_le (hD j hj) l1) (fun hj => hj.2)) (fun g hg => .inl (hG g hg)) t1 t2
          have hmm : ∀ j, Dp (Dp D n s1.next) s1.next s'.next j → Dp D n s'.next j := fun j hj => by
            rcases hj with (hj | hj) | hj
            · exact .inl hj
            · exact .inr ⟨hj.1, by omega⟩
            · exact .inr ⟨by omega, hj.2⟩
          exact ⟨(results_wf t3 hv).mono hmm, t3.1.mono hmm⟩
        · rw [hE.enter f fn hf (by simp [hb])]
          refine ⟨rfl, calls_of_wp_defers hf hb (wp_mono (h3 μ κ _ w (start_rel hr hh hx hg hm)) fun e' a' w' ⟨hee, μ', κ', q1, q2⟩ => ?_)⟩
          have hbody : Leaves E.P fn a'.tmps (fun e w'' => ∃ u, e = .returned u ∧ Out E base s'.heap v s'.mw n s'.next μ κ w u w'') a'.defers .returning w' := by
            rw [q2.df]
            have q3 : StRel E base μ' κ' { tmps := s1.tmps, heap := s1.heap, next := s1.next, mw := s1.mw, size := s1.size, fn := s1.fn } { a' with defers := [] } w' := ⟨q2.rel, q2.sz, q2.tmp, rfl, fun d hd => (by cases hd), q2.wf, q2.gl⟩
            refine k6 μ' κ' { a' with defers := [] } w' q3 q2.dw _ fun w'' ⟨μ2, κ2, r1, r2⟩ => ?_
            exact ⟨_, results_spec r2 hv, _, rfl, μ2, κ2, (q1.mono k3).trans r1, rfl, r2.rel⟩
          subst hee
          rcases he with rfl | rfl <;> exact hbody
      · exact k1.elim
    cases e with
    | normal => exact fin (.inl rfl) (by simp only [restK_eq] at h1; exact h1)
    | ret => exact fin (.inr rfl) (by simp only [restK_eq] at h1; exact h1)
    | _ => exact h1.elim
theorem FuncSem.keep {f : FuncId} {args : List Value} {h h' : Heap} {n n' mw : Nat} {v : Value} (hs : FuncSem E base f args h n v h' n' mw) : FuncSem E base f args h n v (keepBelow h' n) n' mw := by
  have hsub : ∀ k b, getBlk (keepBelow h' n) k = some b → getBlk h' k = some b := fun k b hb => by
    rw [getBlk_keep] at hb
    split at hb
    · exact hb
    · cases hb
  obtain ⟨⟨s0, s1⟩, s2⟩ := hs
  refine ⟨⟨s0, fun D hD hG hx hh => ⟨(s1 D hD hG hx hh).1, (s1 D hD hG hx hh).2.sub hsub⟩⟩, fun μ κ w hr hh hx hg => ?_⟩
  have hout := s2 μ κ w hr hh hx hg
  have key : ∀ u w', Out E base h' v mw n n' μ κ w u w' → Out E base (keepBelow h' n) v mw n n' μ κ w u w' := fun u w' ⟨μ', κ', a, b, c⟩ => ⟨μ', κ', a, b, c.fewer hsub⟩
  have key2 : ∀ u w', Out E base h' u mw n n' μ κ w Go.undef w' → Out E base (keepBelow h' n) u mw n n' μ κ w Go.undef w' := fun u w' ⟨μ', κ', a, b, c⟩ => ⟨μ', κ', a, b, c.fewer hsub⟩
  generalize (callFunc f (args.map (renV μ κ)).toArray).run E.P w = r at *
  cases r with
  | halt x w' => exact hout.elim
  | ok nx w' =>
    cases nx with
    | value u => exact key _ _ hout
    | skip =>
      obtain ⟨μ', κ', a, b, c⟩ := hout
      exact ⟨μ', κ', a, b, c.fewer hsub⟩
    | enter g as =>
      obtain ⟨rfl, hc⟩ := hout
      exact ⟨rfl, hc.mono fun e w'' ⟨u, he, hu⟩ => ⟨u, he, key _ _ hu⟩⟩
    | _ => exact hout.elim
theorem FuncSem.ofValue {f : FuncId} {args : List Value} {v : Value} (hv : ∀ μ κ w, (callFunc f (args.map (renV μ κ)).toArray).run E.P w = .ok (.value (renV μ κ v)) w) (hw : ∀ D : Nat → Prop, (∀ x ∈ args, WF D x) → WF D v) (h : Heap) (n : Nat) :
    FuncSem E base f args h n v h n big := by
  refine ⟨⟨Nat.le_refl _, fun D _ _ hx hh => ⟨(hw D hx).mono Dp_mono, hh.mono Dp_mono⟩⟩, fun μ κ w hr _ _ _ => ?_⟩
  rw [hv μ κ w]
  exact Out.same hr
theorem funcK_sound (hE : EnvOk E base) (hL : LoopsOk E base) : ∀ d, CallOk E base (funcK E d) := by
  intro d
  induction d with
  | zero => intro f args h n K hk; exact hk.elim
  | succ d ih =>
    intro f args h n K hk
    unfold funcK at hk
    split at hk
    · exact hk.elim
    · rename_i fn hf
      obtain ⟨v, s, h1, h2⟩ := body_sound hE hL ih hf hk
      rw [leaveK_eq] at h1
      split at h1
      · split at h1
        · exact ⟨_, _, _, _, h1, h2.keep⟩
        · exact ⟨_, _, _, _, h1, h2⟩
      · exact ⟨_, _, _, _, h1, h2⟩
end
end Go.Pe

namespace Go.Pe
open Go Go.RowKit
def bsel (b : Bool) (t f : Prop) : Prop := match b with | true => t | false => f
theorem bsel_of {b : Bool} {t f : Prop} (ht : b = true → t) (hf : b = false → f) : bsel b t f := by
  cases b
  · exact hf rfl
  · exact ht rfl
section
variable {E : Env} {base : World}
def Sub (h0 h : Heap) : Prop := ∀ k b, getBlk h0 k = some b → getBlk h k = some b
theorem Sub.nil (h : Heap) : Sub [] h := fun k b hb => by simp [getBlk] at hb
theorem Sub.refl (h : Heap) : Sub h h := fun _ _ hb => hb
theorem FuncSem.anywhere {f : FuncId} {args : List Value} {n0 n' mw : Nat} {v : Value} {h0 h' : Heap} (hs : FuncSem E base f args h0 n0 v h' n' mw) (hm : n0 ≤ mw) (hv : pureV 6 v = true) (ha : ∀ x ∈ args, pureV 6 x = true) (hh0 : HWF (· < n0) h0)
    (hg0 : E.P.globals.size ≤ n0) {h : Heap} (hsub : Sub h0 h) (n : Nat) : FuncSem E base f args h n v h n big := by
  obtain ⟨_, s2⟩ := hs
  refine ⟨⟨Nat.le_refl _, fun D hD hG hx hh => ⟨WF.pure hv, hh.mono Dp_mono⟩⟩, fun μ κ w hr hh hx hg => ?_⟩
  have hout := s2 μ κ w (hr.fewer hsub) hh0 (fun x hx => WF.pure (ha x hx)) hg0
  have key : ∀ u w', Out E base h' v mw n0 n' μ κ w u w' → Out E base h v big n n μ κ w u w' := fun u w' ⟨μ', κ', st, hu, hrel⟩ => by
    refine ⟨μ, κ, ⟨Nat.le_refl _, fun _ _ => ⟨rfl, rfl⟩, st.sz, fun b hb _ => st.fr b hb fun k k1 k2 => by omega, fun _ h1 h2 => by omega⟩, by rw [hu, ren_pure _ _ 6 v hv, ren_pure _ _ 6 v hv], ?_⟩
    refine ⟨hrel.below, fun k b hb => (hr.blk k b hb).same rfl rfl (fun _ _ => rfl) (st.fr _ (hr.blk k b hb).lt fun j j1 j2 => by omega), hr.inj, hr.glob, hr.gsz⟩
  generalize (callFunc f (args.map (renV μ κ)).toArray).run E.P w = r at *
  cases r with
  | halt x w' => exact hout.elim
  | ok nx w' =>
    cases nx with
    | value u => exact key _ _ hout
    | skip => exact key _ _ hout
    | enter g as =>
      obtain ⟨rfl, hc⟩ := hout
      exact ⟨rfl, hc.mono fun e w'' ⟨u, he, hu⟩ => ⟨u, he, key _ _ hu⟩⟩
    | _ => exact hout.elim
theorem sem_of_funcK (hE : EnvOk E base) (hL : LoopsOk E base) {d : Nat} {f : FuncId} {args : List Value} {h0 : Heap} {n0 : Nat} {v : Value} (hk : funcK E d f args h0 n0 (fun u _ _ mw => u = v ∧ n0 ≤ mw)) (hv : pureV 6 v = true)
    (ha : ∀ x ∈ args, pureV 6 x = true) (hh0 : HWF (· < n0) h0) (hg0 : E.P.globals.size ≤ n0) {h : Heap} (hsub : Sub h0 h) (n : Nat) : FuncSem E base f args h n v h n big := by
  obtain ⟨u, h', n', mw, ⟨rfl, hmw⟩, hs⟩ := funcK_sound hE hL d f args h0 n0 _ hk
  exact hs.anywhere hmw hv ha hh0 hg0 hsub n
theorem FuncSem.env {E' : Env} (hP : E'.P = E.P) {f : FuncId} {args : List Value} {n n' mw : Nat} {v : Value} {h h' : Heap} (hs : FuncSem E base f args h n v h' n' mw) : FuncSem E' base f args h n v h' n' mw := by
  unfold FuncSem OpWf at hs ⊢
  rw [hP]
  refine ⟨hs.1, fun μ κ w hr hh hx hg => ?_⟩
  have hout := hs.2 μ κ w hr hh hx hg
  generalize (callFunc f (args.map (renV μ κ)).toArray).run E.P w = r at *
  have key : ∀ u w', Out E base h' v mw n n' μ κ w u w' → Out E' base h' v mw n n' μ κ w u w' := fun u w' ⟨μ', κ', st, hu, hrel⟩ => ⟨μ', κ', st, hu, by rw [hP]; exact hrel⟩
  cases r with
  | halt x w' => exact hout.elim
  | ok nx w' =>
    cases nx with
    | value u => exact key _ _ hout
    | skip =>
      obtain ⟨μ', κ', st, hu, hrel⟩ := hout
      exact ⟨μ', κ', st, hu, by rw [hP]; exact hrel⟩
    | enter g as =>
      obtain ⟨rfl, hc⟩ := hout
      refine ⟨rfl, ?_⟩
      rw [hP]
      exact hc.mono fun e w'' ⟨u, he, hu⟩ => ⟨u, he, key _ _ hu⟩
    | _ => exact hout.elim
end
end Go.Pe

namespace Go.Pe
open Go Go.RowKit Go.ChangeShapes
abbrev Rule := List Value → Heap → Nat → Option ((Value → Heap → Nat → Nat → Prop) → Prop)
def findR : List (Nat × Rule) → Nat → List Value → Heap → Nat → Option ((Value → Heap → Nat → Nat → Prop) → Prop)
  | [], _, _, _, _ => none
  | (g, R) :: l, f, args, h, n => match Nat.beq g f with | true => R args h n | false => findR l f args h n
def RuleOk (P : Program) (base : World) (f : FuncId) (R : Rule) : Prop :=
  ∀ E : Env, E.P = P → ∀ args h n T K, R args h n = some T → T K → ∃ v h' n' mw, K v h' n' mw ∧ FuncSem E base f args h n v h' n' mw
def plainOk (P : Program) : Bool :=
  P.types.toList.all (fun i => match i.zero with | some z => pureV 6 z | none => true) && P.funcs.toList.all (fun fn => !(fn.name == "runtime.NumGoroutine"))
theorem findR_ok {P : Program} {base : World} {E : Env} (hE : E.P = P) {args : List Value} {h : Heap} {n : Nat} {T : (Value → Heap → Nat → Nat → Prop) → Prop} {K : Value → Heap → Nat → Nat → Prop} {f : FuncId} : ∀ rules : List (Nat × Rule),
    (∀ x ∈ rules, RuleOk P base x.1 x.2) → findR rules f args h n = some T → T K → ∃ v h' n' mw, K v h' n' mw ∧ FuncSem E base f args h n v h' n' mw := by
  intro rules
  induction rules with
  | nil => intro _ h; cases h
  | cons x rules ih =>
    intro hr hf hT
    obtain ⟨g, R⟩ := x
    simp only [findR] at hf
    split at hf
    · rename_i hb
      have := beq_true hb
      subst this
      exact hr _ (List.mem_cons_self ..) E hE args h n T K hf hT
    · exact ih (fun x hx => hr x (List.mem_cons_of_mem _ hx)) hf hT
theorem envOk_of {E : Env} {base : World} {rules : List (Nat × Rule)} (hstr : E.strF = strAt) (ho : E.oracle = findR rules) (hm : E.P.follows .mixedOrders = true) (hp : plainOk E.P = true) (hr : ∀ x ∈ rules, RuleOk E.P base x.1 x.2)
    (he : ∀ t a b r, E.eqAgg t a b = some r → ∀ μ κ w, (∀ op x y, (eqGuard op t x y (.agg (a.map (renV μ κ)).toArray) (.agg (b.map (renV μ κ)).toArray)).run E.P w = .ok () w) ∧
    (Op.equal t (.agg (a.map (renV μ κ)).toArray) (.agg (b.map (renV μ κ)).toArray)).run E.P w = .ok r w)
    (hs : ∀ f fn c, E.sure f = true → E.P.funcs[f]? = some fn → fn.body = some c → codeOk E.P.globals.size c = true := by intro _ _ _ h; cases h) : EnvOk E base := by
  simp only [plainOk, Bool.and_eq_true, List.all_eq_true] at hp
  refine ⟨hstr, hm, fun t i z hlt hi hz => ?_, fun f args h n T K hT hK => ?_, he, fun f fn hf hb args w => ?_, hs⟩
  · have := hp.1 i (Array.mem_toList_iff.2 (Array.mem_of_getElem? (show E.P.types[t]? = some i from by
      simp only [Tables.info?, if_pos hlt] at hi
      exact hi)))
    rw [hz] at this
    exact this
  · rw [ho] at hT
    exact findR_ok rfl rules hr hT hK
  · have hn := hp.2 fn (Array.mem_toList_iff.2 (Array.mem_of_getElem? hf))
    have h1 : fn.name ≠ "runtime.NumGoroutine" := by simpa using hn
    have h2 : fn.body ≠ none := by cases hx : fn.body <;> simp [hx] at hb ⊢
    simp [callFunc, hf, h1, h2]
/-! Tables -/
def tabBlk (k : IntKind) (zs : List Int) : Blk := { cells := zs.map fun z => some (.int k z), elem := 0, own := false, room := 0, iter := none }
theorem blkOk_tab {P : Program} {W : World} {name : String} {k : IntKind} {zs : List Int} {g : Nat} (h : Lib.TabIs P W name k zs) (hg : P.globalNamed name = some g) : BlkOk W id (fun _ => 0) g (tabBlk k zs) W := by
  unfold Lib.TabIs World.var? at h
  rw [hg] at h
  simp only [Option.bind_some] at h
  split at h
  · rename_i cs t fr hw
    cases h
    have key : ∃ c e fr, W.heap[id g]? = some (.cells c e fr) ∧ ((tabBlk k zs).own = true → e = (tabBlk k zs).elem ∧ W.heap.size ≤ id g ∧ fr = (0, 0)) ∧
      (tabBlk k zs).cells.length ≤ c.size ∧ (∀ (j : Nat) v, (tabBlk k zs).cells[j]? = some (some v) → c[j]? = some (renV id (fun _ => 0) v)) ∧ ((tabBlk k zs).room ≠ 0 → c.size = 0 * (tabBlk k zs).room) ∧
      ((tabBlk k zs).room = 0 → (tabBlk k zs).own = true → c.size = (tabBlk k zs).cells.length) := by
      refine ⟨_, _, _, hw, (fun h => by cases h), (by simp [tabBlk]), (fun j v hj => ?_), (fun h => absurd rfl h), (fun _ h => by cases h)⟩
      simp only [tabBlk, List.getElem?_map] at hj
      cases hz : zs[j]? with
      | none => simp [hz] at hj
      | some z =>
        simp [hz] at hj
        subst hj
        simp [hz]
    exact key
  · cases h
theorem rel_start {P : Program} {W : World} (hs : W.ShapedOpen P) (hlow : decide (P.globals.size < (begin P (fun _ _ => 0) default).world.heap.size) = true) {h : Heap} (hb : ∀ k b, getBlk h k = some b → BlkOk W id (fun _ => 0) k b W) : Rel P W id (fun _ => 0) h W := by
  refine ⟨Below.refl _ _, hb, fun i j _ _ _ _ e => e, fun _ _ => rfl, ?_⟩
  obtain ⟨o, o0, h1, _⟩ := hs.2 P.globals.size (Nat.le_refl _) (of_decide_eq_true hlow)
  exact Nat.le_of_lt (Array.getElem?_eq_some_iff.1 h1).1
def heapOk (n : Nat) (h : Heap) : Bool := h.all fun x => Nat.blt x.1 n && x.2.cells.all fun c => match c with | some v => pureV 6 v | none => true
theorem getBlk_mem {h : Heap} {k : Nat} {b : Blk} (hb : getBlk h k = some b) : (k, b) ∈ h := by
  induction h with
  | nil => simp [getBlk] at hb
  | cons x h ih =>
    obtain ⟨j, c⟩ := x
    rw [getBlk_cons] at hb
    split at hb
    · rename_i e; subst e; cases hb; exact List.mem_cons_self ..
    · exact List.mem_cons_of_mem _ (ih hb)
theorem hwf_of {n : Nat} {h : Heap} (hk : heapOk n h = true) : HWF (· < n) h := by
  intro k b hb
  have := List.all_eq_true.1 hk _ (getBlk_mem hb)
  simp only [Bool.and_eq_true, List.all_eq_true] at this
  refine ⟨by simpa [Nat.blt_eq] using this.1, fun v hv => ?_⟩
  have := this.2 _ hv
  exact WF.pure this
/-! A law's close -/
section
variable {H : Type} {enc : TypeId × Value → H} {P : Program} {W W' : World}
theorem trodAll_stays (hl : laidOutB P = true) (hb : Below W.heap.size W W') {sp : Nat → Bool} : ∀ (ts : List TypeId) (vs : List Value) (ds : List (DataW H)) (ps : List MemPlace), ts.all (fun t => P.readableRec t && decide (t < P.types.size)) = true →
    DataW.TrodAll enc P W 0 (fun _ => true) true ts vs ds ps → (∀ x ∈ ps, x.block < W.heap.size) → (∀ x ∈ ps, sp x.block = true) → DataW.TrodAll enc P W' 0 sp true ts vs ds ps := by
  intro ts
  induction ts with
  | nil =>
    intro vs ds ps _ h _ _
    obtain ⟨rfl, rfl, rfl⟩ := trodAll_nil h
    exact trodAll_mk0
  | cons t ts ih =>
    intro vs ds ps ht h hlt hsp
    simp only [List.all_cons, Bool.and_eq_true, decide_eq_true_eq] at ht
    obtain ⟨v, vs', d, ds', p, q, rfl, rfl, rfl, h1, h2⟩ := trodAll_cons h
    exact trodAll_cons_mk (WideElems.Trod_stays hl ht.1.1 ht.1.2 h1 (fun x hx => hb.same (hlt x (List.mem_append_left _ hx))) fun x hx => hsp x (List.mem_append_left _ hx))
      (ih vs' ds' q ht.2 h2 (fun x hx => hlt x (List.mem_append_right _ hx)) fun x hx => hsp x (List.mem_append_right _ hx))
theorem post_law {f : Func} {s : ChangeSpec} {apart fresh handsOn again : Bool} {args : Array Value} {ds gs : List (DataW H)} {before : List MemPlace} {tb : TypeId}
    (hW : DataW.Whole enc P f.params.toList s.vars apart W args.toList ds gs before) (hvars : s.vars = []) (hfn : s.fn H ds = { results := [.lit (.bool true)], args := ds, vars := [] })
    (hl : laidOutB P = true) (hts : f.params.toList.all (fun t => P.readableRec t && decide (t < P.types.size)) = true) (hres : f.resultTypes = #[tb]) (hbool : P.underlying tb = some .bool) (hb : Below W.heap.size W W') :
    s.post enc P f apart fresh handsOn again W args (.bool true) W' := by
  have hW' := hW
  obtain ⟨p, q, hA, hV, rfl, hz, hn⟩ := hW
  rw [hvars] at hV
  obtain ⟨rfl, rfl⟩ := trodVars_none hV
  have hlt : ∀ x ∈ p, x.block < W.heap.size := fun x hx => by simpa using hW'.lt x (List.mem_append_left _ hx)
  have hfn' : s.fn H (ds ++ []) = { results := [.lit (.bool true)], args := ds, vars := [] } := by rw [List.append_nil]; exact hfn
  have hr : ∀ (b : Nat) (sp : Nat → Bool) (hd : Bool), DataW.TrodAll enc P W' b sp hd f.resultTypes.toList ((Value.bool true).resultList f.resultTypes.size) (s.fn H (ds ++ [])).results [] := fun b sp hd => by
    rw [hfn', hres]
    exact trodAll_cons_mk (shut_bool hbool _) trodAll_mk0
  have ha : ∀ sp : Nat → Bool, (∀ x ∈ p, sp x.block = true) → DataW.TrodAll enc P W' 0 sp true f.params.toList args.toList (s.fn H (ds ++ [])).args p := fun sp hsp => by
    rw [hfn']
    exact trodAll_stays hl hb _ _ _ _ hts hA hlt hsp
  have hv : ∀ sp : Nat → Bool, DataW.TrodVars enc P W' sp s.vars (s.fn H (ds ++ [])).vars [] := fun sp => by rw [hfn', hvars]; rfl
  refine ⟨ds, [], p ++ [], [], p, [], hW', hr _ _ _, ha _ (fun x hx => by simpa using hlt x hx), hv _, World.keptBut_mono (fun x hx => ⟨hx, ?_⟩) (hb.frame _), fun _ => ?_⟩
  · exact .inr (by simpa using hx)
  · refine ⟨ok_one hres rfl (okWide_bool_mk hbool _), _, _, ([] ++ p) ++ [], ⟨[] ++ p, [], trodAll_append (ha _ (fun _ _ => rfl)) (hr _ _ _), hv _, rfl, ?_, ?_⟩, ?_⟩
    · intro b off hp
      have hp' : MemPlace.cell b off ∈ p := by simpa using hp
      rw [hb.frozen (p := ⟨b, off, none⟩) (hlt _ hp')]
      exact hz b off (by simpa using hp')
    · intro hap
      have := hn hap
      simpa using this
    · intro x hx _
      simpa using hx
end
end Go.Pe

namespace Go.Pe
open Go Go.RowKit
def carryV (x y c : Int) : Value := .tuple #[.int .u64 ((x + y + c) % 18446744073709551616), .int .u64 ((x + y + c) / 18446744073709551616)]
def borrowV (x y c : Int) : Value := .tuple #[.int .u64 ((x - y - c) % 18446744073709551616), .int .u64 (match decide (x < y + c) with | true => 1 | false => 0)]
def ruleAdd : Rule := fun args h n => match args with
  | [.int .u64 x, .int .u64 y, .int .u64 c] => some fun K => chk (decide (0 ≤ x) && decide (0 ≤ y) && decide (0 ≤ c) && decide (c ≤ 1)) (K (carryV x y c) h n big)
  | _ => none
def ruleSub : Rule := fun args h n => match args with
  | [.int .u64 x, .int .u64 y, .int .u64 c] => some fun K => chk (decide (0 ≤ x) && decide (x < 18446744073709551616) && decide (0 ≤ y) && decide (y < 18446744073709551616) && decide (0 ≤ c) && decide (c ≤ 1)) (K (borrowV x y c) h n big)
  | _ => none
def ruleCount : Rule := fun args h n => match args with
  | [.string s, .int .u8 c] => some fun K => K (.int .i64 (Lib.countByte s.data.toList c.toNat.toUInt8)) h n big
  | _ => none
def ruleIndexByte : Rule := fun args h n => match args with
  | [.string s, .int .u8 c] => some fun K => K (.int .i64 (Lib.indexByte s.data.toList c.toNat.toUInt8)) h n big
  | _ => none
def ruleSame : Rule := fun args h n => match args with
  | [x] => some fun K => K x h n big
  | _ => none
structure InPlace (P : Program) (f : FuncId) (e : Array Value → Sem Value) : Prop where
  run : ∀ (args : Array Value) (w : World), (callFunc f args).run P w = ((e args).run P w).andThen fun v w' => .ok (.value v) w'
theorem inPlace {P : Program} {f : FuncId} {e : Array Value → Sem Value} (fn : Func) (hf : P.funcs[f]? = some fn) (hname : (fn.name == "runtime.NumGoroutine") = false) (hb : fn.body.isNone = true) (hn : Extern.findNext fn = none)
    (he : Extern.find fn = some e) : InPlace P f e := ⟨fun args w => run_callFunc_extern hf hname hb hn he args w⟩
section
variable {P : Program} {base : World} {f : FuncId}
theorem ruleOk_value {e : Array Value → Sem Value} (I : InPlace P f e) {R : Rule} (h : ∀ args h n T K, R args h n = some T → T K → ∃ v, K v h n big ∧ (∀ D : Nat → Prop, (∀ x ∈ args, WF D x) → WF D v) ∧
    ∀ μ κ w, (e (args.map (renV μ κ)).toArray).run P w = .ok (renV μ κ v) w) : RuleOk P base f R := by
  intro E hE args hp n T K hT hK
  obtain ⟨v, h1, h2, h3⟩ := h args hp n T K hT hK
  refine ⟨v, hp, n, big, h1, FuncSem.ofValue (fun μ κ w => ?_) h2 hp n⟩
  rw [hE, I.run, h3]
  rfl
theorem ruleOk_add (I : InPlace P f add64Entry) : RuleOk P base f ruleAdd := by
  refine ruleOk_value I fun args h n T K hT hK => ?_
  unfold ruleAdd at hT
  split at hT
  · rename_i x y c
    cases hT
    obtain ⟨hc, hK⟩ := chk_true hK
    simp only [Bool.and_eq_true, decide_eq_true_eq] at hc
    refine ⟨_, hK, fun D _ => WF.pure (d := 6) rfl, fun μ κ w => ?_⟩
    have := run_add64 (P := P) x y c hc.1.1.1 hc.1.1.2 hc.1.2 hc.2 w
    simpa [carryV] using this
  · cases hT
theorem ruleOk_same (I : InPlace P f Extern.AbiNoEscape.same) : RuleOk P base f ruleSame := by
  refine ruleOk_value I fun args h n T K hT hK => ?_
  unfold ruleSame at hT
  split at hT
  · rename_i x
    cases hT
    exact ⟨_, hK, fun D hD => hD x (by simp), fun μ κ w => rfl⟩
  · cases hT
theorem ruleOk_count (I : InPlace P f Extern.BytealgCount.count) : RuleOk P base f ruleCount := by
  refine ruleOk_value I fun args h n T K hT hK => ?_
  unfold ruleCount at hT
  split at hT
  · rename_i s c
    cases hT
    exact ⟨_, hK, fun D _ => WF.int _ _, fun μ κ w => Lib.run_countString s c w⟩
  · cases hT
theorem ruleOk_indexByte (I : InPlace P f Extern.BytealgIndexByte.indexByte) : RuleOk P base f ruleIndexByte := by
  refine ruleOk_value I fun args h n T K hT hK => ?_
  unfold ruleIndexByte at hT
  split at hT
  · rename_i s c
    cases hT
    refine ⟨_, hK, fun D _ => WF.int _ _, fun μ κ w => ?_⟩
    have := run_indexByte_string (P := P) s c w
    rw [Lib.firstIdx_eq] at this
    exact this
  · cases hT
def sub64Entry : Array Value → Sem Value := fun args => do
  let (x, y, b) ← Extern.MathBitsCarry.three "Sub64" args
  pure (Extern.MathBitsCarry.pair ((x + Extern.MathBitsCarry.m64 - y - b) % Extern.MathBitsCarry.m64) (if x < y + b then 1 else 0))
theorem ruleOk_sub (I : InPlace P f sub64Entry) : RuleOk P base f ruleSub := by
  refine ruleOk_value I fun args h n T K hT hK => ?_
  unfold ruleSub at hT
  split at hT
  · rename_i x y c
    cases hT
    obtain ⟨hc, hK⟩ := chk_true hK
    simp only [Bool.and_eq_true, decide_eq_true_eq] at hc
    obtain ⟨⟨⟨⟨⟨x0, x1⟩, y0⟩, y1⟩, c0⟩, c1⟩ := hc
    refine ⟨_, hK, fun D _ => WF.pure (d := 6) rfl, fun μ κ w => ?_⟩
    obtain ⟨X, rfl⟩ := Int.eq_ofNat_of_zero_le x0
    obtain ⟨Y, rfl⟩ := Int.eq_ofNat_of_zero_le y0
    obtain ⟨C, rfl⟩ := Int.eq_ofNat_of_zero_le c0
    have key : (sub64Entry #[.int .u64 X, .int .u64 Y, .int .u64 C]).run P w =
        .ok (.tuple #[.int .u64 (((X + 18446744073709551616 - Y - C) % 18446744073709551616 : Nat) : Int), .int .u64 ((if X < Y + C then 1 else 0 : Nat) : Int)]) w := by
      have : C = 0 ∨ C = 1 := by omega
      rcases this with rfl | rfl <;> rfl
    have e1 : ((X : Int) - Y - C) % 18446744073709551616 = (((X + 18446744073709551616 - Y - C) % 18446744073709551616 : Nat) : Int) := by omega
    have e2 : (match decide ((X : Int) < Y + C) with | true => (1 : Int) | false => 0) = ((if X < Y + C then 1 else 0 : Nat) : Int) := by
      by_cases hlt : X < Y + C
      · have : (X : Int) < Y + C := by omega
        simp [hlt, this]
      · have : ¬ (X : Int) < Y + C := by omega
        simp [hlt, this]
    have hv : renV μ κ (borrowV X Y C) = .tuple #[.int .u64 (((X + 18446744073709551616 - Y - C) % 18446744073709551616 : Nat) : Int), .int .u64 ((if X < Y + C then 1 else 0 : Nat) : Int)] := by
      unfold borrowV
      rw [e1, e2]
      simp
    rw [hv]
    exact key
  · cases hT
end
end Go.Pe
