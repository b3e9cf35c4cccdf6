/-
  The evaluator's soundness, eleventh part: regions whose order is drawn: every order.
-/
import Derived.Test.YtolniekeocnanaaGreatDoorPeL
namespace Go.Pe
open Go Go.RowKit

section
variable {E : Env} {base : World} {ops : List Oper} {σ : Nat → St} {rf : Nat → List (Nat × Nat × Nat)} {lf : Nat → List (Nat × Nat)}

def seen (σ : Nat → St) (S : Nat → Prop) (k : Nat) : Prop := k < (σ 0).next ∨ ∃ m, S m ∧ own σ m k

/-- What holds when these operations are carried out. -/
structure Inv (E : Env) (base : World) (ops : List Oper) (σ : Nat → St) (μ0 κ0 : Nat → Nat) (w0 : World) (S : Nat → Prop) (μ κ : Nat → Nat) (a : Act) (w : World) : Prop where
  shut : Shut ops S
  dom : ∀ i, S i → i < ops.length
  hs : ∃ q HS, q ≤ ops.length ∧ (∀ (j : Nat) o, ops[j]? = some o → clsOf o.op = 2 → (S j ↔ j < q)) ∧ (∀ (j : Nat) o, ops[j]? = some o → clsOf o.op ≠ 0 → clsOf o.op ≠ 2 → j < q) ∧
    (∀ k b, getBlk HS k = some b ↔ seen σ S k ∧ getBlk (σ q).heap k = some b) ∧ HWF (seen σ S) HS ∧ Rel E.P base μ κ HS w
  sz : a.tmps.size = (σ 0).size
  s1 : ∀ (j : Nat) o t, S j → ops[j]? = some o → o.dst = some t → a.tmps.getD t undef = renV μ κ (getTmp (σ (j + 1)).tmps t)
  s2 : ∀ t, (∀ (j : Nat) o, S j → ops[j]? = some o → o.dst ≠ some t) → a.tmps.getD t undef = renV μ κ (getTmp (σ 0).tmps t)
  df : a.defers = (σ 0).df.map (defOf μ0 κ0)
  nm : ∀ k, (k < (σ 0).next ∨ (σ ops.length).next ≤ k) → μ k = μ0 k ∧ κ k = κ0 k
  nw : ∀ m k, S m → own σ m k → w0.heap.size ≤ μ k
  hsz : w0.heap.size ≤ w.heap.size
  fr : ∀ b, b < w0.heap.size → (∀ k, (σ ops.length).mw ≤ k → k < (σ 0).next → μ0 k ≠ b) → w.heap[b]? = w0.heap[b]?

variable {μ0 κ0 μ κ : Nat → Nat} {w0 w : World} {S : Nat → Prop} {a : Act} {i : Nat} {o : Oper}

def plus (S : Nat → Prop) (i : Nat) : Nat → Prop := fun j => S j ∨ j = i

theorem plus_shut (hS : Shut ops S) (ho : ops[i]? = some o) (hr : ∀ e ∈ o.after, Region.binds .any e = true → S e.on) : Shut ops (plus S i) := by
  intro j p hp hj e he hb
  rcases hj with hj | rfl
  · exact .inl (hS j p hp hj e he hb)
  · rw [ho] at hp; cases hp
    exact .inl (hr e he hb)

theorem Inv.ahead (I : Inv E base ops σ μ0 κ0 w0 S μ κ a w) (ho : ops[i]? = some o) (hr : ∀ e ∈ o.after, Region.binds .any e = true → S e.on) {j : Nat} (hj : j ∈ anc ops i) : S j := anc_shut I.shut i o ho hr j hj

theorem PA_seen (h : ∀ j, j ∈ anc ops i → S j) {k : Nat} (hk : PA ops σ i k) : seen σ S k := by
  rcases hk with hk | ⟨m, hm, hk⟩
  · exact .inl hk
  · exact .inr ⟨m, h m hm, hk⟩

/-- A slot as the operation finds it. -/
theorem Inv.slot (I : Inv E base ops σ μ0 κ0 w0 S μ κ a w) (R : Run E base ops σ rf lf) (ho : ops[i]? = some o) (hi : ¬ S i) (hr : ∀ e ∈ o.after, Region.binds .any e = true → S e.on) {t : Nat}
    (ht : ∀ (j : Nat) p, ops[j]? = some p → p.dst = some t → j ∈ anc ops i ∨ i = j ∨ i ∈ anc ops j) : a.tmps.getD t undef = renV μ κ (getTmp (σ i).tmps t) := by
  have hlt := ltO ho
  by_cases hex : ∃ (j : Nat) (p : Oper), S j ∧ ops[j]? = some p ∧ p.dst = some t
  · obtain ⟨j, p, hj, hp, hd⟩ := hex
    rw [I.s1 j p t hj hp hd]
    rcases ht j p hp hd with h | h | h
    · rw [R.slotB hp hd (anc_lt i j hlt h) (by omega)]
    · subst h; exact absurd hj hi
    · exact absurd (anc_in I.shut hp hj h) hi
  · rw [I.s2 t fun j p hj hp e => hex ⟨j, p, hj, hp, e⟩, R.slotA (i := 0) i (Nat.zero_le _) (by omega) fun m p _ hm hp e => ?_]
    rcases ht m p hp e with h | h | h
    · exact hex ⟨m, p, I.ahead ho hr h, hp, e⟩
    · omega
    · have := anc_lt m i (by omega) h; omega

theorem Inv.wanted (I : Inv E base ops σ μ0 κ0 w0 S μ κ a w) (R : Run E base ops σ rf lf) (ho : ops[i]? = some o) (hi : ¬ S i) (hr : ∀ e ∈ o.after, Region.binds .any e = true → S e.on) :
    Region.wanted o (yielded ops.toArray a.tmps) = Region.wanted o (guardV ops (σ i).tmps) := by
  refine wanted_congr fun j b hg => guard_gen (μ := μ) (κ := κ) fun p d hp hd => ?_
  rw [nth_eq] at hp
  refine I.slot R ho hi hr fun l q hq hqd => .inl ?_
  have := R.static.dst j p l q d hp hq hd hqd
  subst this
  exact R.static.gd i o j b ho hg

theorem Inv.opd (I : Inv E base ops σ μ0 κ0 w0 S μ κ a w) (R : Run E base ops σ rf lf) (ho : ops[i]? = some o) (hi : ¬ S i) (hr : ∀ e ∈ o.after, Region.binds .any e = true → S e.on) :
    ∀ x ∈ o.op.operands.toList, a.eval x = renV μ κ (evalO (σ i).tmps x) := by
  intro x hx
  obtain ⟨q, HS, _, _, _, _, _, hrel⟩ := I.hs
  refine eval_gen hrel.glob (fun t e => ?_) (List.all_eq_true.1 (R.opers i o ho) x hx)
  subst e
  exact I.slot R ho hi hr fun j p hp hd => R.static.opd i o t j p ho hx hp hd

/-- Where no store lies between, and nothing that takes names: one and the same heap. -/
theorem Run.flat (R : Run E base ops σ rf lf) (_hg : E.P.globals.size ≤ (σ 0).next) (_ht : TWF (· < (σ 0).next) (σ 0)) {q : Nat} : ∀ i, q ≤ i → i ≤ ops.length → (∀ (j : Nat) o, q ≤ j → j < i → ops[j]? = some o → clsOf o.op = 0) →
    (σ i).next = (σ q).next ∧ ∀ k, getBlk (σ i).heap k = getBlk (σ q).heap k := by
  intro i
  induction i with
  | zero => intro h _ _; have : q = 0 := by omega
            subst this; exact ⟨rfl, fun _ => rfl⟩
  | succ i ih =>
    intro h1 h2 hc
    by_cases e : q = i + 1
    · subst e; exact ⟨rfl, fun _ => rfl⟩
    · obtain ⟨o, ho⟩ := getO (ops := ops) (i := i) (by omega)
      obtain ⟨a, b⟩ := ih (by omega) (by omega) fun j o x y => hc j o x (by omega)
      have c0 := hc i o (by omega) (by omega) ho
      obtain ⟨_, _, _, h⟩ := R.step i o ho
      rcases h with ⟨_, h⟩ | ⟨_, ⟨hc2, V, v, h, n, mw, H, h1, h2, h3, h4, h5⟩ | ⟨hc2, _⟩⟩
      · rw [h, putS_next, putS_heap]; exact ⟨a, b⟩
      · rcases h5 with ⟨rfl, h5⟩ | ⟨h5, _⟩
        · rw [h4, putS_next, putS_heap]; exact ⟨h5.trans a, b⟩
        · omega
      · omega

theorem own_plus {k : Nat} (h : seen σ (plus S i) k) : seen σ S k ∨ own σ i k := by
  rcases h with h | ⟨m, h | rfl, hk⟩
  · exact .inl (.inl h)
  · exact .inl (.inr ⟨m, h, hk⟩)
  · exact .inr hk

theorem seen_plus {k : Nat} (h : seen σ S k ∨ own σ i k) : seen σ (plus S i) k := by
  rcases h with (h | ⟨m, h, hk⟩) | hk
  · exact .inl h
  · exact .inr ⟨m, .inl h, hk⟩
  · exact .inr ⟨i, .inr rfl, hk⟩

theorem Inv.not_own (I : Inv E base ops σ μ0 κ0 w0 S μ κ a w) (R : Run E base ops σ rf lf) (hlt : i < ops.length) (hi : ¬ S i) {k : Nat} (hk : seen σ S k) : ¬ own σ i k := by
  intro hown
  rcases hk with hk | ⟨m, hm, hk⟩
  · have := R.own_ge hlt hown; omega
  · have := R.own_inj (I.dom m hm) hlt hk hown
    subst this; exact hi hm

/-- What a slot holds is told by names that are given. -/
theorem Inv.slot_wf (I : Inv E base ops σ μ0 κ0 w0 S μ κ a w) (R : Run E base ops σ rf lf) (hg : E.P.globals.size ≤ (σ 0).next) (ht : TWF (· < (σ 0).next) (σ 0)) {j : Nat} {p : Oper} {t : Nat} (hj : S j) (hp : ops[j]? = some p) (hd : p.dst = some t) :
    WF (seen σ S) (getTmp (σ (j + 1)).tmps t) :=
  ((R.wfV hg ht j p hp).1 t hd).mono fun k hk => by
    rcases hk with hk | hk
    · exact PA_seen (fun m hm => anc_in I.shut hp hj hm) hk
    · exact .inr ⟨j, hj, hk⟩

/-- The slots, after one more is written, under names that are the same for what is given. -/
theorem Inv.slots (I : Inv E base ops σ μ0 κ0 w0 S μ κ a w) (R : Run E base ops σ rf lf) (hg : E.P.globals.size ≤ (σ 0).next) (ht : TWF (· < (σ 0).next) (σ 0)) (ho : ops[i]? = some o) (hi : ¬ S i) {μ' κ' : Nat → Nat} {u : Value}
    (hd : ∀ d, o.dst = some d → d < (σ i).size) (hag : ∀ k, seen σ S k → μ' k = μ k ∧ κ' k = κ k) (hu : ∀ t, o.dst = some t → u = renV μ' κ' (getTmp (σ (i + 1)).tmps t)) :
    (a.put o.dst u).tmps.size = (σ 0).size ∧
    (∀ (j : Nat) p t, plus S i j → ops[j]? = some p → p.dst = some t → (a.put o.dst u).tmps.getD t undef = renV μ' κ' (getTmp (σ (j + 1)).tmps t)) ∧
    (∀ t, (∀ (j : Nat) p, plus S i j → ops[j]? = some p → p.dst ≠ some t) → (a.put o.dst u).tmps.getD t undef = renV μ' κ' (getTmp (σ 0).tmps t)) := by
  have hsz := I.sz
  have hsi := (R.mw_le (i := 0) i (Nat.zero_le _) (by have := ltO ho; omega)).2
  have hd' : ∀ d, o.dst = some d → d < a.tmps.size := fun d h => by rw [hsz, ← hsi]; exact hd d h
  refine ⟨by rw [size_put]; exact hsz, fun j p t hj hp hdt => ?_, fun t hno => ?_⟩
  · rw [getD_put a o.dst u t hd']
    split
    · rename_i e
      have := R.static.dst i o j p t ho hp e hdt
      subst this
      exact hu t e
    · rename_i e
      rcases hj with hj | rfl
      · rw [I.s1 j p t hj hp hdt]
        exact (I.slot_wf R hg ht hj hp hdt _ _ _ _ fun k hk => hag k hk).symm
      · rw [ho] at hp; cases hp; exact absurd hdt e
  · rw [getD_put a o.dst u t hd', if_neg (hno i o (.inr rfl) ho), I.s2 t fun j p hj hp => hno j p (.inl hj) hp]
    exact (ht.2 t _ _ _ _ fun k hk => hag k (.inl hk)).symm

theorem Run.first (R : Run E base ops σ rf lf) : ∃ q, q ≤ ops.length ∧ (∀ (j : Nat) o, ops[j]? = some o → clsOf o.op = 2 → ¬ j < q) ∧ (∀ (j : Nat) o, ops[j]? = some o → clsOf o.op ≠ 0 → clsOf o.op ≠ 2 → j < q) := by
  have key : ∀ n, n ≤ ops.length → (∃ q, q < n ∧ (∃ o, ops[q]? = some o ∧ clsOf o.op = 2) ∧ ∀ (j : Nat) o, ops[j]? = some o → clsOf o.op = 2 → ¬ j < q) ∨ (∀ (j : Nat) o, ops[j]? = some o → clsOf o.op = 2 → ¬ j < n) := by
    intro n
    induction n with
    | zero => intro _; exact .inr fun j o _ _ => by omega
    | succ n ih =>
      intro hn
      rcases ih (by omega) with ⟨q, h1, h2, h3⟩ | h
      · exact .inl ⟨q, by omega, h2, h3⟩
      · obtain ⟨o, ho⟩ := getO (ops := ops) (i := n) (by omega)
        by_cases hc : clsOf o.op = 2
        · exact .inl ⟨n, by omega, ⟨o, ho, hc⟩, h⟩
        · refine .inr fun j p hp hpc hlt => ?_
          by_cases e : j = n
          · subst e; rw [ho] at hp; cases hp; exact hc hpc
          · exact h j p hp hpc (by omega)
  rcases key ops.length (Nat.le_refl _) with ⟨q, h1, ⟨o, ho, hc⟩, h3⟩ | h
  · refine ⟨q, by omega, h3, fun j p hp h0 h2 => ?_⟩
    refine Classical.byContradiction fun hge => ?_
    by_cases e : j = q
    · subst e; rw [ho] at hp; cases hp; exact h2 hc
    · exact R.static.hv j p q o hp h0 h2 ho (by omega) hc
  · exact ⟨ops.length, Nat.le_refl _, h, fun j p hp _ _ => ltO hp⟩

theorem inv_start (R : Run E base ops σ rf lf) (hr : StRel E base μ0 κ0 (σ 0) a w0) : Inv E base ops σ μ0 κ0 w0 (fun _ => False) μ0 κ0 a w0 := by
  obtain ⟨q, h1, h2, h3⟩ := R.first
  have hs : ∀ k, seen σ (fun _ => False) k → k < (σ 0).next := fun k hk => by
    rcases hk with hk | ⟨_, hk, _⟩
    · exact hk
    · exact hk.elim
  refine ⟨fun _ _ _ h => h.elim, fun _ h => h.elim, ⟨q, (σ 0).heap, h1, fun j o ho hc => ⟨False.elim, fun h => h2 j o ho hc h⟩, h3, fun k b => ?_, hr.wf.1.mono fun k hk => .inl hk, hr.rel⟩, hr.sz, fun _ _ _ h => h.elim, fun t _ => hr.tmp t, hr.df,
    fun _ _ => ⟨rfl, rfl⟩, fun _ _ h => h.elim, Nat.le_refl _, fun _ _ _ => rfl⟩
  have hh : ∀ k, k < (σ 0).next → getBlk (σ q).heap k = getBlk (σ 0).heap k := fun k hk => R.heapN hk q (Nat.zero_le _) h1 fun m _ hm hh => by
    obtain ⟨p, hp⟩ := getO (ops := ops) (i := m) (by omega)
    exact h2 m p hp (hh.cls hp) hm
  constructor
  · intro hb
    have := (hr.wf.1 k b hb).1
    exact ⟨.inl this, by rw [hh k this]; exact hb⟩
  · rintro ⟨hk, hb⟩
    rw [hh k (hs k hk)] at hb; exact hb

theorem inv_end (R : Run E base ops σ rf lf) (hr : StRel E base μ0 κ0 (σ 0) a w0) {a' : Act} (I : Inv E base ops σ μ0 κ0 w0 S μ κ a' w) (hall : ∀ i, i < ops.length → S i) : StOut E base (σ 0) (σ ops.length) μ0 κ0 w0 a' w := by
  obtain ⟨q, HS, h1, h2, h3, h4, h5, h6⟩ := I.hs
  have hnext := R.next_le (i := 0) ops.length (Nat.zero_le _) (Nat.le_refl _)
  have hN := R.twf hr.gl hr.wf (i := ops.length) (Nat.le_refl _)
  obtain ⟨f1, f2⟩ := R.flat hr.gl hr.wf (q := q) ops.length h1 (Nat.le_refl _) fun j o hj _ ho => by
    refine Classical.byContradiction fun h0 => ?_
    by_cases hc : clsOf o.op = 2
    · have := (h2 j o ho hc).1 (hall j (ltO ho)); omega
    · have := h3 j o ho h0 hc; omega
  refine ⟨μ, κ, ⟨hnext, I.nm, I.hsz, fun b hb hh => I.fr b hb hh, fun k k1 k2 => ?_⟩, h6.fewer fun k b hb => ?_, I.sz.trans (R.mw_le (i := 0) ops.length (Nat.zero_le _) (Nat.le_refl _)).2.symm, fun t => ?_, by
    rw [R.df ops.length (Nat.le_refl _), defs_same hr.dw fun k hk => I.nm k (.inl hk)]
    exact I.df, by
    rw [R.df ops.length (Nat.le_refl _)]
    exact hr.dw.mono fun k hk => Nat.lt_of_lt_of_le hk hnext, hN, Nat.le_trans hr.gl hnext⟩
  · rcases R.own_ex ops.length (Nat.le_refl _) k2 with h | ⟨m, hm, h⟩
    · omega
    · exact .inl (I.nw m k (hall m hm) h)
  · refine (h4 k b).2 ⟨?_, by rw [← f2]; exact hb⟩
    have hk := (hN.1 k b hb).1
    rcases R.own_ex ops.length (Nat.le_refl _) hk with h | ⟨m, hm, h⟩
    · exact .inl h
    · exact .inr ⟨m, hall m hm, h⟩
  · by_cases hex : ∃ (j : Nat) (p : Oper), ops[j]? = some p ∧ p.dst = some t
    · obtain ⟨j, p, hp, hd⟩ := hex
      rw [I.s1 j p t (hall j (ltO hp)) hp hd, R.slotB hp hd (ltO hp) (Nat.le_refl _)]
    · rw [I.s2 t fun j p _ hp e => hex ⟨j, p, hp, e⟩, R.slotA (i := 0) ops.length (Nat.zero_le _) (Nat.le_refl _) fun m p _ _ hp e => hex ⟨m, p, hp, e⟩]

/-- An operation whose names and blocks are as they were: passed over. -/
theorem inv_skip (R : Run E base ops σ rf lf) (hg : E.P.globals.size ≤ (σ 0).next) (ht : TWF (· < (σ 0).next) (σ 0)) (I : Inv E base ops σ μ0 κ0 w0 S μ κ a w) (ho : ops[i]? = some o) (hi : ¬ S i)
    (hr : ∀ e ∈ o.after, Region.binds .any e = true → S e.on) (hd : ∀ d, o.dst = some d → d < (σ i).size) (h1 : σ (i + 1) = putS (σ i) o.dst undef (σ i).heap (σ i).next big) :
    Inv E base ops σ μ0 κ0 w0 (plus S i) μ κ (a.put o.dst undef) w := by
  have hlt := ltO ho
  obtain ⟨q, HS, q1, q2, q3, q4, q5, q6⟩ := I.hs
  obtain ⟨t1, t2, t3⟩ := I.slots R hg ht ho hi (μ' := μ) (κ' := κ) (u := undef) hd (fun _ _ => ⟨rfl, rfl⟩) fun t e => by rw [h1, getTmp_put, if_pos e]; simp
  have noown : ∀ k, ¬ own σ i k := fun k hk => by
    have a := hk.1; have b := hk.2; rw [h1, putS_next] at b; omega
  have hseen : ∀ k, seen σ (plus S i) k ↔ seen σ S k := fun k => ⟨fun h => (own_plus h).resolve_right (noown k), fun h => seen_plus (.inl h)⟩
  refine ⟨plus_shut I.shut ho hr, fun j hj => hj.elim (I.dom j) fun e => by omega, ?_, t1, t2, t3, by rw [df_put]; exact I.df, I.nm, fun m k hm hk => ?_, I.hsz, I.fr⟩
  · by_cases hc : clsOf o.op = 2
    · have hqi : q ≤ i := by
        refine Classical.byContradiction fun h => ?_
        exact hi ((q2 i o ho hc).2 (by omega))
      have hbtw : ∀ (j : Nat) p, q ≤ j → j < i → ops[j]? = some p → clsOf p.op = 0 := fun j p hj hji hp => by
        refine Classical.byContradiction fun h0 => ?_
        by_cases hpc : clsOf p.op = 2
        · rcases R.static.st i o j p ho hc hp hji with h | h | h
          · omega
          · omega
          · have := (q2 j p hp hpc).1 (I.ahead ho hr h); omega
        · have := q3 j p hp h0 hpc; omega
      obtain ⟨f1, f2⟩ := R.flat hg ht (q := q) i hqi (by omega) hbtw
      refine ⟨i + 1, HS, by omega, fun j p hp hpc => ?_, fun j p hp h0 h2 => by have := q3 j p hp h0 h2; omega, fun k b => ?_, q5.mono fun k hk => (hseen k).2 hk, q6⟩
      · constructor
        · rintro (h | rfl)
          · have := (q2 j p hp hpc).1 h; omega
          · omega
        · intro h
          by_cases e : j = i
          · exact .inr e
          · refine .inl ((q2 j p hp hpc).2 ?_)
            refine Classical.byContradiction fun hge => ?_
            have := hbtw j p (by omega) (by omega) hp
            omega
      · rw [q4 k b, hseen, h1, putS_heap, f2]
    · refine ⟨q, HS, q1, fun j p hp hpc => ?_, q3, fun k b => ?_, q5.mono fun k hk => (hseen k).2 hk, q6⟩
      · rw [← q2 j p hp hpc]
        constructor
        · rintro (h | rfl)
          · exact h
          · rw [ho] at hp; cases hp; exact absurd hpc hc
        · exact .inl
      · rw [q4 k b, hseen]
  · rcases hm with hm | rfl
    · exact I.nw m k hm hk
    · exact absurd hk (noown k)

end
end Go.Pe
