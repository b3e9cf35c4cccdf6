/-
  The evaluator's soundness, twelfth part: regions whose order is drawn: each operation, and the whole.
-/
import Derived.Test.YtolniekeocnanaaGreatDoorPeM
namespace Go.Pe
open Go Go.RowKit

section
variable {E : Env} {base : World} {ops : List Oper} {σ : Nat → St} {rf : Nat → List (Nat × Nat × Nat)} {lf : Nat → List (Nat × Nat)}
variable {μ0 κ0 μ κ : Nat → Nat} {w0 w : World} {S : Nat → Prop} {a : Act} {i : Nat} {o : Oper}

theorem Run.own_cls (R : Run E base ops σ rf lf) (ho : ops[i]? = some o) {k : Nat} (hk : own σ i k) : clsOf o.op = 3 := by
  obtain ⟨_, _, _, h⟩ := R.step i o ho
  have a := hk.1
  have b := hk.2
  rcases h with ⟨_, h⟩ | ⟨_, ⟨_, V, v, h, n, mw, H, h1, h2, h3, h4, h5⟩ | ⟨_, t, a, x, ad, sz, h', _, _, _, _, _, _, _, h⟩⟩
  · rw [h, putS_next] at b; omega
  · rw [h4, putS_next] at b
    rcases h5 with ⟨_, h5⟩ | ⟨h5, _⟩
    · omega
    · exact h5
  · rw [h, putS_next] at b; omega

theorem Inv.below (_I : Inv E base ops σ μ0 κ0 w0 S μ κ a w) (R : Run E base ops σ rf lf) (hg : E.P.globals.size ≤ (σ 0).next) (ht : TWF (· < (σ 0).next) (σ 0)) (ho : ops[i]? = some o) :
    ∀ x ∈ o.op.operands.toList, WF (· < (σ i).next) (evalO (σ i).tmps x) := fun x hx =>
  (R.twf hg ht (i := i) (by have := ltO ho; omega)).eval (fun g hgg => Nat.lt_of_lt_of_le hgg (Nat.le_trans hg (R.next_le i (Nat.zero_le _) (by have := ltO ho; omega)))) (List.all_eq_true.1 (R.opers i o ho) x hx)

/-- An operation that is no store. -/
theorem inv_new (R : Run E base ops σ rf lf) (hg : E.P.globals.size ≤ (σ 0).next) (ht : TWF (· < (σ 0).next) (σ 0)) (I : Inv E base ops σ μ0 κ0 w0 S μ κ a w) (ho : ops[i]? = some o) (hi : ¬ S i)
    (hr : ∀ e ∈ o.after, Region.binds .any e = true → S e.on) (hd : ∀ d, o.dst = some d → d < (σ i).size) (hs : StepN E base ops (σ 0).next o i (rf i) (lf (i + 1)) (σ i) (σ (i + 1)))
    {N : Act → World → Prop} {Q : Exit → Act → World → Prop} (hN : ∀ μ' κ' a' w', Inv E base ops σ μ0 κ0 w0 (plus S i) μ' κ' a' w' → N a' w') : o.wp E.P a w N Q := by
  have hlt := ltO ho
  have hti := R.twf hg ht (i := i) (by omega)
  have hgi := Nat.le_trans hg (R.next_le i (Nat.zero_le _) (by omega))
  obtain ⟨q, HS, q1, q2, q3, q4, q5, q6⟩ := I.hs
  obtain ⟨hc2, V, v, h, n, mw, H, h1, h2, h3, h4, h5⟩ := hs
  have hn : (σ (i + 1)).next = n := by rw [h4, putS_next]
  have hle : (σ i).next ≤ n := by rcases h5 with ⟨_, h5⟩ | ⟨_, h5, _⟩ <;> omega
  have hnN : n ≤ (σ ops.length).next := by rw [← hn]; exact R.next_le _ (by omega) (Nat.le_refl _)
  have hV : ∀ k b, getBlk V k = some b → getBlk HS k = some b := by
    intro k b hb
    obtain ⟨p1, p2, p3, p4⟩ := h3 k b hb
    have hpa := R.vis (by omega) p1
    refine (q4 k b).2 ⟨PA_seen (fun j hj => I.ahead ho hr hj) hpa, ?_⟩
    have hiq := q3 i o ho p4 hc2
    rw [R.heapN (R.PA_lt hlt hpa) q (by omega) q1 fun m hm hmq hh => ?_]
    · exact p2
    · obtain ⟨p, hp⟩ := getO (ops := ops) (i := m) (by omega)
      have hpc := hh.cls hp
      have hSm := (q2 m p hp hpc).2 hmq
      have hne : i ≠ m := fun e => by subst e; exact hi hSm
      have hna : i ∉ anc ops m := fun h => hi (anc_in I.shut hp hSm h)
      rcases p3 with p3 | p3
      · rcases R.static.st m p i o hp hpc ho (by omega) with h | h | h
        · omega
        · omega
        · exact hna h
      · exact apart_spec (R.hit hh).2.2 (R.lmono m (by omega) (by omega) p3) hna rfl
  have hout := h1.2 μ κ w a.eval (q6.fewer hV) (I.opd R ho hi hr) (hti.1.sub fun k b hb => (h3 k b hb).2.1) (I.below R hg ht ho) hgi
  have fin : ∀ u w', Out E base h v mw (σ i).next n μ κ w u w' → N (a.put o.dst u) w' := by
    intro u w' ⟨μ', κ', st, hu, hrel⟩
    have hag : ∀ k, seen σ S k → μ' k = μ k ∧ κ' k = κ k := fun k hk => by
      have := I.not_own R hlt hi hk
      refine st.ag k ?_
      unfold own at this
      rw [hn] at this
      omega
    obtain ⟨t1, t2, t3⟩ := I.slots R hg ht ho hi (u := u) hd hag fun t e => by rw [h4, getTmp_put, if_pos e]; exact hu
    have hown : ∀ k, own σ i k → getBlk (σ q).heap k = getBlk h k := by
      intro k hk
      have hc3 := R.own_cls ho hk
      have hiq := q3 i o ho (by omega) hc2
      have hlo := hk.1
      rw [R.heapN (i := i + 1) hk.2 q hiq q1 fun m hm hmq hh => ?_, h4, putS_heap]
      · have hold : getBlk (σ i).heap k = none := by
          cases hgb : getBlk (σ i).heap k with
          | none => rfl
          | some b => have := (hti.1 k b hgb).1; omega
        rcases h5 with ⟨_, h5⟩ | ⟨_, _, rfl⟩
        · have := hk.2; omega
        · rw [getBlk_append, hold, Option.or_none, getBlk_keepH, if_pos (Nat.ble_eq_true_of_le hlo)]
      · obtain ⟨p, hp⟩ := getO (ops := ops) (i := m) (by omega)
        have hSm := (q2 m p hp (hh.cls hp)).2 hmq
        rcases (R.hit hh).2.1 with h | ⟨j, hj, h⟩
        · have := R.own_ge hlt hk; omega
        · have := R.own_inj (by have := anc_lt m j (by omega) hj; omega) hlt h hk
          subst this
          exact hi (anc_in I.shut hp hSm hj)
    obtain ⟨HN, hget⟩ : ∃ HN : Heap, ∀ k, getBlk HN k = if (σ i).next ≤ k ∧ k < n then getBlk h k else getBlk HS k := by
      refine ⟨keepH (fun k => Nat.ble (σ i).next k && Nat.blt k n) h ++ HS, fun k => ?_⟩
      rw [getBlk_append, getBlk_keepH]
      by_cases hk : (σ i).next ≤ k ∧ k < n
      · have e : (Nat.ble (σ i).next k && Nat.blt k n) = true := by simp [Nat.ble_eq_true_of_le hk.1, Nat.blt_eq, hk.2]
        rw [if_pos e, if_pos hk]
        have : getBlk HS k = none := by
          cases hgb : getBlk HS k with
          | none => rfl
          | some b => exact absurd ⟨hk.1, by rw [hn]; exact hk.2⟩ (I.not_own R hlt hi ((q4 k b).1 hgb).1)
        rw [this, Option.or_none]
      · have e : ¬ (Nat.ble (σ i).next k && Nat.blt k n) = true := by
          simp only [Bool.and_eq_true]
          intro ⟨e1, e2⟩
          exact hk ⟨ble_true e1, by simpa [Nat.blt_eq] using e2⟩
        rw [if_neg e, if_neg hk, Option.none_or]
    have hdec : ∀ k, own σ i k ↔ (σ i).next ≤ k ∧ k < n := fun k => by unfold own; rw [hn]
    refine hN μ' κ' _ _ ⟨plus_shut I.shut ho hr, fun j hj => hj.elim (I.dom j) fun e => by omega, ⟨q, HN, q1, fun j p hp hpc => ?_, q3, fun k b => ?_, fun k b hb => ?_, ?_⟩, t1, t2, t3, by rw [df_put]; exact I.df,
      fun k hk => ?_, fun m k hm hk => ?_, Nat.le_trans I.hsz st.sz, fun b hb hh => ?_⟩
    · rw [← q2 j p hp hpc]
      constructor
      · rintro (h | rfl)
        · exact h
        · rw [ho] at hp; cases hp; exact absurd hpc hc2
      · exact .inl
    · rw [hget]
      split
      · rename_i hk
        have hk' := (hdec k).2 hk
        rw [hown k hk']
        exact ⟨fun h => ⟨seen_plus (.inr hk'), h⟩, fun h => h.2⟩
      · rename_i hk
        rw [q4]
        constructor
        · rintro ⟨h, hb⟩; exact ⟨seen_plus (.inl h), hb⟩
        · rintro ⟨h, hb⟩; exact ⟨(own_plus h).resolve_right fun h => hk ((hdec k).1 h), hb⟩
    · rw [hget] at hb
      split at hb
      · rename_i hk
        have hk' := (hdec k).2 hk
        refine ⟨seen_plus (.inr hk'), fun u hu => ?_⟩
        have hb' : getBlk (σ (i + 1)).heap k = some b := by
          have hold : getBlk (σ i).heap k = none := by
            cases hgb : getBlk (σ i).heap k with
            | none => rfl
            | some b => have := (hti.1 k b hgb).1; omega
          rw [h4, putS_heap]
          rcases h5 with ⟨_, h5⟩ | ⟨_, _, rfl⟩
          · omega
          · rw [getBlk_append, hold, Option.or_none, getBlk_keepH, if_pos (Nat.ble_eq_true_of_le hk.1)]; exact hb
        exact ((R.wfV hg ht i o ho).2.1 k b hk' hb' u hu).mono fun j hj => by
          rcases hj with hj | hj
          · exact seen_plus (.inl (PA_seen (fun m hm => I.ahead ho hr hm) hj))
          · exact seen_plus (.inr hj)
      · have := q5 k b hb
        exact ⟨seen_plus (.inl this.1), fun u hu => (this.2 u hu).mono fun j hj => seen_plus (.inl hj)⟩
    · have hold : ∀ k b, ¬ ((σ i).next ≤ k ∧ k < n) → getBlk HS k = some b → μ' k = μ k ∧ κ' k = κ k ∧ μ k < w.heap.size := fun k b hk hb => by
        have := hag k ((q4 k b).1 hb).1
        exact ⟨this.1, this.2, (q6.blk k b hb).lt⟩
      have hnew : ∀ k, ((σ i).next ≤ k ∧ k < n) → w.heap.size ≤ μ' k := fun k hk => by
        rcases st.nw k hk.1 hk.2 with h | ⟨j, j1, j2, _⟩
        · exact h
        · omega
      refine ⟨hrel.below, fun k b hb => ?_, fun k j x y hx hy e => ?_, hrel.glob, hrel.gsz⟩
      · rw [hget] at hb
        split at hb
        · exact hrel.blk k b hb
        · rename_i hk
          obtain ⟨e1, e2, e3⟩ := hold k b hk hb
          exact (q6.blk k b hb).same e1 e2 (fun u hu => (q5 k b hb).2 u hu _ _ _ _ hag) (st.fr _ e3 fun j j1 j2 => by omega)
      · rw [hget] at hx hy
        split at hx <;> split at hy
        · exact hrel.inj k j x y hx hy e
        · rename_i k1 k2
          have := hnew k k1
          have := hold j y k2 hy
          omega
        · rename_i k1 k2
          have := hnew j k2
          have := hold k x k1 hx
          omega
        · rename_i k1 k2
          have a1 := hold k x k1 hx
          have a2 := hold j y k2 hy
          exact q6.inj k j x y hx hy (by omega)
    · have h0 := R.next_le (i := 0) i (Nat.zero_le _) (by omega)
      have a1 := st.ag k (by omega)
      have a2 := I.nm k hk
      exact ⟨a1.1.trans a2.1, a1.2.trans a2.2⟩
    · rcases hm with hm | rfl
      · rw [(hag k (.inr ⟨m, hm, hk⟩)).1]; exact I.nw m k hm hk
      · rcases st.nw k hk.1 (by rw [← hn]; exact hk.2) with h | ⟨j, j1, j2, _⟩
        · exact Nat.le_trans I.hsz h
        · omega
    · rw [st.fr b (Nat.lt_of_lt_of_le hb I.hsz) fun j j1 j2 => by omega, I.fr b hb hh]
  unfold Oper.wp
  generalize (execOp a.eval o).run E.P w = r at *
  cases r with
  | halt x w' => exact hout.elim
  | ok nx w' =>
    cases nx with
    | value u => exact fin u w' hout
    | skip => exact fin _ w' hout
    | enter f args =>
      obtain ⟨rfl, hc⟩ := hout
      refine Calls.mono hc fun e w'' he => ?_
      obtain ⟨u, rfl, hu⟩ := he
      exact fin u w'' hu
    | _ => exact hout.elim

/-- A store. -/
theorem inv_store (R : Run E base ops σ rf lf) (hg : E.P.globals.size ≤ (σ 0).next) (ht : TWF (· < (σ 0).next) (σ 0)) (I : Inv E base ops σ μ0 κ0 w0 S μ κ a w) (ho : ops[i]? = some o) (hi : ¬ S i)
    (hr : ∀ e ∈ o.after, Region.binds .any e = true → S e.on) (hd : ∀ d, o.dst = some d → d < (σ i).size) (hs : StepS E ops (σ 0).next o i (rf i) (lf i) (σ i) (σ (i + 1)))
    {N : Act → World → Prop} {Q : Exit → Act → World → Prop} (hN : ∀ μ' κ' a' w', Inv E base ops σ μ0 κ0 w0 (plus S i) μ' κ' a' w' → N a' w') : o.wp E.P a w N Q := by
  have hlt := ltO ho
  have hti := R.twf hg ht (i := i) (by omega)
  have hgi := Nat.le_trans hg (R.next_le i (Nat.zero_le _) (by omega))
  obtain ⟨q, HS, q1, q2, q3, q4, q5, q6⟩ := I.hs
  obtain ⟨hc, t, ao, x, ad, sz, h', g1, g2, g3, g4, g5, g6, g7, h1⟩ := hs
  have hqi : q ≤ i := by
    refine Classical.byContradiction fun h => ?_
    exact hi ((q2 i o ho hc).2 (by omega))
  have hbtw : ∀ (j : Nat) p, q ≤ j → j < i → ops[j]? = some p → clsOf p.op = 0 := fun j p hj hji hp => by
    refine Classical.byContradiction fun h0 => ?_
    by_cases hpc : clsOf p.op = 2
    · rcases R.static.st i o j p ho hc hp hji with h | h | h
      · omega
      · omega
      · have := (q2 j p hp hpc).1 (I.ahead ho hr h); omega
    · have := q3 j p hp h0 hpc; omega
  obtain ⟨f1, f2⟩ := R.flat hg ht (q := q) i hqi (by omega) hbtw
  have hpa := R.vis (i := i) (by omega) g6
  have hseen := PA_seen (fun j hj => I.ahead ho hr hj) hpa
  obtain ⟨b, c, e1, e2, e3⟩ := storeO_get g5
  have hHS : getBlk HS ad.block = some b := (q4 _ _).2 ⟨hseen, by rw [← f2]; exact e1⟩
  have hst := e3 HS hHS
  have hsem := sound_store (E := E) (base := base) (h := HS) (n := (σ i).next) g1 g2 g3 g4 hst
  have hHw : HWF (· < (σ i).next) HS := fun k d hk => by
    have hk := ((q4 k d).1 hk).2
    rw [← f2] at hk
    exact hti.1 k d hk
  have hout := hsem.2 μ κ w a.eval q6 (I.opd R ho hi hr) hHw (I.below R hg ht ho) hgi
  have noown : ∀ k, ¬ own σ i k := fun k hk => by
    have a := hk.1; have b := hk.2; rw [h1, putS_next] at b; omega
  have hsp : ∀ k, seen σ (plus S i) k ↔ seen σ S k := fun k => ⟨fun h => (own_plus h).resolve_right (noown k), fun h => seen_plus (.inl h)⟩
  have fin : ∀ u w', Out E base (setBlk HS ad.block c) undef ad.block (σ i).next (σ i).next μ κ w u w' → N (a.put o.dst u) w' := by
    intro u w' ⟨μ', κ', st, hu, hrel⟩
    have hμ : μ' = μ := funext fun k => (st.ag k (by omega)).1
    have hκ : κ' = κ := funext fun k => (st.ag k (by omega)).2
    subst hμ hκ
    obtain ⟨t1, t2, t3⟩ := I.slots R hg ht ho hi (u := u) hd (fun _ _ => ⟨rfl, rfl⟩) fun t e => by rw [h1, getTmp_put, if_pos e]; exact hu
    refine hN μ' κ' _ _ ⟨plus_shut I.shut ho hr, fun j hj => hj.elim (I.dom j) fun e => by omega, ⟨i + 1, _, by omega, fun j p hp hpc => ?_, fun j p hp h0 h2 => by have := q3 j p hp h0 h2; omega, fun k d => ?_, ?_, hrel⟩, t1, t2, t3,
      by rw [df_put]; exact I.df, I.nm, fun m k hm hk => ?_, Nat.le_trans I.hsz st.sz, fun b hb hh => ?_⟩
    · constructor
      · rintro (h | rfl)
        · have := (q2 j p hp hpc).1 h; omega
        · omega
      · intro h
        by_cases e : j = i
        · exact .inr e
        · refine .inl ((q2 j p hp hpc).2 ?_)
          refine Classical.byContradiction fun hge => ?_
          have := hbtw j p (by omega) (by omega) hp
          omega
    · rw [h1, putS_heap, e2, getBlk_set, getBlk_set, hsp]
      split
      · rename_i e
        subst e
        rw [hHS, e1]
        simp [hseen]
      · rw [f2]; exact q4 k d
    · refine (storeO_wf hst q5 fun y hy => ?_).mono fun k hk => (hsp k).2 hk
      have := (R.wfV hg ht i o ho).2.2 x (by simp [g1, Op.operands])
      exact (this.cells y hy).mono fun k hk => PA_seen (fun j hj => I.ahead ho hr hj) hk
    · rcases hm with hm | rfl
      · exact I.nw m k hm hk
      · exact absurd hk (noown k)
    · rw [st.fr b (Nat.lt_of_lt_of_le hb I.hsz) fun j j1 j2 => ?_, I.fr b hb hh]
      by_cases hj : j < (σ 0).next
      · rw [(I.nm j (.inl hj)).1]
        refine hh j ?_ hj
        have m1 := (R.mw_le (i := i + 1) ops.length (by omega) (Nat.le_refl _)).1
        have m2 : (σ (i + 1)).mw ≤ ad.block := by rw [h1, putS_mw]; exact Nat.min_le_right _ _
        omega
      · rcases R.own_ex i (by omega) j2 with h | ⟨m, hm, h⟩
        · omega
        · obtain ⟨p, hp⟩ := getO (ops := ops) (i := m) (by omega)
          have hpc := R.own_cls hp h
          rcases R.static.st i o m p ho hc hp hm with h' | h' | h'
          · omega
          · omega
          · have := I.nw m j (I.ahead ho hr h') h; omega
  unfold Oper.wp
  generalize (execOp a.eval o).run E.P w = r at *
  cases r with
  | halt x w' => exact hout.elim
  | ok nx w' =>
    cases nx with
    | value u => exact fin u w' hout
    | skip => exact fin _ w' hout
    | enter f args =>
      obtain ⟨rfl, hc⟩ := hout
      refine Calls.mono hc fun e w'' he => ?_
      obtain ⟨u, rfl, hu⟩ := he
      exact fin u w'' hu
    | _ => exact hout.elim

/-- Any operation that may come next. -/
theorem inv_step (R : Run E base ops σ rf lf) (hg : E.P.globals.size ≤ (σ 0).next) (ht : TWF (· < (σ 0).next) (σ 0)) (I : Inv E base ops σ μ0 κ0 w0 S μ κ a w) (ho : ops[i]? = some o) (hi : ¬ S i)
    (hr : ∀ e ∈ o.after, Region.binds .any e = true → S e.on) {N : Act → World → Prop} {Q : Exit → Act → World → Prop} (hN : ∀ μ' κ' a' w', Inv E base ops σ μ0 κ0 w0 (plus S i) μ' κ' a' w' → N a' w') :
    wpOp E.P ops.toArray Q i N a w := by
  unfold wpOp
  have ho' : ops.toArray[i]? = some o := by simpa using ho
  rw [ho']
  simp only [I.wanted R ho hi hr]
  obtain ⟨hd, _, _, h⟩ := R.step i o ho
  rcases h with ⟨hw, h⟩ | ⟨hw, h | h⟩
  · rw [if_neg (by simp [hw])]
    exact hN _ _ _ _ (inv_skip R hg ht I ho hi hr hd h)
  · rw [if_pos hw]
    exact .inl (inv_new R hg ht I ho hi hr hd h hN)
  · rw [if_pos hw]
    exact .inl (inv_store R hg ht I ho hi hr hd h hN)

def listedS (listed : Array Bool) (i : Nat) : Prop := listed.getD i false = true

theorem Inv.congr {S S' : Nat → Prop} (h : ∀ i, S i ↔ S' i) (I : Inv E base ops σ μ0 κ0 w0 S μ κ a w) : Inv E base ops σ μ0 κ0 w0 S' μ κ a w := by
  have : S = S' := funext fun i => propext (h i)
  exact this ▸ I

theorem listed_set {listed : Array Bool} {i : Nat} (hi : i < listed.size) (j : Nat) : plus (listedS listed) i j ↔ listedS (listed.setIfInBounds i true) j := by
  unfold plus listedS
  by_cases e : i = j
  · subst e
    simp [hi]
  · rw [getD_set_ne false e]
    constructor
    · rintro (h | h)
      · exact h
      · exact absurd h.symm e
    · exact .inl

theorem drawn_any (R : Run E base ops σ rf lf) (hr0 : StRel E base μ0 κ0 (σ 0) a w0) {Q : Exit → Act → World → Prop} (hQ : ∀ a' w', StOut E base (σ 0) (σ ops.length) μ0 κ0 w0 a' w' → Q .normal a' w') :
    ∀ (fuel : Nat) (listed : Array Bool) (μ κ : Nat → Nat) (a : Act) (w : World) (L : List Nat), listed.size = ops.length → Inv E base ops σ μ0 κ0 w0 (listedS listed) μ κ a w → L.length ≤ fuel → (∀ i, i < ops.length → ¬ listedS listed i → i ∈ L) →
      wpAny E.P .any ops.toArray Q fuel listed a w := by
  have hall : ∀ (listed : Array Bool) (μ κ : Nat → Nat) (a : Act) (w : World), Inv E base ops σ μ0 κ0 w0 (listedS listed) μ κ a w → listed.size = ops.length → Region.ready .any ops.toArray listed = [] → Q .normal a w := by
    intro listed μ κ a w I hsz hnil
    refine hQ _ _ (inv_end R hr0 I fun i => ?_)
    induction i using Nat.strongRecOn with
    | _ i ih =>
      intro hi
      refine Classical.byContradiction fun hno => ?_
      obtain ⟨o, ho⟩ := getO hi
      have : i ∈ Region.ready .any ops.toArray listed := by
        refine mem_ready.2 ⟨?_, o, by simpa using ho, fun e he hb => ih e.on (R.static.fw i o ho e he hb) (by have := R.static.fw i o ho e he hb; omega)⟩
        have hlt : i < listed.size := by omega
        unfold listedS at hno
        simp only [Array.getD_eq_getD_getElem?, Array.getElem?_eq_getElem hlt, Option.getD_some] at hno ⊢
        simpa using hno
      rw [hnil] at this
      cases this
  have hmem : ∀ (listed : Array Bool) i, listed.size = ops.length → i ∈ Region.ready .any ops.toArray listed → i < ops.length ∧ ¬ listedS listed i ∧ ∃ o, ops[i]? = some o ∧ ∀ e ∈ o.after, Region.binds .any e = true → listedS listed e.on := by
    intro listed i hsz hi
    obtain ⟨h0, o, ho, hall⟩ := mem_ready.1 hi
    have ho' : ops[i]? = some o := by simpa using ho
    refine ⟨ltO ho', fun h => ?_, o, ho', hall⟩
    unfold listedS at h
    have hlt : i < listed.size := by have := ltO ho'; omega
    simp only [Array.getD_eq_getD_getElem?, Array.getElem?_eq_getElem hlt, Option.getD_some] at h h0
    rw [h] at h0; cases h0
  intro fuel
  induction fuel with
  | zero =>
    intro listed μ κ a w L hsz I hL hc
    have hnil : Region.ready .any ops.toArray listed = [] := by
      refine List.eq_nil_iff_forall_not_mem.2 fun i hi => ?_
      obtain ⟨h1, h2, _⟩ := hmem listed i hsz hi
      have := hc i h1 h2
      have hn : L = [] := List.length_eq_zero_iff.1 (by omega)
      rw [hn] at this; cases this
    exact ⟨hnil, hall listed μ κ a w I hsz hnil⟩
  | succ fuel ih =>
    intro listed μ κ a w L hsz I hL hc
    refine ⟨hall listed μ κ a w I hsz, fun i hi => ?_⟩
    obtain ⟨h1, h2, o, ho, hr⟩ := hmem listed i hsz hi
    refine inv_step R hr0.gl hr0.wf I ho h2 hr fun μ' κ' a' w' I' => ?_
    have hlt : i < listed.size := by omega
    refine ih _ μ' κ' a' w' (L.erase i) (by simpa using hsz) (I'.congr (listed_set hlt)) ?_ fun j hj hno => ?_
    · have := List.length_erase_of_mem (hc i h1 h2)
      have : 0 < L.length := List.length_pos_of_mem (hc i h1 h2)
      omega
    · have hne : j ≠ i := fun e => hno ((listed_set hlt j).1 (.inr e))
      exact (List.mem_erase_of_ne hne).2 (hc j hj fun h => hno ((listed_set hlt j).1 (.inl h)))

theorem StRel.drawn {s : St} {n : Nat} (h : StRel E base μ κ s a w) : StRel E base μ κ s a { w with drawn := n } :=
  ⟨⟨⟨h.rel.below.os, h.rel.below.tape, h.rel.below.output, h.rel.below.size, h.rel.below.block⟩, h.rel.blk, h.rel.inj, h.rel.glob, h.rel.gsz⟩, h.sz, h.tmp, h.df, h.dw, h.wf, h.gl⟩

theorem StOut.drawn {s s' : St} {n : Nat} {a' : Act} {w' : World} (h : StOut E base s s' μ κ { w with drawn := n } a' w') : StOut E base s s' μ κ w a' w' := by
  obtain ⟨μ', κ', h1, h2⟩ := h
  exact ⟨μ', κ', ⟨h1.le, h1.ag, h1.sz, h1.fr, h1.nw⟩, h2⟩

theorem drawnK_sound (hE : EnvOk E base) {call : CallFn} (hcall : CallOk E base call) {s : St} {K : St → Prop} (hok : ops.all (operOk E.P.globals.size) = true) (hk : drawnK E call ops s K) :
    ∃ s', K s' ∧ Sem1 E s s' ∧ ∀ id μ κ a w, StRel E base μ κ s a w → ∀ Q : Exit → Act → World → Prop, (∀ a' w', StOut E base s s' μ κ w a' w' → Q .normal a' w') → (Code.region id ops.toArray true).wp E.P Q a w := by
  unfold drawnK at hk
  obtain ⟨hst, hk⟩ := chk_true hk
  obtain ⟨σ, rf, lf, h1, h2, h3, h4, h5⟩ := drawK_run hE hcall ops 0 [] [] s hk
  simp only [Nat.zero_add] at h4 h5
  have R : Run E base ops σ rf lf := ⟨static_of hst, fun i o ho => List.all_eq_true.1 hok o (List.mem_of_getElem? ho), h2, fun i o ho => by rw [h1]; exact h5 i o ho⟩
  subst h1
  refine ⟨_, h4, ⟨R.swf ops.length (Nat.zero_le _) (Nat.le_refl _), (R.mw_le (i := 0) ops.length (Nat.zero_le _) (Nat.le_refl _)).1, (R.mw_le (i := 0) ops.length (Nat.zero_le _) (Nat.le_refl _)).2, fun D _ _ _ hd => by
    rw [R.df ops.length (Nat.le_refl _)]
    exact hd.mono Dp_mono⟩, fun id μ κ a w hr Q hQ => ?_⟩
  refine wp_region_any hE.mixed ?_
  have hr' := hr.drawn (n := w.drawn + 1)
  have hfalse : ∀ i, ¬ listedS (Array.replicate ops.toArray.size false) i := fun i h => by
    unfold listedS at h
    simp only [Array.getD_eq_getD_getElem?, Array.getElem?_replicate] at h
    split at h <;> simp at h
  refine drawn_any R hr' (fun a' w' h => hQ a' w' h.drawn) _ _ μ κ a _ (List.range ops.length) (by simp) ((inv_start R hr').congr fun i => ⟨False.elim, fun h => hfalse i h⟩) (by simp) fun i hi _ => by simpa using hi

end
end Go.Pe
