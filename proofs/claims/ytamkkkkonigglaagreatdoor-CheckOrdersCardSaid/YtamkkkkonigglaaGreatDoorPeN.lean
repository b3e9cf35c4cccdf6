/-
  The evaluator's soundness, twelfth part: regions whose order is drawn: each operation, and the whole.
-/
import Derived.Test.YtamkkkkonigglaaGreatDoorPeM
namespace Go.Pe
open Go Go.RowKit

section
variable {E : Env} {base : World} {ops : List Oper} {σ : Nat → St} {rf : Nat → List (Nat × Nat × Nat)} {lf : Nat → Recs} {Vf : Nat → Heap} {mf : Nat → Nat}
variable {μ0 κ0 μ κ : Nat → Nat} {w0 w : World} {S : Nat → Prop} {a : Act} {i : Nat} {o : Oper}

theorem Inv.below (_I : Inv E base ops σ Vf mf μ0 κ0 w0 S μ κ a w) (R : Run E base ops σ rf lf Vf mf) (hg : E.P.globals.size ≤ (σ 0).next) (ht : TWF (· < (σ 0).next) (σ 0)) (ho : ops[i]? = some o) :
    ∀ x ∈ o.op.operands.toList, WF (· < (σ i).next) (evalO (σ i).tmps x) := fun x hx =>
  (R.twf hg ht (i := i) (by have := ltO ho; omega)).eval (fun g hgg => Nat.lt_of_lt_of_le hgg (Nat.le_trans hg (R.next_le i (Nat.zero_le _) (by have := ltO ho; omega)))) (List.all_eq_true.1 (R.opers i o ho) x hx)

theorem wp_of_out {h' : Heap} {v : Value} {mw n n' : Nat} {N : Act → World → Prop} {Q : Exit → Act → World → Prop} (hout : OpOut E base h' v mw n n' μ κ w ((execOp a.eval o).run E.P w))
    (fin : ∀ u w', Out E base h' v mw n n' μ κ w u w' → N (a.put o.dst u) w') : o.wp E.P a w N Q := by
  unfold Oper.wp
  generalize (execOp a.eval o).run E.P w = r at *
  cases r with
  | halt x w' => exact hout.elim
  | ok nx w' =>
    cases nx with
    | value u => exact fin u w' hout
    | skip => exact fin _ w' hout
    | enter f args =>
      obtain ⟨rfl, hc⟩ := hout
      refine Calls.mono hc fun e w'' he => ?_
      obtain ⟨u, rfl, hu⟩ := he
      exact fin u w'' hu
    | _ => exact hout.elim

/-- An operation on some blocks. -/
theorem inv_op (R : Run E base ops σ rf lf Vf mf) (hg : E.P.globals.size ≤ (σ 0).next) (ht : TWF (· < (σ 0).next) (σ 0)) (I : Inv E base ops σ Vf mf μ0 κ0 w0 S μ κ a w) (ho : ops[i]? = some o) (hi : ¬ S i)
    (hr : ∀ e ∈ o.after, Region.binds .any e = true → S e.on) (hd : ∀ d, o.dst = some d → d < (σ i).size) {v : Value} {h : Heap} {n : Nat} {H : Heap} {m : Nat} (h2 : OpSem E base o (evalO (σ i).tmps) (Vf i) (σ i).next v h n (mf i))
    (h4 : σ (i + 1) = putS (σ i) o.dst v H n m) (h5 : (∀ k b, getBlk (Vf i) k = some b → k < (σ i).next) → Merged (Vf i) (mf i) (σ i).next n h (σ i).heap H)
    (h6 : (σ i).next ≤ mf i ∨ (m ≤ mf i ∧ ∃ B, E.P.globals.size ≤ B ∧ B ≤ mf i ∧ B ≤ (σ i).next ∧ (∀ k b, getBlk (Vf i) k = some b → ∀ u, some u ∈ b.cells → WF (inD B (Vf i)) u) ∧ ∀ x ∈ o.op.operands.toList, WF (inD B (Vf i)) (evalO (σ i).tmps x)))
    {N : Act → World → Prop} {Q : Exit → Act → World → Prop} (hN : ∀ μ' κ' a' w', Inv E base ops σ Vf mf μ0 κ0 w0 (plus S i) μ' κ' a' w' → N a' w') : o.wp E.P a w N Q := by
  have hlt := ltO ho
  have hti := R.twf hg ht (i := i) (by omega)
  have hgi := Nat.le_trans hg (R.next_le i (Nat.zero_le _) (by omega))
  have h0i := R.next_le (i := 0) i (Nat.zero_le _) (by omega)
  obtain ⟨HS, c, q3, q4, q5, q6⟩ := I.hs
  have hn : (σ (i + 1)).next = n := by rw [h4, putS_next]
  have hnN : n ≤ (σ ops.length).next := by rw [← hn]; exact R.next_le _ (by omega) (Nat.le_refl _)
  have hM := R.merged hlt h5
  have hV : ∀ k b, getBlk (Vf i) k = some b → getBlk HS k = some b := fun k b hb => by
    have hs := PA_seen (σ := σ) (fun j hj => I.ahead ho hr hj) (R.foot hlt hb).2.1
    obtain ⟨c1, c2⟩ := q3 k hs
    exact (q4 k b).2 (I.foot R hg ht ho hi hr hb c1 c2)
  have hown : ∀ k, own σ i k ↔ (σ i).next ≤ k ∧ k < n := fun k => by unfold own; rw [hn]
  have hseen : ∀ k, seen σ S k → ¬ ((σ i).next ≤ k ∧ k < n) := fun k hk h => I.not_own R hlt hi hk ((hown k).2 h)
  have hVw : HWF (· < (σ i).next) (Vf i) := hti.1.sub fun k b hb => (R.foot hlt hb).1
  obtain ⟨HT, hT⟩ : ∃ HT : Heap, ∀ k b, getBlk HT k = some b ↔ touch σ Vf mf i k ∧ getBlk h k = some b := by
    refine ⟨keepH (fun k => inW (Vf i) (mf i) k || newIn (σ i).next (σ (i + 1)).next k) h, fun k b => ?_⟩
    have dec : (inW (Vf i) (mf i) k || newIn (σ i).next (σ (i + 1)).next k) = true ↔ touch σ Vf mf i k := by
      rw [Bool.or_eq_true, inW_iff, newIn_iff]
      exact or_comm
    rw [getBlk_keepH]
    split
    · rename_i hp; exact ⟨fun h => ⟨dec.1 hp, h⟩, fun h => h.2⟩
    · rename_i hp; exact ⟨fun h => (nomatch h), fun h => absurd (dec.2 h.1) hp⟩
  have hT2 : ∀ k b, getBlk HT k = some b ↔ touch σ Vf mf i k ∧ getBlk (σ (i + 1)).heap k = some b := fun k b => by
    rw [hT]
    constructor
    · rintro ⟨t1, t2⟩; exact ⟨t1, by rw [R.heapT hg ht hlt hn (by rw [h4, putS_heap]) hM t1]; exact t2⟩
    · rintro ⟨t1, t2⟩; exact ⟨t1, by rw [R.heapT hg ht hlt hn (by rw [h4, putS_heap]) hM t1] at t2; exact t2⟩
  rcases h6 with h6 | ⟨_, B, gB, g1, gN, g2, g3⟩
  · have hout := h2.2 μ κ w a.eval (q6.fewer hV) (I.opd R ho hi hr) hVw (I.below R hg ht ho) hgi
    refine wp_of_out hout fun u w' ⟨μ', κ', st, hu, hrel⟩ => hN μ' κ' _ _ ?_
    have hag : ∀ k, seen σ S k → μ' k = μ k ∧ κ' k = κ k := fun k hk => by
      have := hseen k hk
      exact st.ag k (by omega)
    refine inv_put R hg ht I ho hi hr hd hag (fun k hk => st.ag k (by omega)) (fun t e => by rw [h4, getTmp_put, if_pos e]; exact hu) st.sz (fun b hb _ => st.fr b hb fun j j1 j2 => by omega) (fun k hk => ?_) hT2 (hrel.fewer fun k b hb => ((hT k b).1 hb).2)
    rcases st.nw k ((hown k).1 hk).1 ((hown k).1 hk).2 with h | ⟨j, j1, j2, _⟩
    · exact .inl h
    · omega
  · have hDn : ∀ k, inD B (Vf i) k → k < (σ i).next := fun k hk => by
      rcases hk with hk | ⟨b, hb⟩
      · omega
      · exact (R.foot hlt hb).2.2
    obtain ⟨μ1, hμ1, hμ2⟩ : ∃ μ1 : Nat → Nat, (∀ k, inD B (Vf i) k → μ1 k = μ k) ∧ ∀ k, ¬ inD B (Vf i) k → w.heap.size ≤ μ1 k := by
      have dec : ∀ k, inB B (Vf i) k = true ↔ inD B (Vf i) k := fun k => by
        refine ⟨inB_iff, fun h => ?_⟩
        unfold inB
        split
        · rfl
        · rename_i hb
          rcases h with h | ⟨b, h⟩
          · have : Nat.blt k B = true := by simpa [Nat.blt_eq] using h
            rw [this] at hb; cases hb
          · exact hasB_iff.2 ⟨b, h⟩
      refine ⟨fun k => if inB B (Vf i) k = true then μ k else w.heap.size + k, fun k hk => if_pos ((dec k).2 hk), fun k hk => ?_⟩
      show _ ≤ if inB B (Vf i) k = true then μ k else w.heap.size + k
      rw [if_neg fun h => hk ((dec k).1 h)]
      omega
    have hcell : ∀ u : Value, WF (inD B (Vf i)) u → renV μ1 κ u = renV μ κ u := fun u hu => hu μ κ μ1 κ fun k hk => ⟨hμ1 k hk, rfl⟩
    have hrel1 : Rel E.P base μ1 κ (Vf i) w := by
      refine ⟨q6.below, fun k b hb => ?_, fun k j x y hx hy e => ?_, fun g hgg => by rw [hμ1 g (.inl (Nat.lt_of_lt_of_le hgg gB))]; exact q6.glob g hgg, q6.gsz⟩
      · exact (q6.blk k b (hV k b hb)).same (hμ1 k (.inr ⟨b, hb⟩)) rfl (fun u hu => hcell u (g2 k b hb u hu)) rfl
      · rw [hμ1 k (.inr ⟨x, hx⟩), hμ1 j (.inr ⟨y, hy⟩)] at e
        exact q6.inj k j x y (hV k x hx) (hV j y hy) e
    have hout := h2.2 μ1 κ w a.eval hrel1 (fun x hx => by rw [I.opd R ho hi hr x hx, hcell _ (g3 x hx)]) hVw (I.below R hg ht ho) hgi
    obtain ⟨w1, w2⟩ := h2.1.2 (inD B (Vf i)) hDn (fun g hgg => .inl (Nat.lt_of_lt_of_le hgg gB)) (fun y hy => by
        obtain ⟨x, hx, rfl⟩ := List.mem_map.1 hy
        exact g3 x hx) (fun k b hb => ⟨.inr ⟨b, hb⟩, g2 k b hb⟩)
    refine wp_of_out hout fun u w' ⟨μ', κ', st, hu, hrel⟩ => ?_
    obtain ⟨μ3, κ3, e1, e2⟩ : ∃ μ3 κ3 : Nat → Nat, (∀ k, (σ i).next ≤ k ∧ k < n → μ3 k = μ' k ∧ κ3 k = κ' k) ∧ ∀ k, ¬ ((σ i).next ≤ k ∧ k < n) → μ3 k = μ k ∧ κ3 k = κ k :=
      ⟨fun k => if (σ i).next ≤ k ∧ k < n then μ' k else μ k, fun k => if (σ i).next ≤ k ∧ k < n then κ' k else κ k, fun k hk => ⟨if_pos hk, if_pos hk⟩, fun k hk => ⟨if_neg hk, if_neg hk⟩⟩
    have hag : ∀ k, Dp (inD B (Vf i)) (σ i).next n k → μ3 k = μ' k ∧ κ3 k = κ' k := fun k hk => by
      by_cases hb : (σ i).next ≤ k ∧ k < n
      · exact e1 k hb
      · have hk := hk.resolve_right hb
        have hl := hDn k hk
        have a1 := e2 k hb
        have a2 := st.ag k (.inl hl)
        rw [a1.1, a1.2, a2.1, a2.2, hμ1 k hk]
        exact ⟨rfl, rfl⟩
    have hwr : ∀ j, Wr (Vf i) (mf i) j → inD B (Vf i) j := fun j hj => .inr hj.2
    refine hN μ3 κ3 _ _ (inv_put R hg ht I ho hi hr hd (fun k hk => e2 k (hseen k hk)) (fun k hk => e2 k (by omega)) (fun t e => ?_) st.sz (fun b hb hh => st.fr b hb fun j j1 j2 e => ?_) (fun k hk => ?_) hT2 ⟨hrel.below, fun k b hb => ?_, fun k j x y hx hy e => ?_, fun g hgg => ?_, hrel.gsz⟩)
    · rw [h4, getTmp_put, if_pos e, hu]
      exact (w1 _ _ _ _ hag).symm
    · by_cases hj : inD B (Vf i) j
      · rcases hj with hj | hj
        · omega
        · exact hh j ⟨j1, hj⟩ (by rw [← hμ1 j (.inr hj)]; exact e)
      · have := hμ2 j hj; omega
    · have hk := (hown k).1 hk
      rw [(e1 k hk).1]
      rcases st.nw k hk.1 hk.2 with h | ⟨j, j1, j2, j3⟩
      · exact .inl h
      · by_cases hj : inD B (Vf i) j
        · have hb := hj.resolve_left (by omega)
          exact .inr ⟨j, ⟨j1, hb⟩, by rw [j3, hμ1 j hj]⟩
        · exact .inl (by rw [j3]; exact hμ2 j hj)
    · have hb' := ((hT k b).1 hb).2
      obtain ⟨d1, d2⟩ := w2 k b hb'
      obtain ⟨a1, a2⟩ := hag k d1
      exact (hrel.blk k b hb').same a1 a2 (fun u hu => d2 u hu _ _ _ _ hag) rfl
    · have hx' := ((hT k x).1 hx).2
      have hy' := ((hT j y).1 hy).2
      rw [(hag k (w2 k x hx').1).1, (hag j (w2 j y hy').1).1] at e
      exact hrel.inj k j x y hx' hy' e
    · rw [(hag g (.inl (.inl (Nat.lt_of_lt_of_le hgg gB)))).1]; exact hrel.glob g hgg

/-- A store. -/
theorem inv_store (R : Run E base ops σ rf lf Vf mf) (hg : E.P.globals.size ≤ (σ 0).next) (ht : TWF (· < (σ 0).next) (σ 0)) (I : Inv E base ops σ Vf mf μ0 κ0 w0 S μ κ a w) (ho : ops[i]? = some o) (hi : ¬ S i)
    (hr : ∀ e ∈ o.after, Region.binds .any e = true → S e.on) (hd : ∀ d, o.dst = some d → d < (σ i).size) {t : TypeId} {ao x : Operand} {ad : Addr} {sz : Nat} {h' : Heap} {b : Blk} (g1 : o.op = .store t ao x) (g2 : evalO (σ i).tmps ao = .pointer (some ad))
    (g3 : sizeT E t = some sz) (g4 : (evalO (σ i).tmps x).cells.size = sz) (g5 : storeO (σ i).heap ad (evalO (σ i).tmps x).cells.toList = some h') (g6 : getBlk (σ i).heap ad.block = some b)
    (g7 : Vf i = [(ad.block, b)]) (g8 : mf i = ad.block) (h1 : σ (i + 1) = putS (σ i) o.dst undef h' (σ i).next ad.block)
    {N : Act → World → Prop} {Q : Exit → Act → World → Prop} (hN : ∀ μ' κ' a' w', Inv E base ops σ Vf mf μ0 κ0 w0 (plus S i) μ' κ' a' w' → N a' w') : o.wp E.P a w N Q := by
  have hlt := ltO ho
  obtain ⟨HS, c, q3, q4, q5, q6⟩ := I.hs
  have hVb : getBlk (Vf i) ad.block = some b := by rw [g7, getBlk_cons, if_pos rfl]
  have hHS : getBlk HS ad.block = some b := by
    have hs := PA_seen (σ := σ) (fun j hj => I.ahead ho hr hj) (R.foot hlt hVb).2.1
    obtain ⟨c1, c2⟩ := q3 ad.block hs
    exact (q4 _ b).2 (I.foot R hg ht ho hi hr hVb c1 c2)
  obtain ⟨b', c', e1, e2, e3⟩ := storeO_get g5
  rw [g6] at e1
  cases e1
  have hst := e3 HS hHS
  have ha1 := I.opd R ho hi hr ao (by simp [g1, Op.operands])
  have ha2 := I.opd R ho hi hr x (by simp [g1, Op.operands])
  obtain ⟨w', hrun, hr', hsz, hoth⟩ := storeO_spec q6 hst
  have hexec : (execOp a.eval o).run E.P w = .ok .skip w' := by
    simp [execOp, g1, Instr.storeAt, Instr.sureAddr, ha1, ha2, g2, storeVar, run_sizeT g3, cells_ren, g4]
    rw [hrun]; rfl
  have htouch : ∀ k, touch σ Vf mf i k ↔ k = ad.block := fun k => by
    constructor
    · rintro (hk | ⟨_, d, hd⟩)
      · have a := hk.1; have b := hk.2; rw [h1, putS_next] at b; omega
      · rw [g7, getBlk_cons] at hd
        split at hd
        · rename_i e; exact e.symm
        · simp [getBlk] at hd
    · rintro rfl
      exact .inr ⟨by rw [g8]; exact Nat.le_refl _, b, hVb⟩
  have noown : ∀ k, ¬ own σ i k := fun k hk => by
    have a := hk.1; have b := hk.2; rw [h1, putS_next] at b; omega
  have hT : ∀ k d, getBlk [(ad.block, c')] k = some d ↔ touch σ Vf mf i k ∧ getBlk (σ (i + 1)).heap k = some d := fun k d => by
    rw [htouch, getBlk_cons, h1, putS_heap, e2, getBlk_set]
    split
    · rename_i e
      subst e
      rw [if_pos rfl, g6]
      simp
    · rename_i e
      simp only [getBlk]
      exact ⟨fun h => (nomatch h), fun h => absurd h.1.symm e⟩
  have hfew : ∀ k d, getBlk [(ad.block, c')] k = some d → getBlk (setBlk HS ad.block c') k = some d := fun k d hd => by
    rw [getBlk_cons] at hd
    split at hd
    · rename_i e; subst e; rw [getBlk_set, if_pos rfl, hHS]; exact hd
    · simp [getBlk] at hd
  have hinv := inv_put R hg ht I ho hi hr hd (μ' := μ) (κ' := κ) (u := undef) (w' := w') (HT := [(ad.block, c')]) (fun _ _ => ⟨rfl, rfl⟩) (fun _ _ => ⟨rfl, rfl⟩) (fun t e => by rw [h1, getTmp_put, if_pos e]; simp) hsz
    (fun b _ hh => hoth b fun e => hh ad.block ⟨by rw [g8]; exact Nat.le_refl _, _, hVb⟩ e.symm) (fun k hk => absurd hk (noown k)) hT (hr'.fewer hfew)
  unfold Oper.wp
  rw [hexec]
  exact hN _ _ _ _ hinv

/-- Any operation that may come next. -/
theorem inv_step (R : Run E base ops σ rf lf Vf mf) (hg : E.P.globals.size ≤ (σ 0).next) (ht : TWF (· < (σ 0).next) (σ 0)) (I : Inv E base ops σ Vf mf μ0 κ0 w0 S μ κ a w) (ho : ops[i]? = some o) (hi : ¬ S i)
    (hr : ∀ e ∈ o.after, Region.binds .any e = true → S e.on) {N : Act → World → Prop} {Q : Exit → Act → World → Prop} (hN : ∀ μ' κ' a' w', Inv E base ops σ Vf mf μ0 κ0 w0 (plus S i) μ' κ' a' w' → N a' w') :
    wpOp E.P ops.toArray Q i N a w := by
  unfold wpOp
  have ho' : ops.toArray[i]? = some o := by simpa using ho
  rw [ho']
  simp only [I.wanted R ho hi hr]
  have hD := R.step i o ho
  cases hD.kind with
  | skip h1 h2 h3 =>
    rw [if_neg (by simp [h1])]
    exact hN _ _ _ _ (inv_skip R hg ht I ho hi hr hD.dst h2 h3)
  | op v h n H m h1 h2 h3 h4 h5 h6 =>
    rw [if_pos h1]
    exact .inl (inv_op R hg ht I ho hi hr hD.dst h2 h4 h5 h6 hN)
  | st t a x ad sz h' b h1 h2 h3 h4 h5 h6 h7 h8 h9 h10 =>
    rw [if_pos h1]
    exact .inl (inv_store R hg ht I ho hi hr hD.dst h2 h3 h4 h5 h6 h7 h8 h9 h10 hN)

def listedS (listed : Array Bool) (i : Nat) : Prop := listed.getD i false = true

theorem Inv.congr {S S' : Nat → Prop} (h : ∀ i, S i ↔ S' i) (I : Inv E base ops σ Vf mf μ0 κ0 w0 S μ κ a w) : Inv E base ops σ Vf mf μ0 κ0 w0 S' μ κ a w := by
  have : S = S' := funext fun i => propext (h i)
  exact this ▸ I

theorem listed_set {listed : Array Bool} {i : Nat} (hi : i < listed.size) (j : Nat) : plus (listedS listed) i j ↔ listedS (listed.setIfInBounds i true) j := by
  unfold plus listedS
  by_cases e : i = j
  · subst e
    simp [hi]
  · rw [getD_set_ne false e]
    constructor
    · rintro (h | h)
      · exact h
      · exact absurd h.symm e
    · exact .inl

theorem drawn_any (R : Run E base ops σ rf lf Vf mf) (hr0 : StRel E base μ0 κ0 (σ 0) a w0) {Q : Exit → Act → World → Prop} (hQ : ∀ a' w', StOut E base (σ 0) (σ ops.length) μ0 κ0 w0 a' w' → Q .normal a' w') :
    ∀ (fuel : Nat) (listed : Array Bool) (μ κ : Nat → Nat) (a : Act) (w : World) (L : List Nat), listed.size = ops.length → Inv E base ops σ Vf mf μ0 κ0 w0 (listedS listed) μ κ a w → L.length ≤ fuel → (∀ i, i < ops.length → ¬ listedS listed i → i ∈ L) →
      wpAny E.P .any ops.toArray Q fuel listed a w := by
  have hall : ∀ (listed : Array Bool) (μ κ : Nat → Nat) (a : Act) (w : World), Inv E base ops σ Vf mf μ0 κ0 w0 (listedS listed) μ κ a w → listed.size = ops.length → Region.ready .any ops.toArray listed = [] → Q .normal a w := by
    intro listed μ κ a w I hsz hnil
    refine hQ _ _ (inv_end R hr0 I fun i => ?_)
    induction i using Nat.strongRecOn with
    | _ i ih =>
      intro hi
      refine Classical.byContradiction fun hno => ?_
      obtain ⟨o, ho⟩ := getO hi
      have : i ∈ Region.ready .any ops.toArray listed := by
        refine mem_ready.2 ⟨?_, o, by simpa using ho, fun e he hb => ih e.on (R.static.fw i o ho e he hb) (by have := R.static.fw i o ho e he hb; omega)⟩
        have hlt : i < listed.size := by omega
        unfold listedS at hno
        simp only [Array.getD_eq_getD_getElem?, Array.getElem?_eq_getElem hlt, Option.getD_some] at hno ⊢
        simpa using hno
      rw [hnil] at this
      cases this
  have hmem : ∀ (listed : Array Bool) i, listed.size = ops.length → i ∈ Region.ready .any ops.toArray listed → i < ops.length ∧ ¬ listedS listed i ∧ ∃ o, ops[i]? = some o ∧ ∀ e ∈ o.after, Region.binds .any e = true → listedS listed e.on := by
    intro listed i hsz hi
    obtain ⟨h0, o, ho, hall⟩ := mem_ready.1 hi
    have ho' : ops[i]? = some o := by simpa using ho
    refine ⟨ltO ho', fun h => ?_, o, ho', hall⟩
    unfold listedS at h
    have hlt : i < listed.size := by have := ltO ho'; omega
    simp only [Array.getD_eq_getD_getElem?, Array.getElem?_eq_getElem hlt, Option.getD_some] at h h0
    rw [h] at h0; cases h0
  intro fuel
  induction fuel with
  | zero =>
    intro listed μ κ a w L hsz I hL hc
    have hnil : Region.ready .any ops.toArray listed = [] := by
      refine List.eq_nil_iff_forall_not_mem.2 fun i hi => ?_
      obtain ⟨h1, h2, _⟩ := hmem listed i hsz hi
      have := hc i h1 h2
      have hn : L = [] := List.length_eq_zero_iff.1 (by omega)
      rw [hn] at this; cases this
    exact ⟨hnil, hall listed μ κ a w I hsz hnil⟩
  | succ fuel ih =>
    intro listed μ κ a w L hsz I hL hc
    refine ⟨hall listed μ κ a w I hsz, fun i hi => ?_⟩
    obtain ⟨h1, h2, o, ho, hr⟩ := hmem listed i hsz hi
    refine inv_step R hr0.gl hr0.wf I ho h2 hr fun μ' κ' a' w' I' => ?_
    have hlt : i < listed.size := by omega
    refine ih _ μ' κ' a' w' (L.erase i) (by simpa using hsz) (I'.congr (listed_set hlt)) ?_ fun j hj hno => ?_
    · have := List.length_erase_of_mem (hc i h1 h2)
      have : 0 < L.length := List.length_pos_of_mem (hc i h1 h2)
      omega
    · have hne : j ≠ i := fun e => hno ((listed_set hlt j).1 (.inr e))
      exact (List.mem_erase_of_ne hne).2 (hc j hj fun h => hno ((listed_set hlt j).1 (.inl h)))

theorem StRel.drawn {s : St} {n : Nat} (h : StRel E base μ κ s a w) : StRel E base μ κ s a { w with drawn := n } :=
  ⟨⟨⟨h.rel.below.os, h.rel.below.tape, h.rel.below.output, h.rel.below.size, h.rel.below.block⟩, h.rel.blk, h.rel.inj, h.rel.glob, h.rel.gsz⟩, h.sz, h.tmp, h.df, h.dw, h.wf, h.gl⟩

theorem StOut.drawn {s s' : St} {n : Nat} {a' : Act} {w' : World} (h : StOut E base s s' μ κ { w with drawn := n } a' w') : StOut E base s s' μ κ w a' w' := by
  obtain ⟨μ', κ', h1, h2⟩ := h
  exact ⟨μ', κ', ⟨h1.le, h1.ag, h1.sz, h1.fr, h1.nw⟩, h2⟩

theorem drawnK_sound (hE : EnvOk E base) {call : CallFn} {W : Bool} (hcall : CallOk E base call) {s : St} {K : St → Prop} (hok : ops.all (operOk E.P.globals.size) = true) (hst : drawStatic ops (ancL [] 0 ops) = true) (hnd : ∀ t ∈ needs ops ops, ToldE E s t) (hk : drawnK E call W ops s K) :
    ∃ s', K s' ∧ Sem1 E s s' ∧ ∀ id μ κ a w, StRel E base μ κ s a w → ∀ Q : Exit → Act → World → Prop, (∀ a' w', StOut E base s s' μ κ w a' w' → Q .normal a' w') → (Code.region id ops.toArray true).wp E.P Q a w := by
  rw [drawnK_eq] at hk
  obtain ⟨σ, rf, lf, Vf, mf, h1, h2, h3, h4, h5⟩ := drawK_run hE hcall ops 0 [] [] s hk
  simp only [Nat.zero_add] at h4 h5
  have R : Run E base ops σ rf lf Vf mf := ⟨static_of hst, fun i o ho => List.all_eq_true.1 hok o (List.mem_of_getElem? ho), h2, fun i o ho => by rw [h1]; exact h5 i o ho⟩
  subst h1
  refine ⟨_, h4, ⟨R.swf ops.length (Nat.zero_le _) (Nat.le_refl _), (R.mw_le (i := 0) ops.length (Nat.zero_le _) (Nat.le_refl _)).1, (R.mw_le (i := 0) ops.length (Nat.zero_le _) (Nat.le_refl _)).2, fun D _ _ _ hd => by
    rw [R.df ops.length (Nat.le_refl _)]
    exact hd.mono Dp_mono⟩, fun id μ κ a w hr Q hQ => ?_⟩
  refine wp_region_any hE.mixed ?_
  have hr' := hr.drawn (n := w.drawn + 1)
  have hfalse : ∀ i, ¬ listedS (Array.replicate ops.toArray.size false) i := fun i h => by
    unfold listedS at h
    simp only [Array.getD_eq_getD_getElem?, Array.getElem?_replicate] at h
    split at h <;> simp at h
  refine drawn_any R hr' (fun a' w' h => hQ a' w' h.drawn) _ _ μ κ a _ (List.range ops.length) (by simp) ((inv_start hr' hnd).congr fun i => ⟨False.elim, fun h => hfalse i h⟩) (by simp) fun i hi _ => by simpa using hi

end
end Go.Pe
