/-
  The evaluator's soundness, first part: what one operation does to the world.
-/
import Derived.Test.YtamkkkkonigglaaGreatDoorPeB
namespace Go.Pe
open Go Go.RowKit

/-! ### Reading -/

theorem takeN_spec : ∀ (l : List (Option Value)) (n : Nat) (cs : List Value), takeN l n = some cs → cs.length = n ∧ ∀ (j : Nat) v, cs[j]? = some v → l[j]? = some (some v)
  | l, 0, cs, h => by
    have : cs = [] := by cases l with
      | nil => simpa [takeN] using h
      | cons x l => cases x <;> simpa [takeN] using h
    subst this; simp
  | [], n + 1, cs, h => by simp [takeN] at h
  | none :: l, n + 1, cs, h => by simp [takeN] at h
  | some v :: l, n + 1, cs, h => by
    simp only [takeN] at h
    split at h
    · rename_i r hr
      cases h
      obtain ⟨h1, h2⟩ := takeN_spec l n r hr
      refine ⟨by simp [h1], fun j u hj => ?_⟩
      cases j with
      | zero => simpa using hj
      | succ j => simp at hj ⊢; exact h2 j u hj
    · cases h

theorem cellsAt_spec {h : Heap} {a : Addr} {n : Nat} {cs : List Value} (hc : cellsAt h a n = some cs) :
    a.spot = none ∧ cs.length = n ∧ ∃ b, getBlk h a.block = some b ∧ b.iter = none ∧ ∀ (j : Nat) v, cs[j]? = some v → b.cells[a.off + j]? = some (some v) := by
  unfold cellsAt at hc
  split at hc
  · cases hc
  · rename_i hs
    split at hc
    · rename_i b hb
      split at hc
      · rename_i hi
        obtain ⟨h1, h2⟩ := takeN_spec _ _ _ hc
        exact ⟨hs, h1, b, hb, hi, fun j v hj => by have := h2 j v hj; rwa [List.getElem?_drop] at this⟩
      · cases hc
    · cases hc

theorem renAd_add (μ : Nat → Nat) (a : Addr) (n : Nat) : (renAd μ a).add n = renAd μ (a.add n) := by
  unfold Addr.add renAd
  split <;> rfl

theorem add_block (a : Addr) (n : Nat) : (a.add n).block = a.block := by
  unfold Addr.add
  split <;> rfl

theorem add_at (a : Addr) (n : Nat) (h : a.spot = none) : a.add n = ⟨a.block, a.off + n, none⟩ := by
  obtain ⟨b, o, s⟩ := a
  simp at h
  subst h
  unfold Addr.add
  split <;> simp_all

theorem BlkOk.cells_some {base w : World} {μ κ : Nat → Nat} {k : Nat} {b : Blk} (h : BlkOk base μ κ k b w) (hi : b.iter = none) :
    ∃ c e fr, w.heap[μ k]? = some (.cells c e fr) ∧ (b.own = true → e = b.elem ∧ base.heap.size ≤ μ k ∧ fr = (0, 0)) ∧
      b.cells.length ≤ c.size ∧ (∀ (j : Nat) v, b.cells[j]? = some (some v) → c[j]? = some (renV μ κ v)) ∧ (b.room ≠ 0 → c.size = κ k * b.room) ∧ (b.room = 0 → b.own = true → c.size = b.cells.length) := by
  unfold BlkOk at h
  simpa [hi] using h

theorem Rel.cells {P : Program} {base w : World} {μ κ : Nat → Nat} {h : Heap} (hr : Rel P base μ κ h w) {a : Addr} {n : Nat} {cs : List Value} (hc : cellsAt h a n = some cs) :
    ∀ (j : Nat) v, (cs.map (renV μ κ))[j]? = some v → w.cell? ((renAd μ a).add j) = some v := by
  intro j v hj
  obtain ⟨hs, hl, b, hb, hi, hcell⟩ := cellsAt_spec hc
  obtain ⟨c, e, fr, h1, _, _, h4, _⟩ := (hr.blk _ _ hb).cells_some hi
  rw [List.getElem?_map] at hj
  cases hx : cs[j]? with
  | none => rw [hx] at hj; cases hj
  | some u =>
    rw [hx] at hj
    simp at hj
    subst hj
    have := h4 _ _ (hcell j u hx)
    rw [add_at _ _ (by simpa [renAd] using hs)]
    simp [World.cell?, renAd, h1, this]

theorem Rel.loadCells {P : Program} {base w : World} {μ κ : Nat → Nat} {h : Heap} (hr : Rel P base μ κ h w) {a : Addr} {n : Nat} {cs : List Value} (hc : cellsAt h a n = some cs) :
    (loadCells (renAd μ a) n).run P w = .ok (cs.map (renV μ κ)).toArray w := by
  have hl : (cs.map (renV μ κ)).length = n := by rw [List.length_map]; exact (cellsAt_spec hc).2.1
  have := run_loadCells_list (P := P) w (renAd μ a) (cs.map (renV μ κ)) (hr.cells hc)
  rwa [hl] at this

theorem cellsAt_wf {D : Nat → Prop} {h : Heap} (hh : HWF D h) {a : Addr} {n : Nat} {cs : List Value} (hc : cellsAt h a n = some cs) : ∀ v ∈ cs, WF D v := by
  intro v hv
  obtain ⟨_, _, b, hb, _, hcell⟩ := cellsAt_spec hc
  obtain ⟨j, hj⟩ := List.getElem?_of_mem hv
  exact (hh _ _ hb).2 v (List.mem_of_getElem? (hcell j v hj))

theorem run_isAgg {E : Env} {t : TypeId} {b : Bool} (h : isAggT E t = some b) (w : World) : (isAgg t).run E.P w = .ok b w := by
  unfold isAggT und at h
  cases hu : E.P.underlying t with
  | none => simp [hu] at h
  | some d => cases d <;> simp [hu] at h <;> subst h <;> simp [isAgg, run_underlying hu]

theorem run_sizeT {E : Env} {t : TypeId} {s : Nat} (h : sizeT E t = some s) (w : World) : (sizeOf t).run E.P w = .ok s w := by
  unfold sizeT at h
  split at h
  · rename_i i hi; cases h; simp [sizeOf, typeInfo, hi]
  · cases h

theorem zeroT_spec {E : Env} {t : TypeId} {z : Value} (h : zeroT E t = some z) : t < E.P.types.size ∧ ∃ i, E.P.info? t = some i ∧ i.zero = some z := by
  unfold zeroT at h
  split at h
  · rename_i hb
    split at h
    · rename_i i hi; exact ⟨by simpa [Nat.blt_eq] using hb, i, hi, h⟩
    · cases h
  · cases h

theorem run_zeroT {E : Env} {t : TypeId} {z : Value} (h : zeroT E t = some z) (w : World) : (zeroValue t).run E.P w = .ok z w := by
  obtain ⟨_, i, hi, h⟩ := zeroT_spec h
  simp [zeroValue, typeInfo, hi, h]

theorem loadO_spec {E : Env} {base w : World} {μ κ : Nat → Nat} {h : Heap} (hr : Rel E.P base μ κ h w) {t : TypeId} {a : Addr} {v : Value} (hl : loadO E h t a = some v) :
    (loadVar t (renAd μ a)).run E.P w = .ok (renV μ κ v) w := by
  unfold loadO at hl
  split at hl
  · rename_i hag
    split at hl
    · rename_i s hs
      split at hl
      · rename_i cs hc
        cases hl
        simp [loadVar, run_isAgg hag, run_sizeT hs, hr.loadCells hc]
      · cases hl
    · cases hl
  · rename_i hag
    split at hl
    · rename_i v' hc
      cases hl
      have := hr.cells hc 0 (renV μ κ v) (by simp)
      have h0 : (renAd μ a).add 0 = renAd μ a := by simp [Addr.add]
      rw [h0] at this
      simp [loadVar, run_isAgg hag, this]
    · cases hl
  · cases hl

theorem loadO_wf {E : Env} {D : Nat → Prop} {h : Heap} (hh : HWF D h) {t : TypeId} {a : Addr} {v : Value} (hl : loadO E h t a = some v) : WF D v := by
  unfold loadO at hl
  split at hl
  · split at hl
    · split at hl
      · rename_i cs hc
        cases hl
        exact WF.agg.2 (fun v hv => cellsAt_wf hh hc v (by simpa using hv))
      · cases hl
    · cases hl
  · split at hl
    · rename_i v' hc
      cases hl
      exact cellsAt_wf hh hc v (by simp)
    · cases hl
  · cases hl

/-! ### Writing -/

theorem setRow_heap_other (w : World) (g : Nat) (cs : Array Value) (k : Nat) (hk : k ≠ g) : (w.setRow g cs).heap[k]? = w.heap[k]? := by
  simp only [World.setRow, Array.getElem?_modify]
  rw [if_neg (fun e => hk e.symm)]

theorem below_row {B : Nat} {a w : World} (h : Below B a w) {g : Nat} (hg : B ≤ g) (cs : Array Value) : Below B a (w.setRow g cs) :=
  h.trans ⟨rfl, rfl, rfl, by simp [World.setRow], fun k hk => setRow_heap_other w g cs k (by omega)⟩

/-- One of the call's own blocks is another one now. -/
theorem Rel.write {P : Program} {base w w' : World} {μ κ : Nat → Nat} {h : Heap} (hr : Rel P base μ κ h w) {k : Nat} {b b' : Blk} (hb : getBlk h k = some b)
    (hbelow : Below base.heap.size base w') (hoth : ∀ i, i ≠ μ k → w'.heap[i]? = w.heap[i]?) (hb' : BlkOk base μ κ k b' w') : Rel P base μ κ (setBlk h k b') w' := by
  refine ⟨hbelow, fun j c hc => ?_, fun i j x y hx hy hxy => ?_, hr.glob, hr.gsz⟩
  · rw [getBlk_set] at hc
    split at hc
    · rename_i e; subst e; simp [hb] at hc; subst hc; exact hb'
    · rename_i e
      refine (hr.blk j c hc).same rfl rfl (fun _ _ => rfl) (hoth _ fun he => e (hr.inj j k c b hc hb he))
  · have hm : ∀ i x, getBlk (setBlk h k b') i = some x → ∃ y, getBlk h i = some y := fun i x hx => by
      rw [getBlk_set] at hx
      split at hx
      · rename_i e; subst e; exact ⟨b, hb⟩
      · exact ⟨x, hx⟩
    obtain ⟨x', hx'⟩ := hm i x hx
    obtain ⟨y', hy'⟩ := hm j y hy
    exact hr.inj i j x' y' hx' hy' hxy

theorem putCells_spec {l : List (Option Value)} {n : Nat} {vs : List Value} {r : List (Option Value)} (h : putCells l n vs = some r) : n + vs.length ≤ l.length ∧ r = l.take n ++ vs.map some ++ l.drop (n + vs.length) := by
  unfold putCells at h
  split at h
  · rename_i hb; cases h; exact ⟨ble_true hb, rfl⟩
  · cases h

theorem get_splice {α β : Type} (f : α → β) (l : List α) (m : List β) (vs : List α) (n : Nat) (hn : n + vs.length ≤ l.length) (hl : l.length ≤ m.length) (j : Nat) (x : α)
    (hj : (l.take n ++ vs ++ l.drop (n + vs.length))[j]? = some x) (hm : l[j]? = some x → m[j]? = some (f x)) : (m.take n ++ vs.map f ++ m.drop (n + vs.length))[j]? = some (f x) := by
  have a1 : (l.take n).length = n := by rw [List.length_take]; omega
  have a2 : (m.take n).length = n := by rw [List.length_take]; omega
  rw [List.append_assoc] at hj ⊢
  by_cases h1 : j < n
  · rw [List.getElem?_append_left (by omega), List.getElem?_take_of_lt h1] at hj
    rw [List.getElem?_append_left (by omega), List.getElem?_take_of_lt h1]
    exact hm hj
  · rw [List.getElem?_append_right (by omega), a1] at hj
    rw [List.getElem?_append_right (by omega), a2]
    by_cases h2 : j - n < vs.length
    · rw [List.getElem?_append_left (by simpa using h2)] at hj ⊢
      rw [List.getElem?_map, hj]; rfl
    · rw [List.getElem?_append_right (by omega), List.getElem?_drop] at hj
      rw [List.getElem?_append_right (by simpa using h2), List.getElem?_drop, List.length_map]
      rw [show n + vs.length + (j - n - vs.length) = j by omega] at hj ⊢
      exact hm hj

theorem storeO_spec {P : Program} {base w : World} {μ κ : Nat → Nat} {h h' : Heap} (hr : Rel P base μ κ h w) {a : Addr} {vs : List Value} (hs : storeO h a vs = some h') :
    ∃ w', (storeCells (renAd μ a) (vs.map (renV μ κ))).run P w = .ok () w' ∧ Rel P base μ κ h' w' ∧ w.heap.size ≤ w'.heap.size ∧ ∀ i, i ≠ μ a.block → w'.heap[i]? = w.heap[i]? := by
  unfold storeO at hs
  split at hs
  · cases hs
  · rename_i hsp
    split at hs
    · cases hs
    · rename_i b hb
      split at hs
      · rename_i hown hit
        split at hs
        · rename_i cs hp hone
          cases hs
          obtain ⟨hlen, hcs⟩ := putCells_spec hp
          obtain ⟨c, e, fr, h1, h2, h3, h4, h5, h6⟩ := (hr.blk _ _ hb).cells_some hit
          obtain ⟨rfl, hbs, rfl⟩ := h2 hown
          have hst := run_storeCells_at P (μ a.block) a.off b.elem (vs.map (renV μ κ)) 0 c w h1 (by simp; omega) (fun v hv => by
            obtain ⟨u, hu, rfl⟩ := List.mem_map.1 hv
            rw [oneCell_ren]
            exact List.all_eq_true.1 hone u hu)
          have hra : renAd μ a = ⟨μ a.block, a.off, none⟩ := by simp [renAd, hsp]
          rw [hra]
          refine ⟨_, hst, ?_, by simp [World.setRow], fun i hi => setRow_heap_other w _ _ i hi⟩
          refine hr.write hb (below_row hr.below hbs _) (fun i hi => setRow_heap_other w _ _ i hi) ?_
          have hrow := setRow_heap w (μ a.block) c (c.toList.take (a.off + 0) ++ vs.map (renV μ κ) ++ c.toList.drop (a.off + 0 + (vs.map (renV μ κ)).length)).toArray b.elem (0, 0) h1
          unfold BlkOk
          simp only
          have hsz : (c.toList.take (a.off + 0) ++ vs.map (renV μ κ) ++ c.toList.drop (a.off + 0 + (vs.map (renV μ κ)).length)).toArray.size = c.size := by
            simp only [List.size_toArray, List.length_append, List.length_take, List.length_drop, Array.length_toList, List.length_map]
            omega
          have hcl : cs.length = b.cells.length := by
            rw [hcs]
            simp only [List.length_append, List.length_take, List.length_drop, List.length_map]
            omega
          refine ⟨_, _, _, hrow, fun _ => ⟨rfl, hbs, rfl⟩, by rw [hsz, hcl]; exact h3, fun j v hj => ?_, by rw [hsz]; exact h5, fun h0 _ => by rw [hsz, hcl]; exact h6 h0 hown⟩
          rw [hcs] at hj
          have := get_splice (fun o => match o with | some v => renV μ κ v | none => undef) b.cells c.toList (vs.map some) a.off (by simpa using hlen) (by simpa using h3) j (some v) (by simpa using hj) (fun hx => by simpa using h4 j v hx)
          simp only [List.map_map, List.length_map] at this
          simp only [List.getElem?_toArray, Nat.add_zero, List.length_map]
          exact this
        · cases hs
      · cases hs

theorem storeO_wf {D : Nat → Prop} {h h' : Heap} {a : Addr} {vs : List Value} (hs : storeO h a vs = some h') (hh : HWF D h) (hv : ∀ v ∈ vs, WF D v) : HWF D h' := by
  unfold storeO at hs
  split at hs
  · cases hs
  · split at hs
    · cases hs
    · rename_i b hb
      split at hs
      · split at hs
        · rename_i cs hp hone
          cases hs
          refine hh.set fun v hv' => ?_
          obtain ⟨_, hcs⟩ := putCells_spec hp
          simp only at hv'
          rw [hcs] at hv'
          simp only [List.mem_append, List.mem_map] at hv'
          rcases hv' with (h1 | ⟨u, hu, he⟩) | h1
          · exact (hh _ _ hb).2 v (List.mem_of_mem_take h1)
          · cases he; exact hv _ hu
          · exact (hh _ _ hb).2 v (List.mem_of_mem_drop h1)
        · cases hs
      · cases hs

end Go.Pe
