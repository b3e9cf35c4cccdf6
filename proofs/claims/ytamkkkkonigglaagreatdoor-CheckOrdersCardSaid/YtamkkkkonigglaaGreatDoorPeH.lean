/-
  The evaluator's soundness, sixth part: append; calls; every operation.
-/
import Derived.Test.YtamkkkkonigglaaGreatDoorPeG
namespace Go.Pe
open Go Go.RowKit

section
variable {E : Env} {base : World} {o : Oper} {ρ : Operand → Value} {h : Heap} {n : Nat}

theorem srcT_spec {d : Option TypeDesc} (hd : srcT d = true) : ∃ x, d = some x ∧ (x = .string ∨ ∃ e', x = .slice e') := by
  unfold srcT at hd
  split at hd
  · exact ⟨_, rfl, .inr ⟨_, rfl⟩⟩
  · exact ⟨_, rfl, .inl rfl⟩
  · cases hd

theorem append_run {c : Call} (ho : o.op = .call c) (hc : c.callee = .builtin .append) {t u : TypeId} (hts : c.argTypes.toList = [t, u]) {s x : Value} (hargs : c.args.toList.map ρ = [s, x]) {μ κ : Nat → Nat} {ρr : Operand → Value}
    (hρ : ∀ x ∈ o.op.operands.toList, ρr x = renV μ κ (ρ x)) {w w' : World} {v : Value} (hr : (Builtin.append_ #[t, u] o.type #[renV μ κ s, renV μ κ x]).run E.P w = .ok v w') : (execOp ρr o).run E.P w = .ok (.value v) w' := by
  obtain ⟨cs, h1⟩ := builtin_run (E := E) ho hc hts hρ w
  rw [h1, hargs]
  simp only [List.map_cons, List.map_nil, builtin, Sem.run_bind]
  rw [hr]
  rfl

theorem args_wf {c : Call} (ho : o.op = .call c) {b : Builtin} (hc : c.callee = .builtin b) {D : Nat → Prop} {l : List Value} (hargs : c.args.toList.map ρ = l) (hx : ∀ x ∈ o.op.operands.toList, WF D (ρ x)) : ∀ v ∈ l, WF D v := by
  subst hargs
  intro v hv
  obtain ⟨x, hxx, rfl⟩ := List.mem_map.1 hv
  refine hx x ?_
  simp only [ho, Op.operands, Call.operands, hc]
  simpa using hxx

theorem room_ok {μ κ : Nat → Nat} {w : World} {n kc : Nat} {cs : List Value} {e size : Nat} {c : Array Value} {x : Nat} (hcs : ∀ v ∈ cs, WF (· < n) v) (hb : base.heap.size ≤ x) (hw : w.heap[x]? = some (.cells c e (0, 0)))
    (hc : ∀ (j : Nat) v, cs[j]? = some v → c[j]? = some (renV μ κ v)) (hl : cs.length ≤ c.size) (hs : c.size = kc * size) (hz : size ≠ 0) :
    BlkOk base (upd μ n x) (upd κ n kc) n (roomBlk cs e size) w := by
  unfold BlkOk
  simp only [roomBlk]
  refine ⟨c, e, (0, 0), by rw [upd_same]; exact hw, fun _ => ⟨rfl, by rw [upd_same]; exact hb, rfl⟩, by simpa using hl, fun j v hj => ?_, fun _ => by rw [upd_same]; exact hs, fun hh => absurd hh hz⟩
  rw [List.getElem?_map] at hj
  cases hx : cs[j]? with
  | none => simp [hx] at hj
  | some u =>
    simp [hx] at hj
    subst hj
    rw [wf_upd (hcs u (List.mem_of_getElem? hx))]
    exact hc j u hx

theorem grow_get {μ κ : Nat → Nat} {old new : List Value} {rest : Array Value} (j : Nat) (v : Value) (hj : (old ++ new)[j]? = some v) : (((old.map (renV μ κ)).toArray ++ (new.map (renV μ κ)).toArray ++ rest))[j]? = some (renV μ κ v) := by
  rw [← Array.getElem?_toList]
  simp only [Array.toList_append, ← List.map_append]
  have hlt : j < (old ++ new).length := (List.getElem?_eq_some_iff.1 hj).1
  rw [List.getElem?_append_left (by simpa using hlt), List.getElem?_map, hj]
  rfl

theorem splice_get {μ κ : Nat → Nat} {cc : Array Value} {old new : List Value} {k : Nat} (hol : old.length = k) (hk : k ≤ cc.size) (hoc : ∀ (j : Nat) v, old[j]? = some v → cc[j]? = some (renV μ κ v)) (j : Nat) (v : Value)
    (hj : (old ++ new)[j]? = some v) : (cc.toList.take k ++ new.map (renV μ κ) ++ cc.toList.drop (k + (new.map (renV μ κ)).length))[j]? = some (renV μ κ v) := by
  by_cases hj1 : j < old.length
  · rw [List.getElem?_append_left hj1] at hj
    have := hoc j v hj
    rw [List.append_assoc, List.getElem?_append_left (by rw [List.length_take, Array.length_toList]; omega), List.getElem?_take_of_lt (by omega), Array.getElem?_toList]
    exact this
  · rw [List.getElem?_append_right (by omega)] at hj
    have hlt2 : j - old.length < new.length := (List.getElem?_eq_some_iff.1 hj).1
    have hcl : cc.toList.length = cc.size := Array.length_toList
    rw [List.append_assoc, List.getElem?_append_right (by rw [List.length_take, hcl]; omega), List.length_take, hcl, Nat.min_eq_left hk, List.getElem?_append_left (by rw [List.length_map]; omega), List.getElem?_map, ← hol, hj]
    rfl

theorem room_wf {D D' : Nat → Prop} {cs : List Value} {e size : Nat} (hcs : ∀ v ∈ cs, WF D v) (hd : ∀ k, D k → D' k) : ∀ v, some v ∈ (roomBlk cs e size).cells → WF D' v := mk_wf (e := e) hcs hd

theorem sound_append0 {c : Call} {t u : TypeId} {s x : Value} {K : Value → Heap → Nat → Nat → Prop} (ho : o.op = .call c) (hc : c.callee = .builtin .append) (hts : c.argTypes.toList = [t, u]) (hargs : c.args.toList.map ρ = [s, x])
    (hk : appendK0 E h n t u s x K) : ∃ v h' n' mw, K v h' n' mw ∧ OpSem E base o ρ h n v h' n' mw := by
  have hmap : o.op.operands.toList.map ρ = [s, x] := by
    simp only [ho, Op.operands, Call.operands, hc, Array.toList_append, List.nil_append]
    exact hargs
  unfold appendK0 at hk
  split at hk
  · rename_i e hu hsrc
    unfold und at hu
    obtain ⟨d, hud, hd⟩ := srcT_spec hsrc
    unfold und at hud
    split at hk
    · rename_i i a len cap hi
      split at hk
      · rename_i z sz m new hz hsz hsource
        replace hk := chk_true hk
        obtain ⟨hck, hk⟩ := hk
        simp only [Bool.and_eq_true] at hck
        obtain ⟨⟨⟨c1, c2⟩, c3⟩, c4⟩ := hck
        have c1 := ble_true c1
        have c2 := ble_true c2
        have c3 := beq_true c3
        replace hsz : i.size = sz + 1 := hsz
        rw [hsz] at hsource
        replace hsource : sourceO h (sz + 1) x = some (m, new) := hsource
        have hsmall : len + m ≤ 9223372036854775807 := by omega
        split at hk
        · rename_i hbig
          split at hk
          · rename_i a
            split at hk
            · rename_i b hsp hoff hb
              split at hk
              · rename_i old hown hit hold hroom hcb hel
                have hroom := beq_true hroom
                have hcb := beq_true hcb
                have hel := beq_true hel
                subst hcb
                obtain ⟨hol, hog⟩ := takeN_spec _ _ _ hold
                refine ⟨_, _, _, _, hk, ⟨⟨by omega, fun D hD hG hx hh => ⟨WF.slc.2 (.inr ⟨by simp, by simp⟩), ?_⟩⟩, fun μ κ w ρr hr hρ hh hx hg => ?_⟩⟩
                · refine (hh.mono Dp_mono).drop.cons (.inr ⟨by omega, by omega⟩) (room_wf (D := D) (fun v hv => ?_) Dp_mono)
                  rcases List.mem_append.1 hv with hv | hv
                  · obtain ⟨j, hj⟩ := List.getElem?_of_mem hv
                    exact (hh _ _ hb).2 v (List.mem_of_getElem? (hog j v hj))
                  · exact source_wf hh hsource v hv
                · have hlt : a.block < n := WF.slc.1 (args_wf ho hc hargs hx _ (List.mem_cons_self ..))
                  obtain ⟨s1, s2, s3⟩ := source_spec hr hsource
                  obtain ⟨cc, e', fr, h1, h2, h3, h4, h5, h6⟩ := (hr.blk _ _ hb).cells_some hit
                  obtain ⟨rfl, hbs, rfl⟩ := h2 hown
                  rw [hroom] at h5
                  have h5 := h5 (by omega)
                  have hra : renAd μ a = ⟨μ a.block, 0, none⟩ := by simp [renAd, hsp, hoff]
                  have hwfc : ∀ v ∈ old ++ new, WF (· < n) v := fun v hv => by
                    rcases List.mem_append.1 hv with hv | hv
                    · obtain ⟨j, hj⟩ := List.getElem?_of_mem hv
                      exact (hh _ _ hb).2 v (List.mem_of_getElem? (hog j v hj))
                    · exact source_wf hh hsource v hv
                  have hfew : Rel E.P base μ κ (dropBlk h a.block) w := hr.fewer fun k b hkb => by
                    rw [getBlk_drop] at hkb; split at hkb
                    · cases hkb
                    · exact hkb
                  have hoc : ∀ (j : Nat) v, old[j]? = some v → cc[j]? = some (renV μ κ v) := fun j v hj => h4 j v (hog j v hj)
                  have hlen : len * (sz + 1) ≤ cc.size := by
                    rcases Nat.eq_zero_or_pos (len * (sz + 1)) with h0 | h0
                    · omega
                    · have : old[len * (sz + 1) - 1]? = some (old[len * (sz + 1) - 1]'(by omega)) := List.getElem?_eq_getElem (by omega)
                      have := hoc _ _ this
                      have := (Array.getElem?_eq_some_iff.1 this).1
                      omega
                  by_cases hfit : len + m ≤ κ a.block
                  · have hcfit : len * (sz + 1) + 0 + (new.map (renV μ κ)).length ≤ cc.size := by
                      rw [List.length_map, s3, h5]
                      have := Nat.mul_le_mul_right (sz + 1) hfit
                      rw [Nat.add_mul] at this
                      omega
                    have hst := run_storeCells_at E.P (μ a.block) (len * (sz + 1)) b.elem (new.map (renV μ κ)) 0 cc w h1 hcfit (fun v hv => by
                      obtain ⟨y, hy, rfl⟩ := List.mem_map.1 hv
                      rw [oneCell_ren]; exact List.all_eq_true.1 c4 y hy)
                    simp only [Nat.add_zero] at hst hcfit
                    rw [show (⟨μ a.block, len * (sz + 1), none⟩ : Addr) = (renAd μ a).add (len * i.size) by rw [hra, hsz, add_at _ _ rfl, Nat.zero_add]] at hst
                    have hget := splice_get (μ := μ) (κ := κ) hol hlen hoc (new := new)
                    have hLsz : (cc.toList.take (len * (sz + 1)) ++ new.map (renV μ κ) ++ cc.toList.drop (len * (sz + 1) + (new.map (renV μ κ)).length)).toArray.size = cc.size := by
                      rw [List.size_toArray, List.length_append, List.length_append, List.length_take, List.length_drop, Array.length_toList]
                      omega
                    have hrow := setRow_heap w (μ a.block) cc (cc.toList.take (len * (sz + 1)) ++ new.map (renV μ κ) ++ cc.toList.drop (len * (sz + 1) + (new.map (renV μ κ)).length)).toArray b.elem (0, 0) h1
                    have hbel := below_row hr.below hbs (cc.toList.take (len * (sz + 1)) ++ new.map (renV μ κ) ++ cc.toList.drop (len * (sz + 1) + (new.map (renV μ κ)).length)).toArray
                    have hoth := setRow_heap_other w (μ a.block) (cc.toList.take (len * (sz + 1)) ++ new.map (renV μ κ) ++ cc.toList.drop (len * (sz + 1) + (new.map (renV μ κ)).length)).toArray
                    have hwsz : w.heap.size ≤ (w.setRow (μ a.block) (cc.toList.take (len * (sz + 1)) ++ new.map (renV μ κ) ++ cc.toList.drop (len * (sz + 1) + (new.map (renV μ κ)).length)).toArray).heap.size := by simp [World.setRow]
                    generalize w.setRow (μ a.block) (cc.toList.take (len * (sz + 1)) ++ new.map (renV μ κ) ++ cc.toList.drop (len * (sz + 1) + (new.map (renV μ κ)).length)).toArray = W at hst hrow hbel hoth hwsz
                    generalize cc.toList.take (len * (sz + 1)) ++ new.map (renV μ κ) ++ cc.toList.drop (len * (sz + 1) + (new.map (renV μ κ)).length) = L at hget hLsz hrow
                    have hrun := run_fits (E := E) (ty := o.type) hu hud hd hi (a := some (renAd μ a)) (sLen := len) (sCap := κ a.block) s1 (by rw [hsz]; exact s2) hfit hst
                    have hex := append_run (E := E) ho hc hts hargs hρ (v := .slice (some (renAd μ a)) (len + m) (κ a.block)) (by rw [renV_slice_some, renCap_big]; exact hrun)
                    rw [hex]
                    refine ⟨upd μ n (μ a.block), upd κ n (κ a.block), ⟨by omega, fun k hk => ?_, hwsz, fun b' hb' hh' => hoth b' fun e => hh' a.block (Nat.le_refl _) hlt e.symm, fun k k1 k2 => ?_⟩, ?_, ?_⟩
                    · have : k ≠ n := by omega
                      exact ⟨upd_other _ _ this, upd_other _ _ this⟩
                    · have : k = n := by omega
                      subst this
                      exact .inr ⟨a.block, Nat.le_refl _, hlt, upd_same _ _ _⟩
                    · rw [renV_slice_some, renCap_big, upd_same, hra]
                      simp [renAd, upd_same]
                    · have hbk : BlkOk base (upd μ n (μ a.block)) (upd κ n (κ a.block)) n (roomBlk (old ++ new) e (sz + 1)) W := room_ok (μ := μ) (κ := κ) hwfc hbs (by rw [← hel]; exact hrow) (fun j v hj => by rw [List.getElem?_toArray]; exact hget j v hj) (by
                        rw [hLsz, List.length_append, hol, s3, h5, ← Nat.add_mul]
                        exact Nat.mul_le_mul_right _ hfit) (by rw [hLsz]; exact h5) (by omega)
                      refine ⟨hbel, fun k b'' hkb => ?_, fun i' j' x' y' hx' hy' hxy => ?_, fun g hgl => ?_, hr.gsz⟩
                      · rw [getBlk_cons] at hkb
                        split at hkb
                        · rename_i en; subst en; cases hkb; exact hbk
                        · rw [getBlk_drop] at hkb
                          split at hkb
                          · cases hkb
                          · rename_i hne hka
                            obtain ⟨q1, q2⟩ := hh k b'' hkb
                            have hkn : k ≠ n := fun e => hne e.symm
                            exact (hr.blk k b'' hkb).same (upd_other _ _ hkn) (upd_other _ _ hkn) (fun v hv => wf_upd (q2 v hv) _ _ _ _) (hoth _ fun e => hka (hr.inj k a.block b'' b hkb hb e))
                      · have hd1 : ∀ i x, getBlk ((n, roomBlk (old ++ new) e (sz + 1)) :: dropBlk h a.block) i = some x → i = n ∨ (i ≠ n ∧ i ≠ a.block ∧ getBlk h i = some x) := fun i x hx => by
                          rw [getBlk_cons] at hx
                          split at hx
                          · rename_i en; exact .inl en.symm
                          · rename_i en
                            rw [getBlk_drop] at hx
                            split at hx
                            · cases hx
                            · rename_i ea; exact .inr ⟨fun e => en e.symm, ea, hx⟩
                        rcases hd1 i' x' hx' with rfl | ⟨p1, p2, p3⟩ <;> rcases hd1 j' y' hy' with rfl | ⟨q1, q2, q3⟩
                        · rfl
                        · rw [upd_same, upd_other _ _ q1] at hxy
                          exact absurd (hr.inj a.block j' b y' hb q3 hxy).symm q2
                        · rw [upd_same, upd_other _ _ p1] at hxy
                          exact absurd (hr.inj i' a.block x' b p3 hb hxy) p2
                        · rw [upd_other _ _ p1, upd_other _ _ q1] at hxy
                          exact hr.inj i' j' x' y' p3 q3 hxy
                      · have : g ≠ n := by omega
                        rw [upd_other _ _ this]; exact hr.glob g hgl
                  · obtain ⟨s1', s2', s3'⟩ := source_spec hr.drew hsource
                    have hof : (Builtin.firstCells i.size len (.slice (some (renAd μ a)) len (κ a.block))).run E.P w.drew = .ok (old.map (renV μ κ)).toArray w.drew := by
                      have hca : cellsAt h a (len * i.size) = some old := by simp [cellsAt, hsp, hb, hit, hoff, hsz, hold]
                      simp [Builtin.firstCells, hr.drew.loadCells hca]
                    obtain ⟨cp, rest, g1, g2, g3⟩ := run_grow (E := E) (ty := o.type) hu hud hd hi hz (by rw [hsz]; exact c3) s1 hof (by rw [hsz]; exact s2') (by simp [hol, hsz]) (by simp [s3, hsz]) (by omega) c1 hsmall
                    have hex := append_run (E := E) ho hc hts hargs hρ (v := .slice (some ⟨w.heap.size, 0, none⟩) (len + m) cp) (by rw [renV_slice_some, renCap_big]; exact g3)
                    rw [hex]
                    have hal := Step.alloc a.block n μ κ w.drew (.cells ((old.map (renV μ κ)).toArray ++ (new.map (renV μ κ)).toArray ++ rest) e) cp
                    refine ⟨_, _, hal.drew, ?_, ?_⟩
                    · rw [renV_slice_some, renCap_big, upd_same]
                      simp [renAd, upd_same]
                    · have hfw : HWF (· < n) (dropBlk h a.block) := hh.drop
                      rw [hsz] at g2
                      refine hfew.drew.alloc hfw hg _ _ cp (room_ok (μ := μ) (κ := κ) hwfc hr.below.size (by show (w.heap.push _)[w.heap.size]? = _; rw [Array.getElem?_push_size]) (fun j v hj => grow_get j v hj) ?_ g2 (by omega))
                      rw [Array.size_append, Array.size_append, List.length_append, List.size_toArray, List.size_toArray, List.length_map, List.length_map]
                      omega
              · exact hk.elim
            · exact hk.elim
          · exact hk.elim
        · rename_i hbig
          have hcapb := ble_false hbig
          have hs' : ∀ μ κ, renV μ κ (.slice a len cap) = .slice (a.map (renAd μ)) len cap := fun μ κ => by cases a <;> simp [renCap_small hcapb]
          split at hk
          · rename_i hfit
            have hfit := ble_true hfit
            split at hk
            · split at hk
              · refine ⟨_, _, _, _, hk, ⟨⟨Nat.le_refl _, fun D hD hG hx hh => ⟨WF.sliceNone _ _, hh.mono Dp_mono⟩⟩, fun μ κ w ρr hr hρ hh hx hg => ?_⟩⟩
                obtain ⟨s1, s2, s3⟩ := source_spec hr hsource
                have hrun := run_fits (E := E) (ty := o.type) hu hud hd hi (a := none) (sLen := len) (sCap := cap) (w' := w) s1 (by rw [hsz]; exact s2) hfit rfl
                rw [append_run (E := E) ho hc hts hargs hρ (by rw [hs']; exact hrun)]
                exact Out.same (v := .slice none _ _) hr
              · exact hk.elim
            · rename_i a
              have hwfa : ∀ D : Nat → Prop, (∀ v ∈ [Value.slice (some a) len cap, x], WF D v) → ∀ c, WF D (.slice (some a) (len + m) c) := fun D hx c => WF.slc.2 (WF.slc.1 (hx _ (List.mem_cons_self ..)))
              split at hk
              · refine ⟨_, _, _, _, hk, ⟨⟨Nat.le_refl _, fun D hD hG hx hh => ⟨(hwfa D (by rw [← hmap]; exact hx) _).mono Dp_mono, hh.mono Dp_mono⟩⟩, fun μ κ w ρr hr hρ hh hx hg => ?_⟩⟩
                obtain ⟨s1, s2, s3⟩ := source_spec hr hsource
                have hrun := run_fits (E := E) (ty := o.type) hu hud hd hi (a := some (renAd μ a)) (sLen := len) (sCap := cap) (w' := w) s1 (by rw [hsz]; exact s2) hfit (by simp [storeCells])
                rw [append_run (E := E) ho hc hts hargs hρ (by rw [hs']; exact hrun)]
                have := Out.same (v := .slice (some a) (len + m) cap) (mw := big) hr (n := n)
                rw [renV_slice_some, renCap_small hcapb] at this
                exact this
              · rename_i hsp hne
                split at hk
                · rename_i h' hst
                  refine ⟨_, _, _, _, hk, ⟨⟨Nat.le_refl _, fun D hD hG hx hh => ⟨(hwfa D (by rw [← hmap]; exact hx) _).mono Dp_mono, (storeO_wf hst hh (source_wf hh hsource)).mono Dp_mono⟩⟩, fun μ κ w ρr hr hρ hh hx hg => ?_⟩⟩
                  have hlt : a.block < n := WF.slc.1 (args_wf ho hc hargs hx _ (List.mem_cons_self ..))
                  obtain ⟨s1, s2, s3⟩ := source_spec hr hsource
                  obtain ⟨w', q1, q2, q3, q4⟩ := storeO_spec hr hst
                  have hrun := run_fits (E := E) (ty := o.type) hu hud hd hi (a := some (renAd μ a)) (sLen := len) (sCap := cap) (w' := w') s1 (by rw [hsz]; exact s2) hfit (by
                    rw [hsz]
                    show (storeCells ((renAd μ a).add (len * (sz + 1))) _).run E.P w = _
                    rw [renAd_add, add_at _ _ hsp]; exact q1)
                  rw [append_run (E := E) ho hc hts hargs hρ (by rw [hs']; exact hrun)]
                  refine ⟨μ, κ, ⟨Nat.le_refl _, fun _ _ => ⟨rfl, rfl⟩, q3, fun b _ hb => q4 b fun e => hb a.block (Nat.le_refl _) hlt e.symm, fun _ h1 h2 => by omega⟩, by rw [renV_slice_some, renCap_small hcapb], q2⟩
                · exact hk.elim
              · exact hk.elim
          · rename_i hfit
            have hfit := ble_false hfit
            split at hk
            · rename_i m' old hold
              have hm' : m' = len := by
                unfold sourceO at hold
                cases a with
                | none => cases len <;> simp at hold; exact hold.1.symm
                | some a =>
                  simp only at hold
                  split at hold
                  · cases hold; rfl
                  · cases hold
              subst hm'
              refine ⟨_, _, _, _, hk, ⟨⟨by omega, fun D hD hG hx hh => ⟨WF.slc.2 (.inr ⟨by simp, by simp⟩), ?_⟩⟩, fun μ κ w ρr hr hρ hh hx hg => ?_⟩⟩
              · refine (hh.mono Dp_mono).cons (.inr ⟨by omega, by omega⟩) (room_wf (D := D) (fun v hv => ?_) Dp_mono)
                rcases List.mem_append.1 hv with hv | hv
                · exact source_wf hh hold v hv
                · exact source_wf hh hsource v hv
              · obtain ⟨s1, s2, s3⟩ := source_spec hr hsource
                obtain ⟨s1', s2', s3'⟩ := source_spec hr.drew hsource
                obtain ⟨o1, o2, o3⟩ := source_spec hr.drew hold
                rw [hs'] at o2
                have hwfc : ∀ v ∈ old ++ new, WF (· < n) v := fun v hv => by
                  rcases List.mem_append.1 hv with hv | hv
                  · exact source_wf hh hold v hv
                  · exact source_wf hh hsource v hv
                obtain ⟨cp, rest, g1, g2, g3⟩ := run_grow (E := E) (ty := o.type) hu hud hd hi hz (by rw [hsz]; exact c3) s1 (by rw [hsz]; exact o2) (by rw [hsz]; exact s2') (by simp [o3, hsz]) (by simp [s3, hsz]) (by omega) c1 hsmall
                rw [append_run (E := E) ho hc hts hargs hρ (by rw [hs']; exact g3)]
                have hal := Step.alloc big n μ κ w.drew (.cells ((old.map (renV μ κ)).toArray ++ (new.map (renV μ κ)).toArray ++ rest) e) cp
                refine ⟨_, _, hal.drew, ?_, ?_⟩
                · rw [renV_slice_some, renCap_big, upd_same]
                  simp [renAd, upd_same]
                · rw [hsz] at g2
                  refine hr.drew.alloc hh hg _ _ cp (room_ok (μ := μ) (κ := κ) hwfc hr.below.size (by show (w.heap.push _)[w.heap.size]? = _; rw [Array.getElem?_push_size]) (fun j v hj => grow_get j v hj) ?_ g2 (by omega))
                  rw [Array.size_append, Array.size_append, List.length_append, List.size_toArray, List.size_toArray, List.length_map, List.length_map]
                  omega
            · exact hk.elim
      · exact hk.elim
    · exact hk.elim
  · exact hk.elim

/-- The first block's cells are not told one by one any more. -/
def flagH : Heap → Heap
  | [] => []
  | (k, b) :: h => (k, { b with sym := true }) :: h
theorem flagH_get {h : Heap} {k : Nat} {b : Blk} (hb : getBlk (flagH h) k = some b) : ∃ c, getBlk h k = some c ∧ c.cells = b.cells ∧ c.elem = b.elem ∧ c.own = b.own ∧ c.room = b.room ∧ c.iter = b.iter := by
  cases h with
  | nil => exact ⟨b, hb, rfl, rfl, rfl, rfl, rfl⟩
  | cons x h =>
    obtain ⟨j, c⟩ := x
    simp only [flagH, getBlk_cons] at hb ⊢
    by_cases e : j = k
    · rw [if_pos e] at hb ⊢
      cases hb
      exact ⟨c, rfl, rfl, rfl, rfl, rfl, rfl⟩
    · rw [if_neg e] at hb ⊢
      exact ⟨b, hb, rfl, rfl, rfl, rfl, rfl⟩
theorem flagH_wf {D : Nat → Prop} {h : Heap} (hh : HWF D h) : HWF D (flagH h) := fun k b hb => by
  obtain ⟨c, h1, h2, _⟩ := flagH_get hb
  have := hh k c h1
  rw [h2] at this
  exact this
theorem flagH_rel {P : Program} {base w : World} {μ κ : Nat → Nat} {h : Heap} (hr : Rel P base μ κ h w) : Rel P base μ κ (flagH h) w := by
  refine ⟨hr.below, fun k b hb => ?_, fun i j a b ha hb e => ?_, hr.glob, hr.gsz⟩
  · obtain ⟨c, h1, h2, h3, h4, h5, h6⟩ := flagH_get hb
    have := hr.blk k c h1
    unfold BlkOk at this ⊢
    rw [h2, h3, h4, h5, h6] at this
    exact this
  · obtain ⟨c, h1, _⟩ := flagH_get ha
    obtain ⟨d, k1, _⟩ := flagH_get hb
    exact hr.inj i j c d h1 k1 e
theorem OpSem.flag {v : Value} {h' : Heap} {n' mw : Nat} (hs : OpSem E base o ρ h n v h' n' mw) : OpSem E base o ρ h n v (flagH h') n' mw := by
  obtain ⟨⟨a1, a2⟩, a3⟩ := hs
  refine ⟨⟨a1, fun D hD hG hx hh => ⟨(a2 D hD hG hx hh).1, flagH_wf (a2 D hD hG hx hh).2⟩⟩, fun μ κ w ρr hr hρ hh hx hg => ?_⟩
  have hout := a3 μ κ w ρr hr hρ hh hx hg
  have key : ∀ u w', Out E base h' v mw n n' μ κ w u w' → Out E base (flagH h') v mw n n' μ κ w u w' := fun u w' ⟨μ', κ', st, hu, hrel⟩ => ⟨μ', κ', st, hu, flagH_rel hrel⟩
  generalize (execOp ρr o).run E.P w = r at *
  cases r with
  | halt x w' => exact hout.elim
  | ok nx w' =>
    cases nx with
    | value u => exact key _ _ hout
    | skip => exact key _ _ hout
    | enter g as =>
      obtain ⟨rfl, hc⟩ := hout
      exact ⟨rfl, hc.mono fun e w'' ⟨u, he, hu⟩ => ⟨u, he, key _ _ hu⟩⟩
    | _ => exact hout.elim

theorem takeN_some (vs : List Value) : takeN (vs.map some) vs.length = some vs := by
  induction vs with
  | nil => rfl
  | cons v vs ih => simp [takeN, ih]

theorem sound_append {c : Call} {t u : TypeId} {s x : Value} {K : Value → Heap → Nat → Nat → Prop} (ho : o.op = .call c) (hc : c.callee = .builtin .append) (hts : c.argTypes.toList = [t, u]) (hargs : c.args.toList.map ρ = [s, x])
    (hk : appendK E h n t u s x K) : ∃ v h' n' mw, K v h' n' mw ∧ OpSem E base o ρ h n v h' n' mw := by
  unfold appendK at hk
  split at hk
  · rename_i b hb
    have hk0 : appendK0 E h n t u s x fun v h' n' mw => K v (flagH h') n' mw := by
      unfold appendS at hk
      split at hk
      · rename_i e hu hsrc
        split at hk
        · rename_i i a len cap hi
          split at hk
          · rename_i z sz m new hz hsz hsource hsp hoff
            split at hk
            · rename_i hcb hown hit hroom hel
              obtain ⟨⟨⟨c1, c2⟩, vs, hvl, hvs⟩, hk⟩ := hk
              obtain ⟨hck, hk⟩ := chk_true hk
              simp only [Bool.and_eq_true] at hck
              have hg := symB_some (show symB h a.block = some b from hb)
              have hcap := beq_true hcb
              subst hcap
              have e1 : Nat.ble ((len + m) * i.bytes) 140737488355328 = true := Nat.ble_eq_true_of_le c1
              have e2 : Nat.ble (len + m) 140737488355328 = true := Nat.ble_eq_true_of_le c2
              have e3 : Nat.ble big big = true := Nat.ble_eq_true_of_le (Nat.le_refl _)
              have e4 : takeN b.cells (len * (sz + 1)) = some vs := by rw [hvs, ← hvl]; exact takeN_some vs
              rw [hsz] at hsource
              have hblk : catC b.cells new = (vs ++ new).map some := by rw [catC, hvs, List.map_append]
              rw [hblk] at hk
              simp only [appendK0, hu, hsrc, hi, hz, hsz, hsource, e1, e2, e3, hsp, hoff, hg, hown, hit, e4, hroom, hcb, hel, hck.1, hck.2, Bool.and_true, chk]
              exact hk
            · exact hk.elim
          · exact hk.elim
        · exact hk.elim
      · exact hk.elim
    obtain ⟨v, h', n', mw, h1, h2⟩ := sound_append0 ho hc hts hargs hk0
    exact ⟨v, flagH h', n', mw, h1, h2.flag⟩
  · exact sound_append0 ho hc hts hargs hk

end
end Go.Pe
