/-
  The evaluator's soundness, fourth part: what is built, made, sliced, converted, appended.
-/
import Derived.Test.YtamkkkkonigglaaGreatDoorPeE
namespace Go.Pe
open Go Go.RowKit

section
variable {E : Env} {base : World} {o : Oper} {ρ : Operand → Value} {h : Heap} {n : Nat}

theorem sound_un {op : UnOp} {t : TypeId} {x : Operand} {K : Value → Prop} (ho : o.op = .unOp op t x) (hk : unK op (ρ x) K) : ∃ v, K v ∧ OpSem E base o ρ h n v h n big := by
  unfold unK at hk
  split at hk
  · rename_i k a hx
    refine ⟨_, hk, OpSem.pure _ fun μ κ w ρr _ hρ => ?_⟩
    have e1 : ρr x = renV μ κ (ρ x) := hρ x (by simp [ho, Op.operands])
    simp [execOp, ho, e1, hx, Op.unary, Op.intArith]
  · rename_i b hx
    refine ⟨_, hk, OpSem.pure _ fun μ κ w ρr _ hρ => ?_⟩
    have e1 : ρr x = renV μ κ (ρ x) := hρ x (by simp [ho, Op.operands])
    simp [execOp, ho, e1, hx, Op.unary]
  · exact hk.elim

/-! ### fill -/

theorem foldl_ren (f : Value → Value) (off : Nat) : ∀ (l : List (Value × Nat)) (cs : Array Value),
    (l.map fun p => (f p.1, p.2)).foldl (fun cs (p : Value × Nat) => cs.setIfInBounds (off + p.2) p.1) (cs.map f) = (l.foldl (fun cs (p : Value × Nat) => cs.setIfInBounds (off + p.2) p.1) cs).map f
  | [], cs => rfl
  | p :: l, cs => by
    simp only [List.map_cons, List.foldl_cons]
    rw [← foldl_ren f off l]
    congr 1
    rw [Array.map_setIfInBounds]

theorem fill_ren (μ κ : Nat → Nat) (place : Nat → Option (Nat × Nat)) : ∀ (parts : List (Nat × Value)) (cells : Array Value),
    Instr.fill place (cells.map (renV μ κ)) (parts.map fun p => (p.1, renV μ κ p.2)) = (Instr.fill place cells parts).map (·.map (renV μ κ))
  | [], cells => by simp [Instr.fill]
  | (i, v) :: rest, cells => by
    simp only [List.map_cons, Instr.fill]
    cases hp : place i with
    | none => simp
    | some q =>
      obtain ⟨off, size⟩ := q
      simp only [cells_ren, Array.size_map]
      split
      · simp
      · rw [← fill_ren μ κ place rest]
        congr 1
        have := foldl_ren (renV μ κ) off v.cells.zipIdx.toList cells
        rw [← Array.foldl_toList, ← Array.foldl_toList, ← this]
        congr 1
        rw [Array.toList_zipIdx, Array.toList_zipIdx, Array.toList_map, List.zipIdx_map]
        exact List.map_congr_left fun p _ => rfl

theorem built_ren (hE : EnvOk E base) {t : TypeId} (hlt : t < E.P.types.size) (parts : List (Nat × Value)) (μ κ : Nat → Nat) : E.P.built t (parts.map fun p => (p.1, renV μ κ p.2)) = (E.P.built t parts).map (·.map (renV μ κ)) := by
  unfold Program.built
  have hz : ∀ (it : TypeInfo) z, E.P.info? t = some it → it.zero = some z → z.cells = z.cells.map (renV μ κ) := fun it z h1 h2 => by
    rw [← cells_ren, ren_pure μ κ 6 z (hE.zero t it z hlt h1 h2)]
  cases hit : E.P.info? t with
  | none => simp
  | some it =>
    cases hu : E.P.underlying t with
    | none => simp
    | some d =>
      cases d <;> simp only [Option.map_none]
      · rename_i len e
        cases hzz : it.zero with
        | none => simp
        | some z =>
          cases hie : E.P.info? e with
          | none => simp
          | some ie =>
            simp only
            conv => lhs; rw [hz it z hit hzz]
            exact fill_ren μ κ _ parts _
      · rename_i fields
        cases hzz : it.zero with
        | none => simp
        | some z =>
          cases hpl : (fields.toList.mapM fun f => (E.P.info? f.type).map fun i => (f.offset, i.size)) with
          | none => simp
          | some places =>
            simp only
            conv => lhs; rw [hz it z hit hzz]
            exact fill_ren μ κ _ parts _

theorem parts_eq {μ κ : Nat → Nat} {ρr : Operand → Value} (parts : Array (Nat × Operand)) (hp : ∀ p ∈ parts.toList, ρr p.2 = renV μ κ (ρ p.2)) :
    (parts.map fun x => (x.1, ρr x.2)).toList = (parts.toList.map fun p => (p.1, ρ p.2)).map fun p => (p.1, renV μ κ p.2) := by
  rw [Array.toList_map, List.map_map]
  exact List.map_congr_left fun p hpp => by simp [hp p hpp]

theorem sound_build (hE : EnvOk E base) {t : TypeId} {parts : Array (Nat × Operand)} {cs : Array Value} (ho : o.op = .build t parts) (hlt : t < E.P.types.size) (hb : E.P.built t (parts.toList.map fun p => (p.1, ρ p.2)) = some cs) :
    OpSem E base o ρ h n (.agg cs) h n big := by
  refine OpSem.pure _ fun μ κ w ρr _ hρ => ?_
  have hp : ∀ p ∈ parts.toList, ρr p.2 = renV μ κ (ρ p.2) := fun p hp => hρ p.2 (by simp only [ho, Op.operands, List.mem_map]; exact ⟨p, hp, rfl⟩)
  have := built_ren hE hlt (parts.toList.map fun p => (p.1, ρ p.2)) μ κ
  rw [hb] at this
  have hrun := run_build (P := E.P) w t (parts.map fun x => (x.1, ρr x.2)) (cs.map (renV μ κ)) (by rw [parts_eq parts hp]; exact this)
  simp [execOp, ho, hrun]

theorem fill_wf {D : Nat → Prop} (place : Nat → Option (Nat × Nat)) {parts : List (Nat × Value)} {cells r : Array Value} (hf : Instr.fill place cells parts = some r) (hc : ∀ v ∈ cells.toList, WF D v) (hp : ∀ p ∈ parts, WF D p.2) : ∀ v ∈ r.toList, WF D v := by
  have : WF D (.agg r) := fun μ κ μ' κ' hh => by
    have h1 := fill_ren μ κ place parts cells
    have h2 := fill_ren μ' κ' place parts cells
    rw [hf] at h1 h2
    have e1 : cells.map (renV μ' κ') = cells.map (renV μ κ) := by
      apply Array.ext'; rw [Array.toList_map, Array.toList_map]; exact List.map_congr_left fun v hv => hc v hv _ _ _ _ hh
    have e2 : (parts.map fun p => (p.1, renV μ' κ' p.2)) = parts.map fun p => (p.1, renV μ κ p.2) := List.map_congr_left fun p hpp => by rw [hp p hpp _ _ _ _ hh]
    rw [e1, e2, h1] at h2
    simp at h2
    simp only [renV_agg, Value.agg.injEq]
    apply Array.map_congr_left
    exact fun a ha => (h2 a ha).symm
  exact WF.agg.1 this

theorem repeatL_length (z : List Value) (k : Nat) : (repeatL z k).length = k * z.length := by
  induction k with
  | zero => simp [repeatL]
  | succ k ih => simp [repeatL, ih, Nat.succ_mul]; omega

theorem repeatL_get (z : List Value) (_hz : 0 < z.length) (k j : Nat) (hj : j < k * z.length) : (repeatL z k)[j]? = z[j % z.length]? := by
  induction k generalizing j with
  | zero => simp at hj
  | succ k ih =>
    simp only [repeatL]
    by_cases h1 : j < z.length
    · rw [List.getElem?_append_left h1, Nat.mod_eq_of_lt h1]
    · rw [List.getElem?_append_right (by omega), ih (j - z.length) (by rw [Nat.succ_mul] at hj; omega)]
      congr 1
      rw [Nat.mod_eq_sub_mod (by omega : j ≥ z.length)]

theorem repeatL_mem {z : List Value} {k : Nat} {v : Value} (hv : v ∈ repeatL z k) : v ∈ z := by
  induction k with
  | zero => simp [repeatL] at hv
  | succ k ih => simp only [repeatL, List.mem_append] at hv; exact hv.elim id ih

theorem made_eq (z : Array Value) (k s : Nat) (hs : z.size = s) : madeCells z (k * s) = (repeatL z.toList k).toArray := by
  subst hs
  apply Array.ext'
  apply List.ext_getElem?
  intro j
  unfold madeCells
  by_cases hj : j < k * z.size
  · have hz : 0 < z.size := by
      rcases Nat.eq_zero_or_pos z.size with h0 | h0
      · rw [h0] at hj; simp at hj
      · exact h0
    have hlt : j % z.size < z.size := Nat.mod_lt _ hz
    have h2 := repeatL_get z.toList (by simpa using hz) k j (by simpa using hj)
    simp only [Array.length_toList] at h2
    rw [List.toList_toArray, h2]
    simp [hj, hlt, getElem!_pos]
  · have h1 : (repeatL z.toList k).length ≤ j := by rw [repeatL_length]; simpa using hj
    simp [List.getElem?_eq_none h1]
    omega

theorem sound_buildSlice (hE : EnvOk E base) {t e : TypeId} {len sz : Nat} {parts : Array (Nat × Operand)} {z : Value} {cs : Array Value} (ho : o.op = .buildSlice t len parts) (hu : und E t = some (.slice e))
    (hsz : sizeT E e = some (sz + 1)) (hz : zeroT E e = some z) (h1 : len * (sz + 1) ≤ 16777216) (h2 : z.cells.size = sz + 1) (h3 : 0 < len)
    (hf : Instr.fill (fun i => some (i * (sz + 1), (sz + 1))) (repeatL z.cells.toList len).toArray (parts.toList.map fun p => (p.1, ρ p.2)) = some cs) :
    OpSem E base o ρ h n (.slice (some ⟨n, 0, none⟩) len len) ((n, mkBlk cs.toList e) :: h) (n + 1) big := by
  refine OpSem.new _ (fun D hD => fill_wf _ hf (fun v hv => (zero_wf hE hz D).cells v (repeatL_mem (by simpa using hv))) fun p hp => ?_) (fun D hD => WF.slc.2 hD) fun μ κ w ρr hρ x y => .inl ?_
  · obtain ⟨q, hq, rfl⟩ := List.mem_map.1 hp
    exact hD q.2 (by simp only [ho, Op.operands, List.mem_map]; exact ⟨q, hq, rfl⟩)
  · have hp : ∀ p ∈ parts.toList, ρr p.2 = renV μ κ (ρ p.2) := fun p hp => hρ p.2 (by simp only [ho, Op.operands, List.mem_map]; exact ⟨p, hp, rfl⟩)
    have hzs := zeroT_spec hz
    obtain ⟨hlt, ie', hie', hz⟩ := hzs
    unfold sizeT at hsz
    split at hsz
    · rename_i ie hie
      cases hsz' : ie.size with
      | zero => rw [hsz'] at hsz; simp at hsz
      | succ s =>
        rw [hsz'] at hsz
        simp at hsz
        subst hsz
        have hee : ie = ie' := Option.some.inj (hie.symm.trans hie')
        rw [← hee] at hz
        have hren : (repeatL z.cells.toList len).toArray.map (renV μ κ) = (repeatL z.cells.toList len).toArray := by
          apply Array.ext'
          rw [Array.toList_map]
          have : ∀ v ∈ repeatL z.cells.toList len, renV μ κ v = id v := fun v hv => by
            have hv' := repeatL_mem hv
            have hzr : z.cells.map (renV μ κ) = z.cells := by rw [← cells_ren, ren_pure μ κ 6 z (hE.zero e ie z hlt hie hz)]
            obtain ⟨j, hj⟩ := List.getElem?_of_mem hv'
            have : (z.cells.map (renV μ κ)).toList[j]? = some (renV μ κ v) := by rw [Array.toList_map, List.getElem?_map, hj]; rfl
            rw [hzr, hj] at this
            simpa using this.symm
          simpa using List.map_congr_left this
        have hfr := fill_ren μ κ (fun i => some (i * (s + 1), (s + 1))) (parts.toList.map fun p => (p.1, ρ p.2)) (repeatL z.cells.toList len).toArray
        rw [hren, hf] at hfr
        have hrun := run_buildSlice (P := E.P) w t e len (parts.map fun x => (x.1, ρr x.2)) (cs.map (renV μ κ)) ie z (by unfold und at hu; exact hu) hie hz (by rw [hsz']; omega) (by
            rw [hsz']
            have : 0 < len * (s + 1) := Nat.mul_pos h3 (by omega)
            omega) (by
            rw [parts_eq parts hp, hsz']
            have := made_eq z.cells len (s + 1) h2
            unfold madeCells at this
            rw [this]
            exact hfr)
        rw [← Array.toList_map, Array.toArray_toList]
        simp [execOp, ho, hrun, renAd, upd_same, renCap]
        have : Nat.ble big len = false := by
          rcases hb : Nat.ble big len with _ | _
          · rfl
          · have := ble_true hb
            unfold big at this
            have : len ≤ len * (s + 1) := Nat.le_mul_of_pos_right _ (by omega)
            omega
        rw [this]
    · cases hsz

theorem sound_buildSlice0 {t e : TypeId} {len sz : Nat} {parts : Array (Nat × Operand)} (ho : o.op = .buildSlice t len parts) (hu : und E t = some (.slice e)) (hsz : sizeT E e = some sz) (hl : len = 0) (hp : parts.toList = []) :
    OpSem E base o ρ h n (.slice (some ⟨n, 0, none⟩) 0 0) ((n, mkBlk [] e) :: h) (n + 1) big := by
  subst hl
  obtain rfl : parts = #[] := by
    apply Array.ext'
    exact hp
  refine OpSem.new _ (fun D hD v hv => by cases hv) (fun D hD => WF.slc.2 hD) fun μ κ w ρr hρ x y => .inl ?_
  unfold sizeT at hsz
  split at hsz
  · rename_i ie hie
    have hrun : (Instr.buildSlice t 0 #[]).run E.P w = .ok (.slice (some ⟨w.heap.size, 0, none⟩) 0 0) (w.alloc (.cells #[] e)) := by
      simp [Instr.buildSlice, run_underlying (show E.P.underlying t = some (.slice e) from hu), sizeOf, typeInfo, hie, Instr.fill, newRow]
      have h0 : Array.map (fun _ => (default : Value)) (Array.range 0) = #[] := by
        apply Array.ext'
        simp
      rw [h0]
    have hb : Nat.ble big 0 = false := rfl
    simp [execOp, ho, hrun, renAd, upd_same, renCap, hb]
  · cases hsz

theorem cap_small {c : Nat} (hc : c < big) : Nat.ble big c = false := by
  rcases hb : Nat.ble big c with _ | _
  · rfl
  · have := ble_true hb; omega

theorem renCap_small {κ : Nat → Nat} {k c : Nat} (hc : c < big) : renCap κ k c = c := by
  unfold renCap; rw [cap_small hc]

theorem sound_makeSlice (hE : EnvOk E base) {t e : TypeId} {l c : Operand} {a b : Int} {i : TypeInfo} {z : Value} (ho : o.op = .makeSlice t l c) (hu : und E t = some (.slice e)) (hl : ρ l = .int .i64 a) (hc : ρ c = .int .i64 b)
    (hi : E.P.info? e = some i) (hz : i.zero = some z) (h0 : 0 ≤ a) (h1 : a ≤ b) (h2 : b ≤ 1048576) (h3 : i.bytes ≤ 1048576) (h4 : z.cells.size = i.size) (h5 : e < E.P.types.size) :
    OpSem E base o ρ h n (.slice (some ⟨n, 0, none⟩) a.toNat b.toNat) ((n, mkBlk (repeatL z.cells.toList b.toNat) e) :: h) (n + 1) big := by
  have hzt : zeroT E e = some z := by
    have : Nat.blt e E.P.types.size = true := by simpa [Nat.blt_eq] using h5
    simp [zeroT, hi, hz, this]
  refine OpSem.new _ (fun D hD v hv => (zero_wf hE hzt D).cells v (repeatL_mem hv)) (fun D hD => WF.slc.2 hD) fun μ κ w ρr hρ x y => .inl ?_
  have e1 : ρr l = renV μ κ (ρ l) := hρ l (by simp [ho, Op.operands])
  have e2 : ρr c = renV μ κ (ρ c) := hρ c (by simp [ho, Op.operands])
  have hb : (i.bytes : Int) * b ≤ 281474976710656 := by
    have : (i.bytes : Int) * b ≤ 1048576 * 1048576 := by
      apply Int.mul_le_mul (by omega) h2 (by omega) (by omega)
    omega
  have hrun := run_make (P := E.P) w t e i z (by unfold und at hu; exact hu) hi hz .i64 .i64 a b h0 h1 hb (by omega)
  have hren : (repeatL z.cells.toList b.toNat).map (renV μ κ) = repeatL z.cells.toList b.toNat := by
    have : ∀ v ∈ repeatL z.cells.toList b.toNat, renV μ κ v = id v := fun v hv => by
      have hv' := repeatL_mem hv
      have := zero_cells hE hzt μ κ
      obtain ⟨j, hj⟩ := List.getElem?_of_mem hv'
      have h5 : (z.cells.toList.map (renV μ κ))[j]? = some (renV μ κ v) := by rw [List.getElem?_map, hj]; rfl
      rw [this, hj] at h5
      simpa using h5.symm
    simpa using List.map_congr_left this
  rw [hren, ← made_eq z.cells b.toNat i.size h4]
  simp [execOp, ho, e1, e2, hl, hc, hrun, renAd, upd_same]
  exact (renCap_small (by unfold big; omega)).symm

/-! ### Bounds, slices -/

theorem boundK_spec {x : Option Operand} {dflt top : Nat} {K : Nat → Prop} (hk : boundK (x.map ρ) dflt top K) : ∃ m, K m ∧ (x = none → m = dflt) ∧ (x ≠ none → m ≤ top) ∧
    ∀ (μ κ : Nat → Nat) (ρr : Operand → Value), (∀ y, x = some y → ρr y = renV μ κ (ρ y)) → ∀ y, x = some y → ∃ k, ρr y = .int k (m : Int) := by
  unfold boundK at hk
  cases x with
  | none => exact ⟨dflt, hk, fun _ => rfl, fun hh => absurd rfl hh, fun _ _ _ _ y hy => by cases hy⟩
  | some x =>
    simp only [Option.map_some] at hk
    split at hk
    · rename_i i hi
      obtain ⟨h0, hk⟩ := chk_true hk
      simp at h0
      refine ⟨i.toNat, hk, (fun hh => by cases hh), fun _ => by omega, fun μ κ ρr hρ y hy => ?_⟩
      cases hy
      have : ∃ k, ρ x = .int k i := by
        cases hx : ρ x <;> simp [hx, natOf] at hi
        subst hi
        exact ⟨_, rfl⟩
      obtain ⟨k, hx⟩ := this
      refine ⟨k, ?_⟩
      rw [hρ x rfl, hx]
      simp
      omega
    · exact hk.elim

theorem run_bound {k : IntKind} {m top : Nat} (hm : m ≤ top) (code : BoundsCode) (w : World) : (Instr.sliceBound (.int k (m : Int)) top code).run E.P w = .ok m w := by
  have : 0 ≤ (m : Int) ∧ (m : Int) ≤ top := by omega
  simp [Instr.sliceBound, asIntOf, this]

theorem run_bounds {isS : Bool} {len cap hi lo : Nat} {hx lx : Option Value} (hh : (hx = none ∧ hi = len) ∨ ∃ k, hx = some (.int k (hi : Int)) ∧ hi ≤ cap) (hl : (lx = none ∧ lo = 0) ∨ ∃ k, lx = some (.int k (lo : Int)) ∧ lo ≤ hi) (w : World) :
    (Instr.sliceBounds isS len cap lx hx none).run E.P w = .ok (lo, hi, cap) w := by
  rcases hh with ⟨rfl, rfl⟩ | ⟨k, rfl, hh⟩ <;> rcases hl with ⟨rfl, rfl⟩ | ⟨k', rfl, hl⟩ <;> simp [Instr.sliceBounds, run_bound, *]

theorem add_zero (a : Addr) : a.add 0 = a := by simp [Addr.add]

/-- The two bounds of a slice expression, as they are met. -/
theorem bounds_met {lo hi : Option Operand} {len top : Nat} {K : Nat → Nat → Prop} (hk : boundK (hi.map ρ) len top fun m => boundK (lo.map ρ) 0 m fun l => K l m) :
    ∃ l m, K l m ∧ l ≤ m ∧ (m = len ∨ m ≤ top) ∧ ∀ (μ κ : Nat → Nat) (ρr : Operand → Value), (∀ y, hi = some y ∨ lo = some y → ρr y = renV μ κ (ρ y)) → ∀ (isS : Bool) (cap : Nat) (w : World), top ≤ cap →
      (Instr.sliceBounds isS len cap (lo.map ρr) (hi.map ρr) none).run E.P w = .ok (l, m, cap) w := by
  obtain ⟨m, hk1, m1, m2, m3⟩ := boundK_spec hk
  obtain ⟨l, hk2, l1, l2, l3⟩ := boundK_spec hk1
  have hm : m = len ∨ m ≤ top := by
    cases hi with
    | none => exact .inl (m1 rfl)
    | some y => exact .inr (m2 (by simp))
  have hl : l ≤ m := by
    cases lo with
    | none => rw [l1 rfl]; omega
    | some y => exact l2 (by simp)
  refine ⟨l, m, hk2, hl, hm, fun μ κ ρr hρ isS cap w hcap => ?_⟩
  refine run_bounds ?_ ?_ w
  · cases hi with
    | none => exact .inl ⟨rfl, m1 rfl⟩
    | some y => obtain ⟨k, hk⟩ := m3 μ κ ρr (fun y hy => hρ y (.inl hy)) y rfl; exact .inr ⟨k, by simp [hk], by have := m2 (by simp); omega⟩
  · cases lo with
    | none => exact .inl ⟨rfl, l1 rfl⟩
    | some y => obtain ⟨k, hk⟩ := l3 μ κ ρr (fun y hy => hρ y (.inr hy)) y rfl; exact .inr ⟨k, by simp [hk], hl⟩

theorem renCap_big (κ : Nat → Nat) (k : Nat) : renCap κ k big = κ k := by
  unfold renCap
  have : Nat.ble big big = true := Nat.ble_eq_true_of_le (Nat.le_refl _)
  rw [this]; simp

theorem renCap_off (κ : Nat → Nat) (k l : Nat) : renCap κ k (big + l) = κ k - l := by
  unfold renCap
  have : Nat.ble big (big + l) = true := Nat.ble_eq_true_of_le (by omega)
  rw [this]; simp

theorem cutA_none (cap l z : Nat) : cutA cap l z none = none := by unfold cutA; split <;> rfl
theorem cutA_some (cap l z : Nat) (a : Addr) : cutA cap l z (some a) = some (if cap = l then a else a.add (l * z)) := by
  unfold cutA
  split
  · rename_i hb; rw [if_pos (beq_true hb)]
  · rename_i hb; rw [if_neg (beq_false hb)]; rfl

theorem sound_slice {t : TypeId} {x : Operand} {lo hi mx : Option Operand} {K : Value → Heap → Nat → Nat → Prop} {call : FuncId → List Value → Heap → Nat → (Value → Heap → Nat → Nat → Prop) → Prop}
    (ho : o.op = .slice t x lo hi mx) (hk : opK E call o ρ h n K) : ∃ v, K v h n big ∧ OpSem E base o ρ h n v h n big := by
  rw [opK_eq] at hk
  unfold opK0 at hk
  rw [ho] at hk
  simp only at hk
  cases mx with
  | some _ => exact hk.elim
  | none =>
  simp only [cutK_eq] at hk
  have hops : ∀ {μ κ : Nat → Nat} {ρr : Operand → Value}, (∀ x ∈ o.op.operands.toList, ρr x = renV μ κ (ρ x)) → ρr x = renV μ κ (ρ x) ∧ ∀ y, hi = some y ∨ lo = some y → ρr y = renV μ κ (ρ y) := fun hρ =>
    ⟨hρ x (by simp [ho, Op.operands]), fun y hy => hρ y (by rcases hy with rfl | rfl <;> simp [ho, Op.operands])⟩
  split at hk
  · rename_i s hu hx
    unfold und at hu
    obtain ⟨l, m, hk, hlm, hm, hrun⟩ := bounds_met (E := E) (ρ := ρ) (lo := lo) (hi := hi) hk
    refine ⟨_, hk, OpSem.pure _ fun μ κ w ρr _ hρ => ?_⟩
    obtain ⟨e1, e2⟩ := hops hρ
    have := hrun μ κ ρr e2 false (strLen s) w (Nat.le_refl _)
    rw [strLen_eq] at this
    simp [execOp, ho, e1, hx, Instr.sliceAt, Instr.slice, run_underlying hu, this, strCut_spec]
  · rename_i e a len cap hu hx
    unfold und at hu
    split at hk
    · rename_i z hz
      split at hk
      · rename_i hbig
        split at hk
        · rename_i ad
          split at hk
          · rename_i b hb hoff
            obtain ⟨hc, hk⟩ := chk_true hk
            simp only [Bool.and_eq_true] at hc
            obtain ⟨⟨⟨⟨c1, c2⟩, c3⟩, c4⟩, c5⟩ := hc
            have c1 := beq_true c1
            have c2 := beq_true c2
            have c3 : 0 < z := ble_true c3
            have c4 := ble_true c4
            have c5 : b.iter = none := by simpa using c5
            rw [c1] at hk hx
            obtain ⟨l, m, hk, hlm, hm, hrun⟩ := bounds_met (E := E) (ρ := ρ) (lo := lo) (hi := hi) (K := fun l m => match l with | 0 => K (.slice (some ad) m big) h n big | j + 1 => chk (Nat.blt (j + 1) len) (K (.slice (some (ad.add ((j + 1) * z))) (m - (j + 1)) (big + (j + 1))) h n big)) hk
            cases l with
            | succ l =>
              simp only at hk
              obtain ⟨hlen, hk⟩ := chk_true hk
              have hlen : l + 1 < len := ble_true hlen
              refine ⟨_, hk, ⟨⟨Nat.le_refl _, fun D _ _ hxx hh => ⟨WF.slc.2 (.inl ?_), hh.mono Dp_mono⟩⟩, fun μ κ w ρr hr hρ _ _ _ => ?_⟩⟩
              · rw [add_block]
                exact WF.slc.1 (hx ▸ hxx (ρ x) (List.mem_map_of_mem (by simp [ho, Op.operands])))
              · obtain ⟨e1, e2⟩ := hops hρ
                obtain ⟨c, e', fr, h1, h2, h3, h4, h5, h6⟩ := (hr.blk _ _ hb).cells_some c5
                have h5 := h5 (by omega)
                have hle : len ≤ κ ad.block := by
                  have : len * z ≤ κ ad.block * z := by rw [c2] at h5; omega
                  exact Nat.le_of_mul_le_mul_right this c3
                have := hrun μ κ ρr e2 true (κ ad.block) w hle
                have hne : ¬ κ ad.block = l + 1 := by omega
                have hr2 : (execOp ρr o).run E.P w = .ok (.value (renV μ κ (.slice (some (ad.add ((l + 1) * z))) (m - (l + 1)) (big + (l + 1))))) w := by
                  simp only [execOp, ho, e1, hx, Instr.sliceAt, Instr.slice, Sem.run_bind, run_underlying hu, Result.andThen_ok, renV_slice_some, renCap_big, Option.map_none, add_block, renCap_off]
                  rw [this]
                  simp [run_sizeT hz, hne, renAd_add]
                rw [hr2]
                exact Out.same hr
            | zero =>
            simp only at hk
            refine ⟨_, hk, ⟨⟨Nat.le_refl _, fun D _ _ hxx hh => ⟨WF.slc.2 (.inl ?_), hh.mono Dp_mono⟩⟩, fun μ κ w ρr hr hρ _ _ _ => ?_⟩⟩
            · exact WF.slc.1 (hx ▸ hxx (ρ x) (List.mem_map_of_mem (by simp [ho, Op.operands])))
            · obtain ⟨e1, e2⟩ := hops hρ
              obtain ⟨c, e', fr, h1, h2, h3, h4, h5, h6⟩ := (hr.blk _ _ hb).cells_some c5
              have h5 := h5 (by omega)
              have hle : len ≤ κ ad.block := by
                have : len * z ≤ κ ad.block * z := by rw [c2] at h5; omega
                exact Nat.le_of_mul_le_mul_right this c3
              have := hrun μ κ ρr e2 true (κ ad.block) w hle
              have hr2 : (execOp ρr o).run E.P w = .ok (.value (renV μ κ (.slice (some ad) m big))) w := by
                simp only [execOp, ho, e1, hx, Instr.sliceAt, Instr.slice, Sem.run_bind, run_underlying hu, Result.andThen_ok, renV_slice_some, renCap_big, Option.map_none]
                rw [this]
                simp [add_zero, run_sizeT hz]
              rw [hr2]
              exact Out.same hr
          · exact hk.elim
        · exact hk.elim
      · rename_i hbig
        have hsm := ble_false hbig
        obtain ⟨l, m, hk, hlm, hm, hrun⟩ := bounds_met (E := E) (ρ := ρ) (lo := lo) (hi := hi) (K := fun l m => K (.slice (cutA cap l z a) (m - l) (cap - l)) h n big) hk
        refine ⟨_, hk, OpSem.pure _ fun μ κ w ρr _ hρ => ?_⟩
        obtain ⟨e1, e2⟩ := hops hρ
        have := hrun μ κ ρr e2 true cap w (Nat.le_refl _)
        cases a with
        | none =>
          rw [cutA_none]
          simp only [execOp, ho, e1, hx, Instr.sliceAt, Instr.slice, Sem.run_bind, run_underlying hu, Result.andThen_ok, renV_slice_none, Option.map_none]
          rw [this]
          simp [run_sizeT hz]
        | some ad =>
          rw [cutA_some]
          simp only [execOp, ho, e1, hx, Instr.sliceAt, Instr.slice, Sem.run_bind, run_underlying hu, Result.andThen_ok, renV_slice_some, renCap_small hsm, Option.map_none]
          rw [renCap_small (by omega), this]
          simp only [Result.andThen_ok, run_sizeT hz, Sem.run_pure, Option.map_some]
          split <;> simp [renAd_add]
    · exact hk.elim
  · rename_i len e a hu hx
    unfold und at hu
    split at hk
    · rename_i z hz
      obtain ⟨hlb, hk⟩ := chk_true hk
      have hlb : len < big := ble_true hlb
      obtain ⟨l, m, hk, hlm, hm, hrun⟩ := bounds_met (E := E) (ρ := ρ) (lo := lo) (hi := hi) (K := fun l m => K (.slice (cutA len l z (some a)) (m - l) (len - l)) h n big) hk
      refine ⟨_, hk, OpSem.pure _ fun μ κ w ρr _ hρ => ?_⟩
      obtain ⟨e1, e2⟩ := hops hρ
      have := hrun μ κ ρr e2 false len w (Nat.le_refl _)
      simp only [execOp, ho, e1, hx, Instr.sliceAt, Instr.sureAddr, Sem.run_bind, run_underlying hu, Result.andThen_ok, renV_pointer, Option.map_some, Option.map_none, Sem.run_pure]
      rw [cutA_some, this]
      simp only [renV_slice_some, Result.andThen_ok, run_sizeT hz]
      rw [renCap_small (by omega)]
      split <;> simp [renAd_add]
    · exact hk.elim
  · exact hk.elim

/-! ### Iterators over strings -/

theorem sound_range {t : TypeId} {x : Operand} {s : ByteArray} (ho : o.op = .range t x) (hu : und E t = some .string) (hx : ρ x = .string s) :
    OpSem E base o ρ h n (.pointer (some ⟨n, 0, none⟩)) ((n, { cells := [], elem := 0, own := true, room := 0, iter := some (s, 0) }) :: h) (n + 1) big := by
  refine ⟨⟨by omega, fun D _ _ _ hh => ⟨WF.ptr.2 (.inr ⟨by simp, by simp⟩), (hh.mono Dp_mono).cons (.inr ⟨by omega, by omega⟩) (by simp)⟩⟩, fun μ κ w ρr hr hρ hh _ hg => ?_⟩
  have e1 : ρr x = renV μ κ (ρ x) := hρ x (by simp [ho, Op.operands])
  unfold und at hu
  have : (execOp ρr o).run E.P w = .ok (.value (.pointer (some ⟨w.heap.size, 0, none⟩))) (w.alloc (.stringIter s 0)) := by
    simp [execOp, ho, e1, hx, Instr.range, run_underlying hu]
  rw [this]
  refine ⟨_, _, Step.alloc big n μ κ w _ 0, by simp [renAd, upd_same], hr.alloc hh hg _ _ 0 ?_⟩
  unfold BlkOk
  exact ⟨by rw [upd_same]; show (w.heap.push _)[w.heap.size]? = _; rw [Array.getElem?_push_size], by rw [upd_same]; exact hr.below.size⟩

theorem sound_next_over {it : Operand} {r : Nat} {b : Blk} {s : ByteArray} {pos : Nat} (ho : o.op = .next it true) (hi : ρ it = .pointer (some ⟨r, 0, none⟩)) (hb : getBlk h r = some b) (hs : b.iter = some (s, pos)) (hp : strLen s ≤ pos) :
    OpSem E base o ρ h n (.tuple #[.bool false]) h n big := by
  refine ⟨⟨Nat.le_refl _, fun D _ _ _ hh => ⟨WF.tuple.2 (by simp), hh.mono Dp_mono⟩⟩, fun μ κ w ρr hr hρ _ _ _ => ?_⟩
  have e1 : ρr it = renV μ κ (ρ it) := hρ it (by simp [ho, Op.operands])
  have hbk := hr.blk _ _ hb
  unfold BlkOk at hbk
  simp only [hs] at hbk
  rw [strLen_eq] at hp
  have : (execOp ρr o).run E.P w = .ok (.value (.tuple #[.bool false])) w := by
    have hn : ¬ pos < s.size := by omega
    simp [execOp, ho, e1, hi, Instr.next, renAd, getObj, Sem.run, hbk.1, hn]
  rw [this]
  have := Out.same (v := .tuple #[.bool false]) (mw := big) hr (n := n)
  simp only [renV_tuple, List.map_toArray, List.map_cons, List.map_nil, renV_bool] at this
  exact this

theorem sound_next {it : Operand} {r : Nat} {b : Blk} {s : ByteArray} {pos : Nat} (ho : o.op = .next it true) (hi : ρ it = .pointer (some ⟨r, 0, none⟩)) (hb : getBlk h r = some b) (hs : b.iter = some (s, pos)) (hp : pos < strLen s) :
    OpSem E base o ρ h n (.tuple #[.bool true, .int .i64 pos, .int .i32 (Utf8.decode s pos).1]) (setBlk h r { b with iter := some (s, pos + (Utf8.decode s pos).2) }) n r := by
  refine ⟨⟨Nat.le_refl _, fun D _ _ _ hh => ⟨WF.tuple.2 (by simp), (hh.mono Dp_mono).set fun v hv => ((hh _ _ hb).2 v hv).mono Dp_mono⟩⟩, fun μ κ w ρr hr hρ hh hx hg => ?_⟩
  have e1 : ρr it = renV μ κ (ρ it) := hρ it (by simp [ho, Op.operands])
  have hbk := hr.blk _ _ hb
  unfold BlkOk at hbk
  simp only [hs] at hbk
  rw [strLen_eq] at hp
  have hlt : r < n := WF.ptr.1 (hi ▸ hx it (by simp [ho, Op.operands]))
  have hrl : μ r < w.heap.size := (Array.getElem?_eq_some_iff.1 hbk.1).1
  have hrun : (execOp ρr o).run E.P w = .ok (.value (.tuple #[.bool true, .int .i64 pos, .int .i32 (Utf8.decode s pos).1])) { w with heap := w.heap.setIfInBounds (μ r) (.stringIter s (pos + (Utf8.decode s pos).2)) } := by
    simp [execOp, ho, e1, hi, Instr.next, renAd, getObj, setObj, Sem.run, hbk.1, hp, goInt]
  rw [hrun]
  have hoth : ∀ i, i ≠ μ r → (w.heap.setIfInBounds (μ r) (.stringIter s (pos + (Utf8.decode s pos).2)))[i]? = w.heap[i]? := fun i hi => Array.getElem?_setIfInBounds_ne (fun e => hi e.symm)
  have hsame : (w.heap.setIfInBounds (μ r) (.stringIter s (pos + (Utf8.decode s pos).2)))[μ r]? = some (.stringIter s (pos + (Utf8.decode s pos).2)) := by simp [hrl]
  refine ⟨μ, κ, ⟨Nat.le_refl _, fun _ _ => ⟨rfl, rfl⟩, by simp, fun b _ hb => hoth b fun e => hb r (Nat.le_refl _) hlt e.symm, fun _ h1 h2 => by omega⟩, by simp, ?_⟩
  refine hr.write hb (hr.below.trans ⟨rfl, rfl, rfl, by simp, fun k hk => hoth k (by omega)⟩) hoth ?_
  unfold BlkOk
  exact ⟨hsame, hbk.2⟩

end
end Go.Pe
