/-
  The evaluator's soundness, fifth part: conversions, built-in functions, append.
-/
import Derived.Test.YtamkkkkonigglaaGreatDoorPeF
namespace Go.Pe
open Go Go.RowKit

section
variable {E : Env} {base : World} {o : Oper} {ρ : Operand → Value} {h : Heap} {n : Nat}

theorem bytesOf_spec : ∀ (cs : List Value) (l : List UInt8), bytesOf cs = some l → ∃ ns : List Int, cs = ns.map (Value.int .u8) ∧ l = ns.map (fun n => UInt8.ofNat n.toNat)
  | [], l, h => by simp [bytesOf] at h; exact ⟨[], rfl, h⟩
  | c :: cs, l, h => by
    unfold bytesOf at h
    split at h
    · rename_i heq; cases heq
    · rename_i a l' heq
      cases heq
      split at h
      · rename_i r hr
        cases h
        obtain ⟨ns, rfl, rfl⟩ := bytesOf_spec _ _ hr
        exact ⟨a :: ns, rfl, rfl⟩
      · cases h
    · cases h

theorem push_bytes (ns : List Int) : ∀ (s : ByteArray), (ns.foldl (fun r n => r.push (UInt8.ofNat n.toNat)) s) = ⟨(s.data.toList ++ ns.map fun n => UInt8.ofNat n.toNat).toArray⟩ := by
  induction ns with
  | nil => intro s; apply bytes_ext; simp
  | cons a ns ih =>
    intro s
    rw [List.foldl_cons, ih]
    apply bytes_ext
    simp [ByteArray.push]

theorem sound_conv0 {src dst : TypeId} {x : Operand} {K : Value → Heap → Nat → Nat → Prop} (ho : o.op = .convert src dst x) (hk : convK0 E h n src dst (ρ x) K) : ∃ v, K v h n big ∧ OpSem E base o ρ h n v h n big := by
  unfold convK0 at hk
  split at hk
  · rename_i s k hs hd
    unfold und at hs hd
    split at hk
    · rename_i k' a hx
      refine ⟨_, hk, OpSem.pure _ fun μ κ w ρr _ hρ => ?_⟩
      have e1 : ρr x = renV μ κ (ρ x) := hρ x (by simp [ho, Op.operands])
      simp [execOp, ho, e1, hx, convert, run_underlying hs, run_underlying hd, Conv.intToInt]
    · exact hk.elim
  · rename_i s hs hd
    unfold und at hs hd
    split at hk
    · rename_i k' a hx
      refine ⟨_, hk, OpSem.pure _ fun μ κ w ρr _ hρ => ?_⟩
      have e1 : ρr x = renV μ κ (ρ x) := hρ x (by simp [ho, Op.operands])
      simp [execOp, ho, e1, hx, convert, run_underlying hs, run_underlying hd, Conv.intToString]
    · rename_i s' hx
      refine ⟨_, hk, OpSem.pure _ fun μ κ w ρr _ hρ => ?_⟩
      have e1 : ρr x = renV μ κ (ρ x) := hρ x (by simp [ho, Op.operands])
      simp [execOp, ho, e1, hx, convert, run_underlying hs, run_underlying hd]
    · rename_i l c hx
      split at hk
      · rename_i e
        split at hk
        · rename_i he
          unfold und at he
          refine ⟨_, hk, OpSem.pure _ fun μ κ w ρr _ hρ => ?_⟩
          have e1 : ρr x = renV μ κ (ρ x) := hρ x (by simp [ho, Op.operands])
          have := run_convert_bytes_string (P := E.P) w src dst e none l c hs he hd
          simp only [execOp, ho, e1, hx, renV_slice_none, Sem.run_bind, this]
          simp [Conv.bytesToString]
          rfl
        · exact hk.elim
      · exact hk.elim
    · rename_i a len c hx
      split at hk
      · rename_i e
        split at hk
        · rename_i he
          unfold und at he
          split at hk
          · rename_i cs hcs
            split at hk
            · rename_i l hl
              obtain ⟨ns, rfl, rfl⟩ := bytesOf_spec _ _ hl
              refine ⟨_, hk, ⟨⟨Nat.le_refl _, fun D _ _ _ hh => ⟨WF.string _, hh.mono Dp_mono⟩⟩, fun μ κ w ρr hr hρ _ _ _ => ?_⟩⟩
              have e1 : ρr x = renV μ κ (ρ x) := hρ x (by simp [ho, Op.operands])
              have h1 := run_convert_bytes_string (P := E.P) w src dst e (some (renAd μ a)) len (renCap κ a.block c) hs he hd
              have h2 := hr.loadCells hcs
              rw [List.map_map] at h2
              have h3 := run_bytesToString (P := E.P) w (renAd μ a) len (renCap κ a.block c) ns h2
              rw [push_bytes] at h3
              have : (execOp ρr o).run E.P w = .ok (.value (.string ⟨(ns.map fun n => UInt8.ofNat n.toNat).toArray⟩)) w := by
                simp only [execOp, ho, e1, hx, renV_slice_some, Sem.run_bind, h1, h3, Result.andThen_ok, Sem.run_pure]
                rfl
              rw [this]
              exact Out.same (v := .string _) hr
            · exact hk.elim
          · exact hk.elim
        · exact hk.elim
      · exact hk.elim
    · exact hk.elim
  · exact hk.elim

theorem bytesOf_ofBytes (l : List UInt8) : bytesOf (ofBytes l) = some l := by
  induction l with
  | nil => rfl
  | cons b l ih =>
    simp only [ofBytes, List.map_cons] at ih ⊢
    simp [bytesOf, ih]

theorem sound_conv {src dst : TypeId} {x : Operand} {K : Value → Heap → Nat → Nat → Prop} (ho : o.op = .convert src dst x) (hk : convK E h n src dst (ρ x) K) : ∃ v, K v h n big ∧ OpSem E base o ρ h n v h n big := by
  unfold convK at hk
  split at hk
  · exact sound_conv0 ho hk
  · rename_i b hb
    refine sound_conv0 ho ?_
    split at hk
    · rename_i e a len c hs hd hx
      split at hk
      · rename_i he hsp hi
        obtain ⟨l, ⟨h1, h2⟩, hk⟩ := hk
        rw [hx] at hb ⊢
        have hg := symB_some (show symB h a.block = some b from hb)
        unfold bytesAre at h2
        rw [h1] at h2
        have hc : cellsAt h a len = some (ofBytes l) := by simp only [cellsAt, hsp, hg, hi, h2]
        simp only [convK0, hs, hd, he, hc, bytesOf_ofBytes]
        exact hk
      · exact hk.elim
    · exact hk.elim

/-! ### Built-in functions -/

theorem builtin_ops {c : Call} (ho : o.op = .call c) {b : Builtin} (hc : c.callee = .builtin b) {μ κ : Nat → Nat} {ρr : Operand → Value} (hρ : ∀ x ∈ o.op.operands.toList, ρr x = renV μ κ (ρ x)) :
    c.args.map ρr = ((c.args.toList.map ρ).map (renV μ κ)).toArray := by
  apply Array.ext'
  rw [Array.toList_map, List.map_map]
  refine List.map_congr_left fun x hx => hρ x ?_
  simp only [ho, Op.operands, Call.operands, hc]
  simpa using hx

theorem builtin_run {c : Call} (ho : o.op = .call c) {b : Builtin} (hc : c.callee = .builtin b) {ts : List TypeId} (hts : c.argTypes.toList = ts) {μ κ : Nat → Nat} {ρr : Operand → Value} (hρ : ∀ x ∈ o.op.operands.toList, ρr x = renV μ κ (ρ x)) (w : World) :
    ∃ cs, (execOp ρr o).run E.P w = (builtin b ts.toArray o.type cs ((c.args.toList.map ρ).map (renV μ κ)).toArray).run E.P w := by
  refine ⟨c.args.map fun | .const _ => true | _ => false, ?_⟩
  simp only [execOp, ho, resolve, hc, Sem.run_bind, Sem.run_pure, Result.andThen_ok, invoke, builtin_ops ho hc hρ]
  subst hts
  simp only [Array.toArray_toList]
  rfl

theorem minL_spec (k : IntKind) : ∀ (l : List Value) (a : Int) (v : Value), minL k a l = some v → (∀ μ κ, renV μ κ v = v) ∧ ∀ (μ κ : Nat → Nat) (w : World), ((l.map (renV μ κ)).foldlM Builtin.min2 (.int k a)).run E.P w = .ok v w
  | [], a, v, hv => by simp [minL] at hv; subst hv; exact ⟨fun _ _ => rfl, fun _ _ w => rfl⟩
  | x :: l, a, v, hv => by
    cases x <;> simp only [minL] at hv <;> first | (cases hv; done) | skip
    rename_i k' b
    obtain ⟨h1, h2⟩ := minL_spec k l _ v hv
    refine ⟨h1, fun μ κ w => ?_⟩
    have := h2 μ κ w
    simp only [List.map_cons, List.foldlM_cons, renV_int, Builtin.min2, Sem.run_bind, Sem.run_pure, Result.andThen_ok]
    rw [← this]
    congr 2
    by_cases hb : b < a <;> simp [hb]

theorem maxL_spec (k : IntKind) : ∀ (l : List Value) (a : Int) (v : Value), maxL k a l = some v → (∀ μ κ, renV μ κ v = v) ∧ ∀ (μ κ : Nat → Nat) (w : World), ((l.map (renV μ κ)).foldlM Builtin.max2 (.int k a)).run E.P w = .ok v w
  | [], a, v, hv => by simp [maxL] at hv; subst hv; exact ⟨fun _ _ => rfl, fun _ _ w => rfl⟩
  | x :: l, a, v, hv => by
    cases x <;> simp only [maxL] at hv <;> first | (cases hv; done) | skip
    rename_i k' b
    obtain ⟨h1, h2⟩ := maxL_spec k l _ v hv
    refine ⟨h1, fun μ κ w => ?_⟩
    have := h2 μ κ w
    simp only [List.map_cons, List.foldlM_cons, renV_int, Builtin.max2, Sem.run_bind, Sem.run_pure, Result.andThen_ok]
    rw [← this]
    congr 2
    by_cases hb : b > a <;> simp [hb]

/-- What is appended, as the world has it. -/
theorem source_spec {base : World} {w : World} {μ κ : Nat → Nat} (hr : Rel E.P base μ κ h w) {size m : Nat} {x : Value} {new : List Value} (hs : sourceO h size x = some (m, new)) :
    (Builtin.lenOf (renV μ κ x)).run E.P w = .ok m w ∧ (Builtin.firstCells size m (renV μ κ x)).run E.P w = .ok (new.map (renV μ κ)).toArray w ∧ new.length = m * size := by
  unfold sourceO at hs
  split at hs
  · split at hs
    · cases hs
      exact ⟨by simp [Builtin.lenOf], by simp [Builtin.firstCells], by simp⟩
    · cases hs
  · split at hs
    · rename_i cs hcs
      cases hs
      exact ⟨by simp [Builtin.lenOf], by simp [Builtin.firstCells, hr.loadCells hcs], (cellsAt_spec hcs).2.1⟩
    · cases hs
  · rename_i s
    split at hs
    · cases hs
      refine ⟨by simp [Builtin.lenOf, strLen_eq], ?_, by simp [ofBytes, strLen]⟩
      have h1 : (ofBytes s.data.toList).map (renV μ κ) = ofBytes s.data.toList := by
        unfold ofBytes; rw [List.map_map]; exact List.map_congr_left fun _ _ => rfl
      have h2 : s.extract 0 (strLen s) = s := by
        apply bytes_ext
        rw [Lib.extract_data]
        simp only [List.drop_zero, strLen, Nat.sub_zero]
        exact List.take_of_length_le (Nat.le_refl _)
      rw [h1]
      simp only [renV_string, Builtin.firstCells, h2, Sem.run_pure]
      congr 1
      apply Array.ext'
      simp [ofBytes]
    · cases hs
  · cases hs

theorem source_wf {D : Nat → Prop} (hh : HWF D h) {size m : Nat} {x : Value} {new : List Value} (hs : sourceO h size x = some (m, new)) : ∀ v ∈ new, WF D v := by
  unfold sourceO at hs
  split at hs
  · split at hs
    · cases hs; simp
    · cases hs
  · split at hs
    · rename_i cs hcs; cases hs; exact cellsAt_wf hh hcs
    · cases hs
  · split at hs
    · cases hs
      intro v hv
      simp only [ofBytes, List.mem_map] at hv
      obtain ⟨b, _, rfl⟩ := hv
      exact WF.int _ _
    · cases hs
  · cases hs

theorem Rel.drew {P : Program} {base w : World} {μ κ : Nat → Nat} (hr : Rel P base μ κ h w) : Rel P base μ κ h w.drew := ⟨hr.below.drew, hr.blk, hr.inj, hr.glob, hr.gsz⟩

theorem Step.drew {mw n n' : Nat} {μ κ μ' κ' : Nat → Nat} {w w' : World} (hs : Step mw n n' μ κ w.drew μ' κ' w') : Step mw n n' μ κ w μ' κ' w' := ⟨hs.le, hs.ag, hs.sz, hs.fr, hs.nw⟩

/-- The run of append where there is no room: a new row, of a capacity that the tape picks. -/
theorem run_grow {t u ty e : TypeId} {d : TypeDesc} {i : TypeInfo} {z : Value} (ht : E.P.underlying t = some (.slice e)) (hu : E.P.underlying u = some d) (hd : d = .string ∨ ∃ e', d = .slice e') (hi : E.P.info? e = some i) (hz : i.zero = some z)
    (hsz : z.cells.size = i.size) {a : Option Addr} {sLen sCap m : Nat} {x : Value} {old new : Array Value} {w : World} (hl : (Builtin.lenOf x).run E.P w = .ok m w)
    (ho : (Builtin.firstCells i.size sLen (.slice a sLen sCap)).run E.P w.drew = .ok old w.drew) (hn : (Builtin.firstCells i.size m x).run E.P w.drew = .ok new w.drew) (hlo : old.size = sLen * i.size) (hln : new.size = m * i.size)
    (hneed : sCap < sLen + m) (hb : (sLen + m) * i.bytes ≤ 140737488355328) (hsm : sLen + m ≤ 9223372036854775807) :
    ∃ (c : Nat) (rest : Array Value), sLen + m ≤ c ∧ (old ++ new ++ rest).size = c * i.size ∧ (Builtin.append_ #[t, u] ty #[.slice a sLen sCap, x]).run E.P w = .ok (.slice (some ⟨w.heap.size, 0, none⟩) (sLen + m) c) (w.drew.alloc (.cells (old ++ new ++ rest) e)) := by
  have hgf := growslice_fits hneed hb
  have hge := grownCap_ge w (sLen + m) sCap e
  refine ⟨grownCap w (sLen + m) sCap e, Builtin.zeroCells z.cells (grownCap w (sLen + m) sCap e - (sLen + m)), hge, ?_, ?_⟩
  · rw [Array.size_append, Array.size_append, size_zeroCells, hsz, hlo, hln, ← Nat.add_mul, ← Nat.add_mul]
    congr 1
    omega
  · have n1 : ¬ sLen + m ≤ sCap := by omega
    have n2 : ¬ (9223372036854775807 < ((sLen : Int) + (m : Int))) := by omega
    have n3 : ¬ (281474976710656 < Builtin.nextslicecap (sLen + m) sCap * i.bytes) := by omega
    rcases hd with rfl | ⟨e', rfl⟩
    · simp [Builtin.append_, run_underlying ht, run_underlying hu, sizeOf, typeInfo, zeroValue, hi, hz, hl, n1, n2, n3, Question.forced, ho, hn, newRow, grownCap]
    · simp [Builtin.append_, run_underlying ht, run_underlying hu, sizeOf, typeInfo, zeroValue, hi, hz, hl, n1, n2, n3, Question.forced, ho, hn, newRow, grownCap]

/-- The run of append where there is room. -/
theorem run_fits {t u ty e : TypeId} {d : TypeDesc} {i : TypeInfo} (ht : E.P.underlying t = some (.slice e)) (hu : E.P.underlying u = some d) (hd : d = .string ∨ ∃ e', d = .slice e') (hi : E.P.info? e = some i)
    {a : Option Addr} {sLen sCap m : Nat} {x : Value} {new : Array Value} {w w' : World} (hl : (Builtin.lenOf x).run E.P w = .ok m w)
    (hn : (Builtin.firstCells i.size m x).run E.P w = .ok new w) (hneed : sLen + m ≤ sCap)
    (hst : match a with | some a => (storeCells (a.add (sLen * i.size)) new.toList).run E.P w = .ok () w' | none => w' = w) :
    (Builtin.append_ #[t, u] ty #[.slice a sLen sCap, x]).run E.P w = .ok (.slice a (sLen + m) sCap) w' := by
  rcases hd with rfl | ⟨e', rfl⟩ <;> cases a <;> simp only at hst <;> simp [Builtin.append_, run_underlying ht, run_underlying hu, sizeOf, typeInfo, hi, hl, hneed, hn, hst]

end
end Go.Pe
