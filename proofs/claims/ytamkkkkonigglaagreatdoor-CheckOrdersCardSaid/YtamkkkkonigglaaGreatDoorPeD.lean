/-
  The evaluator's soundness, second part: what an operation means; operations that touch no memory; new blocks; loads and stores.
-/
import Derived.Test.YtamkkkkonigglaaGreatDoorPeC
namespace Go.Pe
open Go Go.RowKit

def Dp (D : Nat → Prop) (n n' : Nat) : Nat → Prop := fun k => D k ∨ (n ≤ k ∧ k < n')

/-- What has become of the world: old names stand for what they stood for, new ones are laid; the value and the heap are told by them. -/
def Out (E : Env) (base : World) (h' : Heap) (v : Value) (mw n n' : Nat) (μ κ : Nat → Nat) (w : World) (u : Value) (w' : World) : Prop :=
  ∃ μ' κ', Step mw n n' μ κ w μ' κ' w' ∧ u = renV μ' κ' v ∧ Rel E.P base μ' κ' h' w'

def OpOut (E : Env) (base : World) (h' : Heap) (v : Value) (mw n n' : Nat) (μ κ : Nat → Nat) (w : World) : Result Next → Prop
  | .ok (.value u) w' => Out E base h' v mw n n' μ κ w u w'
  | .ok .skip w' => Out E base h' v mw n n' μ κ w undef w'
  | .ok (.enter f args) w' => w' = w ∧ Calls E.P f args w (fun e w'' => ∃ u, e = .returned u ∧ Out E base h' v mw n n' μ κ w u w'')
  | _ => False

def OpWf (E : Env) (xs : List Value) (h : Heap) (n : Nat) (v : Value) (h' : Heap) (n' : Nat) : Prop :=
  n ≤ n' ∧ ∀ D : Nat → Prop, (∀ k, D k → k < n) → (∀ g, g < E.P.globals.size → D g) → (∀ x ∈ xs, WF D x) → HWF D h → WF (Dp D n n') v ∧ HWF (Dp D n n') h'

/-- What a call of a function comes to. -/
def FuncSem (E : Env) (base : World) (f : FuncId) (args : List Value) (h : Heap) (n : Nat) (v : Value) (h' : Heap) (n' mw : Nat) : Prop :=
  OpWf E args h n v h' n' ∧ ∀ (μ κ : Nat → Nat) (w : World), Rel E.P base μ κ h w → HWF (· < n) h → (∀ x ∈ args, WF (· < n) x) → E.P.globals.size ≤ n →
    OpOut E base h' v mw n n' μ κ w ((callFunc f (args.map (renV μ κ)).toArray).run E.P w)

/-- What is asked of the environment: what it tells of functions is so. -/
structure EnvOk (E : Env) (base : World) : Prop where
  str : E.strF = strAt
  mixed : E.P.follows .mixedOrders = true
  zero : ∀ t i z, t < E.P.types.size → E.P.info? t = some i → i.zero = some z → pureV 6 z = true
  oracle : ∀ f args h n T K, E.oracle f args h n = some T → T K → ∃ v h' n' mw, K v h' n' mw ∧ FuncSem E base f args h n v h' n' mw
  eqAgg : ∀ t a b r, E.eqAgg t a b = some r → ∀ μ κ w, (∀ op x y, (eqGuard op t x y (.agg (a.map (renV μ κ)).toArray) (.agg (b.map (renV μ κ)).toArray)).run E.P w = .ok () w) ∧
    (Op.equal t (.agg (a.map (renV μ κ)).toArray) (.agg (b.map (renV μ κ)).toArray)).run E.P w = .ok r w
  enter : ∀ f fn, E.P.funcs[f]? = some fn → fn.body.isSome = true → ∀ (args : Array Value) w, (callFunc f args).run E.P w = .ok (.enter f args) w
  sure : ∀ f fn c, E.sure f = true → E.P.funcs[f]? = some fn → fn.body = some c → codeOk E.P.globals.size c = true

/-- What it means that an operation comes to this. -/
def OpSem (E : Env) (base : World) (o : Oper) (ρ : Operand → Value) (h : Heap) (n : Nat) (v : Value) (h' : Heap) (n' mw : Nat) : Prop :=
  OpWf E (o.op.operands.toList.map ρ) h n v h' n' ∧
  ∀ (μ κ : Nat → Nat) (w : World) (ρr : Operand → Value), Rel E.P base μ κ h w → (∀ x ∈ o.op.operands.toList, ρr x = renV μ κ (ρ x)) → HWF (· < n) h → (∀ x ∈ o.op.operands.toList, WF (· < n) (ρ x)) →
    E.P.globals.size ≤ n → OpOut E base h' v mw n n' μ κ w ((execOp ρr o).run E.P w)

section
variable {E : Env} {base : World} {o : Oper} {ρ : Operand → Value} {h : Heap} {n : Nat}

theorem Out.same {v : Value} {mw : Nat} {μ κ : Nat → Nat} {w : World} (hr : Rel E.P base μ κ h w) : Out E base h v mw n n μ κ w (renV μ κ v) w :=
  ⟨μ, κ, Step.refl _ _ _ _ _, rfl, hr⟩

theorem Dp_mono {D : Nat → Prop} {n n' : Nat} : ∀ k, D k → Dp D n n' k := fun _ h => .inl h

/-- An operation that touches no memory. -/
theorem OpSem.pure {v : Value} (mw : Nat) (H : ∀ (μ κ : Nat → Nat) (w : World) (ρr : Operand → Value), Below base.heap.size base w → (∀ x ∈ o.op.operands.toList, ρr x = renV μ κ (ρ x)) →
    (execOp ρr o).run E.P w = .ok (.value (renV μ κ v)) w) : OpSem E base o ρ h n v h n mw := by
  refine ⟨⟨Nat.le_refl _, fun D _ _ hx hh => ⟨fun μ κ μ' κ' hd => ?_, hh.mono Dp_mono⟩⟩, fun μ κ w ρr hr hρ _ _ _ => ?_⟩
  · have h1 := H μ κ base (fun x => renV μ κ (ρ x)) (Below.refl _ _) (fun _ _ => rfl)
    have h2 := H μ' κ' base (fun x => renV μ κ (ρ x)) (Below.refl _ _) (fun x hxx => (hx (ρ x) (List.mem_map_of_mem hxx) μ κ μ' κ' (fun k hk => hd k (.inl hk))).symm)
    rw [h1] at h2
    simp only [Result.ok.injEq, Next.value.injEq, and_true] at h2
    exact h2.symm
  · rw [H μ κ w ρr hr.below hρ]
    exact Out.same hr

theorem wf_upd {n : Nat} {v : Value} (hv : WF (· < n) v) (μ κ : Nat → Nat) (x y : Nat) : renV (upd μ n x) (upd κ n y) v = renV μ κ v :=
  hv _ _ _ _ fun k hk => ⟨upd_other _ _ (by omega), upd_other _ _ (by omega)⟩

theorem blk_new {base w : World} {μ κ : Nat → Nat} {n : Nat} (hbs : base.heap.size ≤ w.heap.size) (cs : List Value) (hcs : ∀ v ∈ cs, WF (· < n) v) (e : TypeId) (kc : Nat) :
    BlkOk base (upd μ n w.heap.size) (upd κ n kc) n (mkBlk cs e) (w.alloc (.cells (cs.map (renV μ κ)).toArray e)) := by
  unfold BlkOk
  simp only [mkBlk]
  refine ⟨_, _, _, by rw [upd_same]; show (w.heap.push _)[w.heap.size]? = _; rw [Array.getElem?_push_size], fun _ => ⟨rfl, by rw [upd_same]; exact hbs, rfl⟩, by simp, fun j v hj => ?_, by simp, by simp⟩
  rw [List.getElem?_map] at hj
  cases hx : cs[j]? with
  | none => simp [hx] at hj
  | some u =>
    simp [hx] at hj
    subst hj
    simp [hx, wf_upd (hcs u (List.mem_of_getElem? hx))]

theorem mk_wf {D D' : Nat → Prop} {cs : List Value} {e : TypeId} (hcs : ∀ v ∈ cs, WF D v) (hd : ∀ k, D k → D' k) : ∀ v, some v ∈ (mkBlk cs e).cells → WF D' v := by
  intro v hv
  simp only [mkBlk, List.mem_map] at hv
  obtain ⟨u, hu, he⟩ := hv
  cases he
  exact (hcs _ hu).mono hd

/-- A new block with these cells; what is handed on bears its name. -/
theorem OpSem.new {cs : List Value} {e : TypeId} {v : Value} (mw : Nat)
    (hwf : ∀ D : Nat → Prop, (∀ x ∈ o.op.operands.toList, WF D (ρ x)) → ∀ c ∈ cs, WF D c)
    (hv : ∀ D : Nat → Prop, D n → WF D v)
    (H : ∀ (μ κ : Nat → Nat) (w : World) (ρr : Operand → Value), (∀ x ∈ o.op.operands.toList, ρr x = renV μ κ (ρ x)) → ∀ x y, 
      (execOp ρr o).run E.P w = .ok (.value (renV (upd μ n w.heap.size) (upd κ n x) v)) (w.alloc (.cells (cs.map (renV μ κ)).toArray e)) ∨ y = y + 1) :
    OpSem E base o ρ h n v ((n, mkBlk cs e) :: h) (n + 1) mw := by
  refine ⟨⟨by omega, fun D _ _ hx hh => ⟨hv _ (.inr ⟨by omega, by omega⟩), (hh.mono Dp_mono).cons (.inr ⟨by omega, by omega⟩) (mk_wf (hwf D fun x hxx => hx _ (List.mem_map_of_mem hxx)) Dp_mono)⟩⟩,
    fun μ κ w ρr hr hρ hh hx hg => ?_⟩
  have hrun := (H μ κ w ρr hρ 0 0).resolve_right (by omega)
  rw [hrun]
  exact ⟨_, _, Step.alloc mw n μ κ w _ 0, rfl, hr.alloc hh hg _ _ 0 (blk_new hr.below.size cs (hwf _ hx) e 0)⟩

theorem sound_move {x : Operand} (ho : o.op = .move x ∨ o.op = .assign x) : OpSem E base o ρ h n (ρ x) h n big := by
  refine OpSem.pure _ fun μ κ w ρr _ hρ => ?_
  have hx : ρr x = renV μ κ (ρ x) := hρ x (by rcases ho with ho | ho <;> simp [ho, Op.operands])
  rcases ho with ho | ho <;> simp [execOp, ho, hx]

theorem sound_pick {c a b : Operand} {t : Bool} (ho : o.op = .pick c a b) (hc : ρ c = .bool t) : OpSem E base o ρ h n (match t with | true => ρ a | false => ρ b) h n big := by
  refine OpSem.pure _ fun μ κ w ρr _ hρ => ?_
  have h1 : ρr c = renV μ κ (ρ c) := hρ c (by simp [ho, Op.operands])
  have h2 : ρr a = renV μ κ (ρ a) := hρ a (by simp [ho, Op.operands])
  have h3 : ρr b = renV μ κ (ρ b) := hρ b (by simp [ho, Op.operands])
  cases t <;> simp [execOp, ho, h1, h2, h3, hc, asBool]

theorem zero_ren (hE : EnvOk E base) {t : TypeId} {z : Value} (hz : zeroT E t = some z) (μ κ : Nat → Nat) : renV μ κ z = z := by
  obtain ⟨hlt, i, hi, hz⟩ := zeroT_spec hz
  exact ren_pure μ κ 6 z (hE.zero t i z hlt hi hz)

theorem zero_cells (hE : EnvOk E base) {t : TypeId} {z : Value} (hz : zeroT E t = some z) (μ κ : Nat → Nat) : z.cells.toList.map (renV μ κ) = z.cells.toList := by
  rw [← cellsL_ren, zero_ren hE hz]

theorem zero_wf (hE : EnvOk E base) {t : TypeId} {z : Value} (hz : zeroT E t = some z) (D : Nat → Prop) : WF D z := fun μ κ μ' κ' _ => by rw [zero_ren hE hz, zero_ren hE hz]

theorem sound_alloc (hE : EnvOk E base) {e : TypeId} {z : Value} (ho : o.op = .alloc e) (hz : zeroT E e = some z) :
    OpSem E base o ρ h n (.pointer (some ⟨n, 0, none⟩)) ((n, mkBlk z.cells.toList e) :: h) (n + 1) big := by
  refine OpSem.new _ (fun D _ => (zero_wf hE hz D).cells) (fun D hD => WF.ptr.2 hD) fun μ κ w ρr hρ x y => .inl ?_
  rw [zero_cells hE hz]
  simp [execOp, ho, Instr.alloc, run_zeroT hz, newVar, newRow, renAd, upd_same]

theorem sound_box {e : TypeId} {x : Operand} (ho : o.op = .box e x) :
    OpSem E base o ρ h n (.pointer (some ⟨n, 0, none⟩)) ((n, mkBlk (ρ x).cells.toList e) :: h) (n + 1) big := by
  refine OpSem.new _ (fun D hD => (hD x (by simp [ho, Op.operands])).cells) (fun D hD => WF.ptr.2 hD) fun μ κ w ρr hρ _ y => .inl ?_
  have hx : ρr x = renV μ κ (ρ x) := hρ x (by simp [ho, Op.operands])
  rw [← Array.toList_map, Array.toArray_toList]
  simp [execOp, ho, Instr.box, newVar, newRow, hx, renAd, upd_same, cells_ren]

theorem sound_load {t : TypeId} {a : Operand} {ad : Addr} {v : Value} (ho : o.op = .load t a) (ha : ρ a = .pointer (some ad)) (hl : loadO E h t ad = some v) : OpSem E base o ρ h n v h n big := by
  refine ⟨⟨Nat.le_refl _, fun D _ _ _ hh => ⟨(loadO_wf hh hl).mono Dp_mono, hh.mono Dp_mono⟩⟩, fun μ κ w ρr hr hρ _ _ _ => ?_⟩
  have hx : ρr a = renV μ κ (ρ a) := hρ a (by simp [ho, Op.operands])
  have hl' := loadO_spec hr hl
  have : (execOp ρr o).run E.P w = .ok (.value (renV μ κ v)) w := by simp [execOp, ho, Instr.loadAt, Instr.sureAddr, hx, ha, hl']
  rw [this]
  exact Out.same hr

theorem sound_store {t : TypeId} {a x : Operand} {ad : Addr} {s : Nat} {h' : Heap} (ho : o.op = .store t a x) (ha : ρ a = .pointer (some ad)) (hs : sizeT E t = some s) (hn : (ρ x).cells.size = s)
    (hst : storeO h ad (ρ x).cells.toList = some h') : OpSem E base o ρ h n undef h' n ad.block := by
  refine ⟨⟨Nat.le_refl _, fun D _ _ hx hh => ⟨WF.undef, (storeO_wf hst hh ((hx _ (List.mem_map_of_mem (a := x) (by simp [ho, Op.operands]))).cells)).mono Dp_mono⟩⟩, fun μ κ w ρr hr hρ hh hx hg => ?_⟩
  have h1 : ρr a = renV μ κ (ρ a) := hρ a (by simp [ho, Op.operands])
  have h2 : ρr x = renV μ κ (ρ x) := hρ x (by simp [ho, Op.operands])
  obtain ⟨w', hrun, hr', hsz, hoth⟩ := storeO_spec hr hst
  have hlt : ad.block < n := WF.ptr.1 (ha ▸ hx a (by simp [ho, Op.operands]))
  have : (execOp ρr o).run E.P w = .ok .skip w' := by
    simp [execOp, ho, Instr.storeAt, Instr.sureAddr, h1, h2, ha, storeVar, run_sizeT hs, cells_ren, hn]
    rw [hrun]; rfl
  rw [this]
  refine ⟨μ, κ, ⟨Nat.le_refl _, fun _ _ => ⟨rfl, rfl⟩, hsz, fun b _ hb => hoth b fun e => hb ad.block (Nat.le_refl _) hlt e.symm, fun _ h1 h2 => by omega⟩, by simp, hr'⟩

theorem sound_nilCheck {x : Operand} (ho : o.op = .nilCheck x) (hx : (∃ a, ρ x = .pointer (some a)) ∨ ∃ t v, ρ x = .iface t v) : OpSem E base o ρ h n (ρ x) h n big := by
  refine OpSem.pure _ fun μ κ w ρr _ hρ => ?_
  have h1 : ρr x = renV μ κ (ρ x) := hρ x (by simp [ho, Op.operands])
  rcases hx with ⟨a, ha⟩ | ⟨t, v, ha⟩ <;> simp [execOp, ho, h1, ha]

theorem sound_makeInterface {t : TypeId} {x : Operand} {d : TypeDesc} (ho : o.op = .makeInterface t x) (hd : und E t = some d) (hn : ∀ ms, d ≠ .interface ms) : OpSem E base o ρ h n (.iface t (ρ x)) h n big := by
  refine OpSem.pure _ fun μ κ w ρr _ hρ => ?_
  have h1 : ρr x = renV μ κ (ρ x) := hρ x (by simp [ho, Op.operands])
  unfold und at hd
  cases d <;> first | (exact absurd rfl (hn _)) | simp [execOp, ho, Instr.makeInterface, run_underlying hd, h1]

theorem sound_extract {x : Operand} {ix : Nat} {vs : Array Value} {v : Value} (ho : o.op = .extract x ix) (hx : ρ x = .tuple vs) (hv : vs[ix]? = some v) : OpSem E base o ρ h n v h n big := by
  refine OpSem.pure _ fun μ κ w ρr _ hρ => ?_
  have h1 : ρr x = renV μ κ (ρ x) := hρ x (by simp [ho, Op.operands])
  simp [execOp, ho, h1, hx, Instr.extract, hv]

theorem sound_fieldAddr {s : TypeId} {x : Operand} {f : Nat} {a : Addr} {fl : Field} {z : Nat} (ho : o.op = .fieldAddr s x f) (hx : ρ x = .pointer (some a)) (hf : (fieldsOf E s)[f]? = some fl)
    (hz : sizeT E fl.type = some (z + 1)) : OpSem E base o ρ h n (.pointer (some (a.add fl.offset))) h n big := by
  refine OpSem.pure _ fun μ κ w ρr _ hρ => ?_
  have h1 : ρr x = renV μ κ (ρ x) := hρ x (by simp [ho, Op.operands])
  unfold fieldsOf und at hf
  split at hf
  · rename_i fs hu
    simp [execOp, ho, h1, hx, Instr.fieldAt, run_underlying hu, hf, Instr.sureAddr, fieldPlace, run_sizeT hz, renAd_add]
  · simp at hf

theorem partO_spec {t : TypeId} {cs : Array Value} {off : Nat} {v : Value} (hp : partO E t cs off = some v) (μ κ : Nat → Nat) (w : World) : (part t (cs.map (renV μ κ)) off).run E.P w = .ok (renV μ κ v) w := by
  unfold partO at hp
  split at hp
  · rename_i hag
    split at hp
    · rename_i s hs
      cases hp
      simp [part, run_isAgg hag, run_sizeT hs, Array.map_extract]
    · cases hp
  · rename_i hag
    simp [part, run_isAgg hag, hp]
  · cases hp

theorem sound_field {t : TypeId} {x : Operand} {f : Nat} {cs : Array Value} {fl : Field} {v : Value} (ho : o.op = .field t x f) (hx : ρ x = .agg cs) (hf : (fieldsOf E t)[f]? = some fl)
    (hp : partO E fl.type cs fl.offset = some v) : OpSem E base o ρ h n v h n big := by
  refine OpSem.pure _ fun μ κ w ρr _ hρ => ?_
  have h1 : ρr x = renV μ κ (ρ x) := hρ x (by simp [ho, Op.operands])
  unfold fieldsOf und at hf
  split at hf
  · rename_i fs hu
    simp [execOp, ho, h1, hx, Instr.field, run_underlying hu, hf, asAgg, partO_spec hp]
  · simp at hf

theorem sound_indexAddr {t : TypeId} {x ix : Operand} {k : IntKind} {i : Int} {e : TypeId} {len z : Nat} {a : Addr} (ho : o.op = .indexAddr t x ix) (hi : ρ ix = .int k i) (hz : sizeT E e = some z) (h0 : 0 ≤ i) (h1 : i < len)
    (hx : (und E t = some (.array len e) ∧ ρ x = .pointer (some a)) ∨ (und E t = some (.slice e) ∧ ∃ c, ρ x = .slice (some a) len c)) : OpSem E base o ρ h n (.pointer (some (a.add (i.toNat * z)))) h n big := by
  refine OpSem.pure _ fun μ κ w ρr _ hρ => ?_
  have e1 : ρr x = renV μ κ (ρ x) := hρ x (by simp [ho, Op.operands])
  have e2 : ρr ix = renV μ κ (ρ ix) := hρ ix (by simp [ho, Op.operands])
  rcases hx with ⟨hu, hx⟩ | ⟨hu, c, hx⟩
  · unfold und at hu
    simp [execOp, ho, e1, e2, hx, hi, Instr.indexAt, asIntOf, run_underlying hu, Instr.sureAddr, h0, h1, run_sizeT hz, renAd_add]
  · unfold und at hu
    simp [execOp, ho, e1, e2, hx, hi, Instr.indexAt, asIntOf, run_underlying hu, h0, h1, run_sizeT hz, renAd_add]

theorem sound_indexArr {t : TypeId} {x ix : Operand} {k : IntKind} {i : Int} {e : TypeId} {len z : Nat} {cs : Array Value} {v : Value} (ho : o.op = .index t x ix) (hi : ρ ix = .int k i) (hz : sizeT E e = some z) (h0 : 0 ≤ i) (h1 : i < len)
    (hu : und E t = some (.array len e)) (hx : ρ x = .agg cs) (hp : partO E e cs (i.toNat * z) = some v) : OpSem E base o ρ h n v h n big := by
  refine OpSem.pure _ fun μ κ w ρr _ hρ => ?_
  have e1 : ρr x = renV μ κ (ρ x) := hρ x (by simp [ho, Op.operands])
  have e2 : ρr ix = renV μ κ (ρ ix) := hρ ix (by simp [ho, Op.operands])
  unfold und at hu
  simp [execOp, ho, e1, e2, hx, hi, Instr.index, asIntOf, run_underlying hu, h0, h1, run_sizeT hz, partO_spec hp]

theorem strLen_eq (s : ByteArray) : strLen s = s.size := by simp [strLen]

theorem sound_indexStr {t : TypeId} {x ix : Operand} {k : IntKind} {i : Int} {s : ByteArray} {b : UInt8} (ho : o.op = .index t x ix) (hi : ρ ix = .int k i) (h0 : 0 ≤ i) 
    (hu : und E t = some .string) (hx : ρ x = .string s) (hb : nth s.data.toList i.toNat = some b) : OpSem E base o ρ h n (.int .u8 b.toNat) h n big := by
  refine OpSem.pure _ fun μ κ w ρr _ hρ => ?_
  have e1 : ρr x = renV μ κ (ρ x) := hρ x (by simp [ho, Op.operands])
  have e2 : ρr ix = renV μ κ (ρ ix) := hρ ix (by simp [ho, Op.operands])
  unfold und at hu
  rw [nth_eq] at hb
  have hb' : s[i.toNat]? = some b := by
    have hlt : i.toNat < s.size := by
      have := (List.getElem?_eq_some_iff.1 hb).1
      simpa using this
    rw [getElem?_pos s i.toNat hlt]
    have := (List.getElem?_eq_some_iff.1 hb).2
    rw [← this]
    rfl
  simp [execOp, ho, e1, e2, hx, hi, Instr.index, asIntOf, run_underlying hu, h0, hb']

theorem sound_typeAssert_nil {x : Operand} {xt t : TypeId} {d : TypeDesc} {z : Value} (hE : EnvOk E base) (ho : o.op = .typeAssert x xt t true) (hd : und E t = some d) (hn : ∀ ms, d ≠ .interface ms)
    (hx : ρ x = .nilIface ∨ ∃ u v, ρ x = .iface u v ∧ u ≠ t) (hz : zeroT E t = some z) : OpSem E base o ρ h n (.tuple #[z, .bool false]) h n big := by
  refine OpSem.pure _ fun μ κ w ρr _ hρ => ?_
  have e1 : ρr x = renV μ κ (ρ x) := hρ x (by simp [ho, Op.operands])
  unfold und at hd
  rcases hx with hx | ⟨u, v, hx, hne⟩
  · cases d <;> first | (exact absurd rfl (hn _)) | simp [execOp, ho, e1, hx, Instr.typeAssert, run_underlying hd, run_zeroT hz, zero_ren hE hz]
  · cases d <;> first | (exact absurd rfl (hn _)) | simp [execOp, ho, e1, hx, Instr.typeAssert, run_underlying hd, run_zeroT hz, zero_ren hE hz, hne]

theorem sound_typeAssert {x : Operand} {xt t : TypeId} {d : TypeDesc} {v : Value} {ok : Bool} (ho : o.op = .typeAssert x xt t ok) (hd : und E t = some d) (hn : ∀ ms, d ≠ .interface ms)
    (hx : ρ x = .iface t v) : OpSem E base o ρ h n (match ok with | true => .tuple #[v, .bool true] | false => v) h n big := by
  refine OpSem.pure _ fun μ κ w ρr _ hρ => ?_
  have e1 : ρr x = renV μ κ (ρ x) := hρ x (by simp [ho, Op.operands])
  unfold und at hd
  cases ok <;> cases d <;> first | (exact absurd rfl (hn _)) | simp [execOp, ho, e1, hx, Instr.typeAssert, run_underlying hd]

end
end Go.Pe
