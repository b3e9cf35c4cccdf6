/-
  Rules for functions; an environment out of rules; tables; the close of a law that is true for every input.
-/
import Derived.Test.YtamkkkkonigglaaGreatDoorPeP
import Derived.Carry
import Derived.ChangeSame
import Derived.OpenShut
import Derived.Lib.LaidTab
namespace Go.Pe
open Go Go.RowKit Go.ChangeShapes

abbrev Rule := List Value → Heap → Nat → Option ((Value → Heap → Nat → Nat → Prop) → Prop)

def findR : List (Nat × Rule) → Nat → List Value → Heap → Nat → Option ((Value → Heap → Nat → Nat → Prop) → Prop)
  | [], _, _, _, _ => none
  | (g, R) :: l, f, args, h, n => match Nat.beq g f with | true => R args h n | false => findR l f args h n

def RuleOk (P : Program) (base : World) (f : FuncId) (R : Rule) : Prop :=
  ∀ E : Env, E.P = P → ∀ args h n T K, R args h n = some T → T K → ∃ v h' n' mw, K v h' n' mw ∧ FuncSem E base f args h n v h' n' mw

/-- A program's types and functions, looked over once. -/
def plainOk (P : Program) : Bool :=
  P.types.toList.all (fun i => match i.zero with | some z => pureV 6 z | none => true) && P.funcs.toList.all (fun fn => !(fn.name == "runtime.NumGoroutine"))

theorem findR_ok {P : Program} {base : World} {E : Env} (hE : E.P = P) {args : List Value} {h : Heap} {n : Nat} {T : (Value → Heap → Nat → Nat → Prop) → Prop} {K : Value → Heap → Nat → Nat → Prop} {f : FuncId} : ∀ rules : List (Nat × Rule),
    (∀ x ∈ rules, RuleOk P base x.1 x.2) → findR rules f args h n = some T → T K → ∃ v h' n' mw, K v h' n' mw ∧ FuncSem E base f args h n v h' n' mw := by
  intro rules
  induction rules with
  | nil => intro _ h; cases h
  | cons x rules ih =>
    intro hr hf hT
    obtain ⟨g, R⟩ := x
    simp only [findR] at hf
    split at hf
    · rename_i hb
      have := beq_true hb
      subst this
      exact hr _ (List.mem_cons_self ..) E hE args h n T K hf hT
    · exact ih (fun x hx => hr x (List.mem_cons_of_mem _ hx)) hf hT

theorem envOk_of {E : Env} {base : World} {rules : List (Nat × Rule)} (hstr : E.strF = strAt) (ho : E.oracle = findR rules) (hm : E.P.follows .mixedOrders = true) (hp : plainOk E.P = true) (hr : ∀ x ∈ rules, RuleOk E.P base x.1 x.2)
    (he : ∀ t a b r, E.eqAgg t a b = some r → ∀ μ κ w, (∀ op x y, (eqGuard op t x y (.agg (a.map (renV μ κ)).toArray) (.agg (b.map (renV μ κ)).toArray)).run E.P w = .ok () w) ∧
    (Op.equal t (.agg (a.map (renV μ κ)).toArray) (.agg (b.map (renV μ κ)).toArray)).run E.P w = .ok r w)
    (hs : ∀ f fn c, E.sure f = true → E.P.funcs[f]? = some fn → fn.body = some c → codeOk E.P.globals.size c = true := by intro _ _ _ h; cases h) : EnvOk E base := by
  simp only [plainOk, Bool.and_eq_true, List.all_eq_true] at hp
  refine ⟨hstr, hm, fun t i z hlt hi hz => ?_, fun f args h n T K hT hK => ?_, he, fun f fn hf hb args w => ?_, hs⟩
  · have := hp.1 i (Array.mem_toList_iff.2 (Array.mem_of_getElem? (show E.P.types[t]? = some i from by
      simp only [Tables.info?, if_pos hlt] at hi
      exact hi)))
    rw [hz] at this
    exact this
  · rw [ho] at hT
    exact findR_ok rfl rules hr hT hK
  · have hn := hp.2 fn (Array.mem_toList_iff.2 (Array.mem_of_getElem? hf))
    have h1 : fn.name ≠ "runtime.NumGoroutine" := by simpa using hn
    have h2 : fn.body ≠ none := by cases hx : fn.body <;> simp [hx] at hb ⊢
    simp [callFunc, hf, h1, h2]

/-! Tables -/

def tabBlk (k : IntKind) (zs : List Int) : Blk := { cells := zs.map fun z => some (.int k z), elem := 0, own := false, room := 0, iter := none }

theorem blkOk_tab {P : Program} {W : World} {name : String} {k : IntKind} {zs : List Int} {g : Nat} (h : Lib.TabIs P W name k zs) (hg : P.globalNamed name = some g) : BlkOk W id (fun _ => 0) g (tabBlk k zs) W := by
  unfold Lib.TabIs World.var? at h
  rw [hg] at h
  simp only [Option.bind_some] at h
  split at h
  · rename_i cs t fr hw
    cases h
    have key : ∃ c e fr, W.heap[id g]? = some (.cells c e fr) ∧ ((tabBlk k zs).own = true → e = (tabBlk k zs).elem ∧ W.heap.size ≤ id g ∧ fr = (0, 0)) ∧
      (tabBlk k zs).cells.length ≤ c.size ∧ (∀ (j : Nat) v, (tabBlk k zs).cells[j]? = some (some v) → c[j]? = some (renV id (fun _ => 0) v)) ∧ ((tabBlk k zs).room ≠ 0 → c.size = 0 * (tabBlk k zs).room) ∧
      ((tabBlk k zs).room = 0 → (tabBlk k zs).own = true → c.size = (tabBlk k zs).cells.length) := by
      refine ⟨_, _, _, hw, (fun h => by cases h), (by simp [tabBlk]), (fun j v hj => ?_), (fun h => absurd rfl h), (fun _ h => by cases h)⟩
      simp only [tabBlk, List.getElem?_map] at hj
      cases hz : zs[j]? with
      | none => simp [hz] at hj
      | some z =>
        simp [hz] at hj
        subst hj
        simp [hz]
    exact key
  · cases h

theorem rel_start {P : Program} {W : World} (hs : W.ShapedOpen P) (hlow : decide (P.globals.size < (begin P (fun _ _ => 0) default).world.heap.size) = true) {h : Heap} (hb : ∀ k b, getBlk h k = some b → BlkOk W id (fun _ => 0) k b W) : Rel P W id (fun _ => 0) h W := by
  refine ⟨Below.refl _ _, hb, fun i j _ _ _ _ e => e, fun _ _ => rfl, ?_⟩
  obtain ⟨o, o0, h1, _⟩ := hs.2 P.globals.size (Nat.le_refl _) (of_decide_eq_true hlow)
  exact Nat.le_of_lt (Array.getElem?_eq_some_iff.1 h1).1

def heapOk (n : Nat) (h : Heap) : Bool := h.all fun x => Nat.blt x.1 n && x.2.cells.all fun c => match c with | some v => pureV 6 v | none => true

theorem getBlk_mem {h : Heap} {k : Nat} {b : Blk} (hb : getBlk h k = some b) : (k, b) ∈ h := by
  induction h with
  | nil => simp [getBlk] at hb
  | cons x h ih =>
    obtain ⟨j, c⟩ := x
    rw [getBlk_cons] at hb
    split at hb
    · rename_i e; subst e; cases hb; exact List.mem_cons_self ..
    · exact List.mem_cons_of_mem _ (ih hb)

theorem hwf_of {n : Nat} {h : Heap} (hk : heapOk n h = true) : HWF (· < n) h := by
  intro k b hb
  have := List.all_eq_true.1 hk _ (getBlk_mem hb)
  simp only [Bool.and_eq_true, List.all_eq_true] at this
  refine ⟨by simpa [Nat.blt_eq] using this.1, fun v hv => ?_⟩
  have := this.2 _ hv
  exact WF.pure this

/-! A law's close -/

section
variable {H : Type} {enc : TypeId × Value → H} {P : Program} {W W' : World}

theorem trodAll_stays (hl : laidOutB P = true) (hb : Below W.heap.size W W') {sp : Nat → Bool} : ∀ (ts : List TypeId) (vs : List Value) (ds : List (DataW H)) (ps : List MemPlace), ts.all (fun t => P.readableRec t && decide (t < P.types.size)) = true →
    DataW.TrodAll enc P W 0 (fun _ => true) true ts vs ds ps → (∀ x ∈ ps, x.block < W.heap.size) → (∀ x ∈ ps, sp x.block = true) → DataW.TrodAll enc P W' 0 sp true ts vs ds ps := by
  intro ts
  induction ts with
  | nil =>
    intro vs ds ps _ h _ _
    obtain ⟨rfl, rfl, rfl⟩ := trodAll_nil h
    exact trodAll_mk0
  | cons t ts ih =>
    intro vs ds ps ht h hlt hsp
    simp only [List.all_cons, Bool.and_eq_true, decide_eq_true_eq] at ht
    obtain ⟨v, vs', d, ds', p, q, rfl, rfl, rfl, h1, h2⟩ := trodAll_cons h
    exact trodAll_cons_mk (WideElems.Trod_stays hl ht.1.1 ht.1.2 h1 (fun x hx => hb.same (hlt x (List.mem_append_left _ hx))) fun x hx => hsp x (List.mem_append_left _ hx))
      (ih vs' ds' q ht.2 h2 (fun x hx => hlt x (List.mem_append_right _ hx)) fun x hx => hsp x (List.mem_append_right _ hx))

/-- The function has returned true, and nothing old was touched: what a law of the template asks. -/
theorem post_law {f : Func} {s : ChangeSpec} {apart fresh handsOn again : Bool} {args : Array Value} {ds gs : List (DataW H)} {before : List MemPlace} {tb : TypeId}
    (hW : DataW.Whole enc P f.params.toList s.vars apart W args.toList ds gs before) (hvars : s.vars = []) (hfn : s.fn H ds = { results := [.lit (.bool true)], args := ds, vars := [] })
    (hl : laidOutB P = true) (hts : f.params.toList.all (fun t => P.readableRec t && decide (t < P.types.size)) = true) (hres : f.resultTypes = #[tb]) (hbool : P.underlying tb = some .bool) (hb : Below W.heap.size W W') :
    s.post enc P f apart fresh handsOn again W args (.bool true) W' := by
  have hW' := hW
  obtain ⟨p, q, hA, hV, rfl, hz, hn⟩ := hW
  rw [hvars] at hV
  obtain ⟨rfl, rfl⟩ := trodVars_none hV
  have hlt : ∀ x ∈ p, x.block < W.heap.size := fun x hx => by simpa using hW'.lt x (List.mem_append_left _ hx)
  have hfn' : s.fn H (ds ++ []) = { results := [.lit (.bool true)], args := ds, vars := [] } := by rw [List.append_nil]; exact hfn
  have hr : ∀ (b : Nat) (sp : Nat → Bool) (hd : Bool), DataW.TrodAll enc P W' b sp hd f.resultTypes.toList ((Value.bool true).resultList f.resultTypes.size) (s.fn H (ds ++ [])).results [] := fun b sp hd => by
    rw [hfn', hres]
    exact trodAll_cons_mk (shut_bool hbool _) trodAll_mk0
  have ha : ∀ sp : Nat → Bool, (∀ x ∈ p, sp x.block = true) → DataW.TrodAll enc P W' 0 sp true f.params.toList args.toList (s.fn H (ds ++ [])).args p := fun sp hsp => by
    rw [hfn']
    exact trodAll_stays hl hb _ _ _ _ hts hA hlt hsp
  have hv : ∀ sp : Nat → Bool, DataW.TrodVars enc P W' sp s.vars (s.fn H (ds ++ [])).vars [] := fun sp => by rw [hfn', hvars]; rfl
  refine ⟨ds, [], p ++ [], [], p, [], hW', hr _ _ _, ha _ (fun x hx => by simpa using hlt x hx), hv _, World.keptBut_mono (fun x hx => ⟨hx, ?_⟩) (hb.frame _), fun _ => ?_⟩
  · exact .inr (by simpa using hx)
  · refine ⟨ok_one hres rfl (okWide_bool_mk hbool _), _, _, ([] ++ p) ++ [], ⟨[] ++ p, [], trodAll_append (ha _ (fun _ _ => rfl)) (hr _ _ _), hv _, rfl, ?_, ?_⟩, ?_⟩
    · intro b off hp
      have hp' : MemPlace.cell b off ∈ p := by simpa using hp
      rw [hb.frozen (p := ⟨b, off, none⟩) (hlt _ hp')]
      exact hz b off (by simpa using hp')
    · intro hap
      have := hn hap
      simpa using this
    · intro x hx _
      simpa using hx

end
end Go.Pe
