/-
  The evaluator's soundness, thirteenth part: code; functions; the evaluator is right.
-/
import Derived.Test.YtamkkkkonigglaaGreatDoorPeN
import Derived.Laws.Sem
import Derived.Defers
namespace Go.Pe
open Go Go.RowKit

section
variable {E : Env} {base : World}

def CodeSem (E : Env) (base : World) (c : Code) (s : St) (e : Exit) (s' : St) : Prop :=
  Sem1 E s s' ∧ ∀ μ κ a w, StRel E base μ κ s a w → c.wp E.P (fun e' a' w' => e' = e ∧ StOut E base s s' μ κ w a' w') a w

theorem loopK_sound {c : Code} {call : CallFn} (ih : ∀ (s : St) (K : Exit → St → Prop), codeK E call c s K → ∃ e s', K e s' ∧ CodeSem E base c s e s') : ∀ (n : Nat) (s : St) (K : Exit → St → Prop), loopK (codeK E call c) n s K →
    ∃ e s', K e s' ∧ Sem1 E s s' ∧ ∀ μ κ a w, StRel E base μ κ s a w → Code.rounds E.P c (fun e' a' w' => e' = e ∧ StOut E base s s' μ κ w a' w') n a w := by
  intro n
  induction n with
  | zero => intro s K hk; exact hk.elim
  | succ n ihn =>
    intro s K hk
    unfold loopK at hk
    obtain ⟨e1, s1, h1, h2, h3⟩ := ih s _ hk
    cases e1 with
    | normal =>
      obtain ⟨e, s', k1, k2, k3⟩ := ihn s1 K h1
      refine ⟨e, s', k1, h2.trans k2, fun μ κ a w hr => ?_⟩
      rw [rounds_succ]
      refine wp_mono (h3 μ κ a w hr) fun e' a' w' ⟨he, μ1, κ1, q1, q2⟩ => ?_
      subst he
      refine (?_ : Code.rounds E.P c _ n a' w')
      have key : ∀ n a w, Code.rounds E.P c (fun e' a' w' => e' = e ∧ StOut E base s1 s' μ1 κ1 w a' w') n a w → True := fun _ _ _ _ => trivial
      have := k3 μ1 κ1 a' w' q2
      have mono : ∀ (n : Nat) (a : Act) (w : World) (Q Q' : Exit → Act → World → Prop), (∀ e a w, Q e a w → Q' e a w) → Code.rounds E.P c Q n a w → Code.rounds E.P c Q' n a w := by
        intro n
        induction n with
        | zero => intro a w Q Q' _ h; exact h
        | succ n ih =>
          intro a w Q Q' hq h
          rw [rounds_succ] at h ⊢
          refine wp_mono h fun e a w he => ?_
          cases e with
          | normal => exact ih _ _ _ _ hq he
          | _ => exact hq _ _ _ he
      exact mono _ _ _ _ _ (fun e' a'' w'' ⟨he, ho⟩ => ⟨he, StOut.trans q1 k2.mw ho⟩) this
    | _ =>
      refine ⟨_, s1, h1, h2, fun μ κ a w hr => ?_⟩
      rw [rounds_succ]
      refine wp_mono (h3 μ κ a w hr) fun e' a' w' ⟨he, ho⟩ => ?_
      subst he
      exact ⟨rfl, ho⟩

/-- What is asked of the summaries of loops. -/
def LoopsOk (E : Env) (base : World) : Prop :=
  ∀ f id T c s K, E.loopP f id = some T → T c s K → ∃ e s', K e s' ∧ CodeSem E base (.loop c) s e s'

theorem codeK_sound (hE : EnvOk E base) (hL : LoopsOk E base) {call : CallFn} (hcall : CallOk E base call) : ∀ (c : Code) (s : St) (K : Exit → St → Prop), codeOk E.P.globals.size c = true → codeK E call c s K → ∃ e s', K e s' ∧ CodeSem E base c s e s' := by
  intro c
  induction c with
  | skip => intro s K _ hk; exact ⟨.normal, s, hk, Sem1.refl s, fun μ κ a w hr => wp_skip ⟨rfl, StOut.refl hr⟩⟩
  | region id ops draw =>
    intro s K hok hk
    cases draw with
    | false =>
      obtain ⟨hto, hk⟩ := chk_true (b := toldAll E s.tmps (needs ops.toList ops.toList)) (p := opsK E call ops.toList ops.toList s fun s => K .normal s) hk
      obtain ⟨s', h1, h2, h3⟩ := opsK_sound hE hcall ops.toList ops.toList s (by simp only [codeOk, Bool.and_eq_true] at hok; exact hok.1) (toldAll_spec hto) hk
      refine ⟨.normal, s', h1, h2, fun μ κ a w hr => wp_region_list ?_⟩
      have := h3 μ κ a w hr (fun e' a' w' => e' = .normal ∧ StOut E base s s' μ κ w a' w') fun a' w' h => ⟨rfl, h⟩
      simpa using this
    | true =>
      simp only [codeOk, Bool.and_eq_true] at hok
      obtain ⟨hto, hk⟩ := chk_true (b := toldAll E s.tmps (needs ops.toList ops.toList)) (p := drawnK E call (E.wild s.fn id) ops.toList s fun s => K .normal s) hk
      obtain ⟨s', h1, h2, h3⟩ := drawnK_sound hE hcall hok.1 hok.2 (toldAll_spec hto) hk
      refine ⟨.normal, s', h1, h2, fun μ κ a w hr => ?_⟩
      have := h3 id μ κ a w hr (fun e' a' w' => e' = .normal ∧ StOut E base s s' μ κ w a' w') fun a' w' h => ⟨rfl, h⟩
      simpa using this
  | seq x y ihx ihy =>
    intro s K hok hk
    simp only [codeOk, Bool.and_eq_true] at hok
    rw [codeK_seq] at hk
    obtain ⟨e1, s1, h1, h2, h3⟩ := ihx s _ hok.1 hk
    cases e1 with
    | normal =>
      obtain ⟨e, s', k1, k2, k3⟩ := ihy s1 K hok.2 h1
      refine ⟨e, s', k1, h2.trans k2, fun μ κ a w hr => wp_seq (wp_mono (h3 μ κ a w hr) fun e' a' w' ⟨he, μ1, κ1, q1, q2⟩ => ?_)⟩
      subst he
      exact wp_mono (k3 μ1 κ1 a' w' q2) fun e' a'' w'' ⟨he, ho⟩ => ⟨he, StOut.trans q1 k2.mw ho⟩
    | _ =>
      refine ⟨_, s1, h1, h2, fun μ κ a w hr => wp_seq (wp_mono (h3 μ κ a w hr) fun e' a' w' ⟨he, ho⟩ => ?_)⟩
      subst he
      exact ⟨rfl, ho⟩
  | cond x y z ihy ihz =>
    intro s K hok hk
    simp only [codeOk, Bool.and_eq_true] at hok
    rw [codeK_cond] at hk
    obtain ⟨hto, hk⟩ := chk_true hk
    split at hk
    · rename_i t ht
      have hc : ∀ μ κ a w, StRel E base μ κ s a w → a.eval x = .bool t := fun μ κ a w hr => by rw [hr.eval hok.1 fun t e => toldAll_spec hto t (by rw [e]; simp [tmpsOf]), ht]; rfl
      cases t with
      | true =>
        obtain ⟨e, s', k1, k2, k3⟩ := ihy s K hok.2.1 hk
        exact ⟨e, s', k1, k2, fun μ κ a w hr => wp_cond_true (hc μ κ a w hr) (k3 μ κ a w hr)⟩
      | false =>
        obtain ⟨e, s', k1, k2, k3⟩ := ihz s K hok.2.2 hk
        exact ⟨e, s', k1, k2, fun μ κ a w hr => wp_cond_false (hc μ κ a w hr) (k3 μ κ a w hr)⟩
    · exact hk.elim
  | block id c ih =>
    intro s K hok hk
    rw [codeK_block] at hk
    obtain ⟨e1, s1, h1, h2, h3⟩ := ih s _ hok hk
    cases e1 with
    | exit i =>
      simp only at h1
      split at h1
      · rename_i hb
        have hb := beq_true hb
        subst hb
        refine ⟨.normal, s1, h1, h2, fun μ κ a w hr => wp_block (wp_mono (h3 μ κ a w hr) fun e' a' w' ⟨he, ho⟩ => ?_)⟩
        subst he
        simp only [Exit.inBlock, if_true]
        exact ⟨trivial, ho⟩
      · rename_i hb
        have hb := beq_false hb
        refine ⟨.exit i, s1, h1, h2, fun μ κ a w hr => wp_block (wp_mono (h3 μ κ a w hr) fun e' a' w' ⟨he, ho⟩ => ?_)⟩
        subst he
        simp only [Exit.inBlock, if_neg hb]
        exact ⟨trivial, ho⟩
    | _ =>
      refine ⟨_, s1, h1, h2, fun μ κ a w hr => wp_block (wp_mono (h3 μ κ a w hr) fun e' a' w' ⟨he, ho⟩ => ?_)⟩
      subst he
      exact ⟨rfl, ho⟩
  | loop c ih =>
    intro s K hok hk
    rw [codeK_loop] at hk
    split at hk
    · rename_i T hT
      exact hL _ _ T c s K hT hk
    · obtain ⟨e, s', h1, h2, h3⟩ := loopK_sound (base := base) (fun s K hk => ih s K hok hk) _ s K hk
      exact ⟨e, s', h1, h2, fun μ κ a w hr => wp_loop_rounds _ (h3 μ κ a w hr)⟩
  | exit id => intro s K _ hk; exact ⟨.exit id, s, hk, Sem1.refl s, fun μ κ a w hr => wp_exit ⟨rfl, StOut.refl hr⟩⟩
  | ret => intro s K _ hk; exact ⟨.ret, s, hk, Sem1.refl s, fun μ κ a w hr => wp_ret ⟨rfl, StOut.refl hr⟩⟩
  | _ => intro s K _ hk; exact hk.elim

/-! Results -/

def resM (a : Act) (r : ResultVar) : Sem Value := match r with
  | .tmp t => pure (a.tmps.getD t undef)
  | .cell ad t => do loadVar t (← asAddr (a.tmps.getD ad undef))

theorem resO_spec {s : St} {μ κ : Nat → Nat} {a : Act} {w : World} (hr : StRel E base μ κ s a w) {r : ResultVar} {v : Value} (hv : resO E s r = some v) : (resM a r).run E.P w = .ok (renV μ κ v) w := by
  cases r with
  | tmp t =>
    simp only [resO] at hv
    split at hv
    · rename_i hto
      simp only [Option.some.injEq] at hv
      subst hv
      simp only [resM, hr.tmp t (toldAll_spec hto t (List.mem_singleton.2 rfl)), Sem.run_pure]
    · cases hv
  | cell ad t =>
    simp only [resO] at hv
    split at hv
    case h_2 => cases hv
    rename_i hto
    split at hv
    · rename_i x hx
      simp only [resM, hr.tmp ad (toldAll_spec hto ad (List.mem_singleton.2 rfl)), hx, renV_pointer, Option.map_some, asAddr, Sem.run_bind, Sem.run_pure, Result.andThen_ok]
      exact loadO_spec hr.rel hv
    · cases hv

theorem allRes_spec {s : St} {μ κ : Nat → Nat} {a : Act} {w : World} (hr : StRel E base μ κ s a w) : ∀ (l : List ResultVar) (vs : List Value), allRes E s l = some vs →
    (l.mapM (resM a)).run E.P w = .ok (vs.map (renV μ κ)) w := by
  intro l
  induction l with
  | nil => intro vs h; simp only [allRes, Option.some.injEq] at h; subst h; simp
  | cons r l ih =>
    intro vs h
    unfold allRes at h
    split at h
    · rename_i v hv
      split at h
      · rename_i us hus
        cases h
        have h2 := ih us hus
        rw [List.mapM_cons]
        simp only [Sem.run_bind, resO_spec hr hv, Result.andThen_ok, h2, Sem.run_pure, List.map_cons]
      · cases h
    · cases h

theorem results_spec {s : St} {μ κ : Nat → Nat} {a : Act} {w : World} (hr : StRel E base μ κ s a w) {fn : Func} {v : Value} (h : resultsO E s fn.results.toList = some v) :
    (results fn a.tmps).run E.P w = .ok (renV μ κ v) w := by
  have key : ∀ vs, allRes E s fn.results.toList = some vs → (results fn a.tmps).run E.P w = .ok (if h : (vs.map (renV μ κ)).toArray.size = 1 then (vs.map (renV μ κ)).toArray[0] else .tuple (vs.map (renV μ κ)).toArray) w := by
    intro vs hv
    have := allRes_spec hr _ vs hv
    have e : results fn a.tmps = (fn.results.mapM (resM a) >>= fun vs => pure (if h : vs.size = 1 then vs[0] else .tuple vs)) := by
      unfold results
      congr 2
    rw [e, Array.mapM_eq_mapM_toList, map_eq_pure_bind]
    simp only [Sem.run_bind, this, Result.andThen_ok, Sem.run_pure]
  unfold resultsO at h
  cases hx : allRes E s fn.results.toList with
  | none => rw [hx] at h; cases h
  | some vs =>
    rw [hx] at h
    rw [key _ hx]
    match vs, h with
    | [], h => simp only [Option.some.injEq] at h; subst h; simp
    | [x], h => simp only [Option.some.injEq] at h; subst h; simp
    | x :: y :: l, h => simp only [Option.some.injEq] at h; subst h; simp

theorem allRes_wf {D : Nat → Prop} {s : St} (ht : TWF D s) : ∀ (l : List ResultVar) (vs : List Value), allRes E s l = some vs → ∀ v ∈ vs, WF D v := by
  intro l
  induction l with
  | nil => intro vs h; simp only [allRes, Option.some.injEq] at h; subst h; intro v hv; cases hv
  | cons r l ih =>
    intro vs h
    unfold allRes at h
    split at h
    · rename_i v hv
      split at h
      · rename_i us hus
        cases h
        intro u hu
        rcases List.mem_cons.1 hu with rfl | hu
        · unfold resO at hv
          cases r with
          | tmp t =>
            simp only at hv
            split at hv
            · simp only [Option.some.injEq] at hv; subst hv; exact ht.2 t
            · cases hv
          | cell ad t =>
            simp only at hv
            split at hv
            · split at hv
              · exact loadO_wf ht.1 hv
              · cases hv
            · cases hv
        · exact ih us hus u hu
      · cases h
    · cases h

theorem results_wf {D : Nat → Prop} {s : St} (ht : TWF D s) {l : List ResultVar} {v : Value} (h : resultsO E s l = some v) : WF D v := by
  unfold resultsO at h
  split at h
  · rename_i x hx
    cases h
    exact allRes_wf ht l _ hx _ (by simp)
  · rename_i vs _ hx
    cases h
    exact WF.tuple.2 fun u hu => allRes_wf ht l vs hx u (by simpa using hu)
  · cases h

/-! Functions -/

theorem getTmp_numbered (args : List Value) : ∀ (k t : Nat), getTmp (numbered k args) t = if k ≤ t then (args[t - k]?).getD undef else undef := by
  induction args with
  | nil => intro k t; simp [numbered, getTmp_nil]
  | cons v l ih =>
    intro k t
    simp only [numbered, getTmp_cons]
    split
    · rename_i hb
      have := beq_true hb
      subst this
      simp
    · rename_i hb
      have := beq_false hb
      rw [ih]
      by_cases h : k ≤ t
      · have e : t - k = (t - (k + 1)) + 1 := by omega
        rw [if_pos (by omega), if_pos h, e]
        simp
      · rw [if_neg (by omega), if_neg h]

theorem numbered_wf {D : Nat → Prop} {args : List Value} (h : ∀ x ∈ args, WF D x) (t : Nat) : WF D (getTmp (numbered 0 args) t) := by
  rw [getTmp_numbered]
  simp only [Nat.zero_le, if_true, Nat.sub_zero]
  cases hx : args[t]? with
  | none => exact WF.undef
  | some v => exact h v (List.mem_of_getElem? hx)

theorem start_rel {μ κ : Nat → Nat} {h : Heap} {n : Nat} {w : World} {args : List Value} {m mw f : Nat} (hr : Rel E.P base μ κ h w) (hh : HWF (· < n) h) (ha : ∀ x ∈ args, WF (· < n) x) (hg : E.P.globals.size ≤ n) (hm : args.length ≤ m) :
    StRel E base μ κ { tmps := numbered 0 args, heap := h, next := n, mw := mw, size := m, fn := f } { tmps := (args.map (renV μ κ)).toArray ++ Array.replicate (m - (args.map (renV μ κ)).toArray.size) undef, defers := [] } w := by
  refine ⟨hr, by simp; omega, fun t _ => ?_, rfl, fun d hd => (by cases hd), ⟨hh, numbered_wf ha⟩, hg⟩
  rw [getTmp_numbered]
  simp only [Nat.zero_le, if_true, Nat.sub_zero, Array.getD_eq_getD_getElem?, Array.getElem?_append, List.size_toArray, List.length_map]
  split
  · rename_i hlt
    simp [List.getElem?_eq_getElem hlt]
  · rename_i hge
    rw [List.getElem?_eq_none (by omega)]
    simp only [Option.getD_none, renV_undef]
    rw [Array.getElem?_replicate]
    split <;> rfl

theorem EnvOk.bodyOk (hE : EnvOk E base) {f : FuncId} {fn : Func} {c : Code} (hf : E.P.funcs[f]? = some fn) (hb : fn.body = some c) (h : bodyOk E f c = true) : codeOk E.P.globals.size c = true := by
  unfold Go.Pe.bodyOk at h
  split at h
  · rename_i hs; exact hE.sure f fn c hs hf hb
  · exact h

/-- What a call that was put off comes to. -/
theorem deferred_sound (hE : EnvOk E base) (hL : LoopsOk E base) {call : CallFn} (hcall : CallOk E base call) {f : FuncId} {fn : Func} (hf : E.P.funcs[f]? = some fn) {args : List Value} {h : Heap} {n : Nat} {K : St → Prop} (hk : deferredK E call f fn args h n K) :
    ∃ t, K t ∧ fn.body.isSome = true ∧ n ≤ t.next ∧ (∀ D : Nat → Prop, (∀ k, D k → k < n) → (∀ g, g < E.P.globals.size → D g) → (∀ x ∈ args, WF D x) → HWF D h → HWF (Dp D n t.next) t.heap) ∧
      ∀ μ κ w, Rel E.P base μ κ h w → HWF (· < n) h → (∀ x ∈ args, WF (· < n) x) → E.P.globals.size ≤ n → ∀ u : FrameMode, CallsD E.P f (args.map (renV μ κ)).toArray u w fun e u' w' => u' = u ∧ ∃ x, e = .returned x ∧ ∃ μ' κ', Step t.mw n t.next μ κ w μ' κ' w' ∧ Rel E.P base μ' κ' t.heap w' := by
  unfold deferredK at hk
  split at hk
  · exact hk.elim
  · rename_i c hb
    obtain ⟨hck, hk⟩ := chk_true hk
    simp only [Bool.and_eq_true] at hck
    have hm := ble_true hck.1
    obtain ⟨e, s', h1, h2, h3⟩ := codeK_sound hE hL hcall c _ _ (hE.bodyOk hf hb hck.2) hk
    have fin : (e = .normal ∨ e = .ret) → s'.df = [] → (∃ v, resultsO E s' fn.results.toList = some v) → K s' → ∃ t, K t ∧ fn.body.isSome = true ∧ n ≤ t.next ∧ (∀ D : Nat → Prop, (∀ k, D k → k < n) → (∀ g, g < E.P.globals.size → D g) → (∀ x ∈ args, WF D x) → HWF D h → HWF (Dp D n t.next) t.heap) ∧
      ∀ μ κ w, Rel E.P base μ κ h w → HWF (· < n) h → (∀ x ∈ args, WF (· < n) x) → E.P.globals.size ≤ n → ∀ u : FrameMode, CallsD E.P f (args.map (renV μ κ)).toArray u w fun e u' w' => u' = u ∧ ∃ x, e = .returned x ∧ ∃ μ' κ', Step t.mw n t.next μ κ w μ' κ' w' ∧ Rel E.P base μ' κ' t.heap w' := by
      intro he hdf ⟨v, hv⟩ hK
      refine ⟨s', hK, by simp [hb], h2.wf.1, fun D hD hG hx hh => (h2.wf.2 D hD hG ⟨hh, numbered_wf hx⟩).1, fun μ κ w hr hh hx hg u => ?_⟩
      refine callsD_of_wp hf hb (wp_mono (h3 μ κ _ w (start_rel hr hh hx hg hm)) fun e' a' w' ⟨hee, μ', κ', q1, q2⟩ => ?_)
      have hbody : a'.defers = [] ∧ ∃ u, (results fn a'.tmps).run E.P w' = .ok u w' ∧ (∃ x, Ending.returned u = .returned x ∧ ∃ μ' κ', Step s'.mw n s'.next μ κ w μ' κ' w' ∧ Rel E.P base μ' κ' s'.heap w') :=
        ⟨by rw [q2.df, hdf]; rfl, _, results_spec q2 hv, _, rfl, μ', κ', q1, q2.rel⟩
      subst hee
      rcases he with rfl | rfl <;> exact hbody
    cases e with
    | normal =>
      simp only at h1
      split at h1
      · rename_i hdf
        split at h1
        · rename_i v hv; exact fin (.inl rfl) hdf ⟨v, hv⟩ h1
        · exact h1.elim
      · exact h1.elim
    | ret =>
      simp only at h1
      split at h1
      · rename_i hdf
        split at h1
        · rename_i v hv; exact fin (.inr rfl) hdf ⟨v, hv⟩ h1
        · exact h1.elim
      · exact h1.elim
    | _ => exact h1.elim

/-- All that were put off. -/
theorem leavesK_sound (hE : EnvOk E base) (hL : LoopsOk E base) {call : CallFn} (hcall : CallOk E base call) {fn : Func} : ∀ (ds : List (FuncId × List Value)) (s : St) (K : St → Prop), s.df = [] → leavesK E call ds s K →
    ∃ s', K s' ∧ s'.df = [] ∧ s'.mw ≤ s.mw ∧ (∀ D : Nat → Prop, (∀ k, D k → k < s.next) → (∀ g, g < E.P.globals.size → D g) → TWF D s → DWF D ds → TWF (Dp D s.next s'.next) s') ∧ s.next ≤ s'.next ∧
      ∀ μ κ a w, StRel E base μ κ s a w → DWF (· < s.next) ds → ∀ R : Ending → World → Prop, (∀ w', StOut E base s s' μ κ w a w' → ∃ v, (results fn a.tmps).run E.P w' = .ok v w' ∧ R (.returned v) w') →
        Leaves E.P fn a.tmps R (ds.map (defOf μ κ)) .returning w := by
  intro ds
  induction ds with
  | nil =>
    intro s K hdf hk
    refine ⟨s, hk, hdf, Nat.le_refl _, fun D _ _ hT _ => ⟨hT.1.mono Dp_mono, fun t => (hT.2 t).mono Dp_mono⟩, Nat.le_refl _, fun μ κ a w hr _ R hR => ?_⟩
    exact hR w (StOut.refl hr)
  | cons d ds ih =>
    intro s K hdf hk
    rw [leavesK_cons] at hk
    split at hk
    · exact hk.elim
    · rename_i fd hfd
      obtain ⟨t, hk, hbs, hn, hwf, hsem⟩ := deferred_sound hE hL hcall hfd hk
      obtain ⟨s', h1, h2, h3, h4, h5, h6⟩ := ih _ K rfl hk
      refine ⟨s', h1, h2, Nat.le_trans h3 (Nat.min_le_left _ _), fun D hD hG hT hd => ?_, Nat.le_trans hn h5, fun μ κ a w hr hd R hR => ?_⟩
      · have hh := hwf D hD hG (fun x hx => hd d (List.mem_cons_self ..) x hx) hT.1
        have := h4 (Dp D s.next t.next) (fun j hj => hj.elim (fun hj => Nat.lt_of_lt_of_le (hD j hj) hn) (fun hj => hj.2)) (fun g hg => .inl (hG g hg)) ⟨hh, fun t => (hT.2 t).mono Dp_mono⟩ (fun d hm v hv => (hd d (List.mem_cons_of_mem _ hm) v hv).mono Dp_mono)
        have hm : ∀ j, Dp (Dp D s.next t.next) t.next s'.next j → Dp D s.next s'.next j := fun j hj => by
          have h5 : t.next ≤ s'.next := h5
          rcases hj with (hj | hj) | hj
          · exact .inl hj
          · exact .inr ⟨hj.1, by omega⟩
          · exact .inr ⟨by omega, hj.2⟩
        exact ⟨this.1.mono hm, fun t => (this.2 t).mono hm⟩
      · have hc := hsem μ κ w hr.rel hr.wf.1 (fun x hx => hd d (List.mem_cons_self ..) x hx) hr.gl .returning
        refine leaves_cons (by simp) (by
          show (callFunc d.1 (#[] ++ _)).run E.P w = _
          rw [Array.empty_append]
          exact hE.enter d.1 fd hfd hbs _ w) (hc.mono fun e u' w' ⟨hu, x, he, μ', κ', st, hrel⟩ => ?_)
        subst he hu
        show Leaves E.P fn a.tmps R (ds.map (defOf μ κ)) (settle .returning) w'
        have hds : DWF (· < s.next) ds := fun d hm => hd d (List.mem_cons_of_mem _ hm)
        rw [← defs_same hds fun k hk => st.ag k (.inl hk)]
        have hx := hwf (· < s.next) (fun _ h => h) (fun g hg => Nat.lt_of_lt_of_le hg hr.gl) (fun x hx => hd d (List.mem_cons_self ..) x hx) hr.wf.1
        have hm : ∀ k, Dp (· < s.next) s.next t.next k → k < t.next := fun k hk => by
          rcases hk with hk | hk
          · exact Nat.lt_of_lt_of_le hk hn
          · exact hk.2
        refine h6 μ' κ' a w' ⟨hrel, hr.sz, fun i hto => ?_, ?_, fun d hd => (by cases hd), ⟨hx.mono hm, fun i => (hr.wf.2 i).mono fun k hk => Nat.lt_of_lt_of_le hk hn⟩, Nat.le_trans hr.gl hn⟩ (hds.mono fun k hk => Nat.lt_of_lt_of_le hk hn) R fun w'' ho => hR w'' ?_
        · rw [hr.tmp i hto]
          exact (hr.wf.2 i _ _ _ _ fun k hk => st.ag k (.inl hk)).symm
        · rw [hr.df, hdf]; rfl
        · exact StOut.trans (s1 := { tmps := s.tmps, heap := t.heap, next := t.next, mw := min s.mw t.mw, size := s.size, fn := s.fn }) (st.mono (Nat.min_le_right _ _)) h3 ho

theorem body_sound (hE : EnvOk E base) (hL : LoopsOk E base) {call : CallFn} (hcall : CallOk E base call) {f : FuncId} {fn : Func} (hf : E.P.funcs[f]? = some fn) {args : List Value} {h : Heap} {n : Nat} {K : Value → St → Prop} (hk : bodyK E call f fn args h n K) :
    ∃ v s, K v s ∧ FuncSem E base f args h n v s.heap s.next s.mw := by
  unfold bodyK at hk
  split at hk
  · exact hk.elim
  · rename_i c hb
    obtain ⟨hck, hk⟩ := chk_true hk
    simp only [Bool.and_eq_true] at hck
    have hm := ble_true hck.1
    obtain ⟨e, s1, h1, h2, h3⟩ := codeK_sound hE hL hcall c _ _ (hE.bodyOk hf hb hck.2) hk
    have fin : (e = .normal ∨ e = .ret) → leavesK E call s1.df { tmps := s1.tmps, heap := s1.heap, next := s1.next, mw := s1.mw, size := s1.size, fn := s1.fn } (fun s => (match resultsO E s fn.results.toList with | some v => K v s | none => False)) →
        ∃ v s, K v s ∧ FuncSem E base f args h n v s.heap s.next s.mw := by
      intro he hk
      obtain ⟨s', k1, k2, k3, k4, k5, k6⟩ := leavesK_sound (fn := fn) hE hL hcall s1.df _ _ rfl hk
      split at k1
      · rename_i v hv
        refine ⟨v, s', k1, ⟨Nat.le_trans h2.wf.1 k5, fun D hD hG hx hh => ?_⟩, fun μ κ w hr hh hx hg => ?_⟩
        · have t1 := h2.wf.2 D hD hG ⟨hh, numbered_wf hx⟩
          have t2 := h2.dwf D hD hG ⟨hh, numbered_wf hx⟩ (fun d hd => by cases hd)
          have l1 : n ≤ s1.next := h2.wf.1
          have l2 : s1.next ≤ s'.next := k5
          have t3 := k4 (Dp D n s1.next) (fun j hj => hj.elim (fun hj => Nat.lt_of_lt_of_le (hD j hj) l1) (fun hj => hj.2)) (fun g hg => .inl (hG g hg)) t1 t2
          have hmm : ∀ j, Dp (Dp D n s1.next) s1.next s'.next j → Dp D n s'.next j := fun j hj => by
            rcases hj with (hj | hj) | hj
            · exact .inl hj
            · exact .inr ⟨hj.1, by omega⟩
            · exact .inr ⟨by omega, hj.2⟩
          exact ⟨(results_wf t3 hv).mono hmm, t3.1.mono hmm⟩
        · rw [hE.enter f fn hf (by simp [hb])]
          refine ⟨rfl, calls_of_wp_defers hf hb (wp_mono (h3 μ κ _ w (start_rel hr hh hx hg hm)) fun e' a' w' ⟨hee, μ', κ', q1, q2⟩ => ?_)⟩
          have hbody : Leaves E.P fn a'.tmps (fun e w'' => ∃ u, e = .returned u ∧ Out E base s'.heap v s'.mw n s'.next μ κ w u w'') a'.defers .returning w' := by
            rw [q2.df]
            have q3 : StRel E base μ' κ' { tmps := s1.tmps, heap := s1.heap, next := s1.next, mw := s1.mw, size := s1.size, fn := s1.fn } { a' with defers := [] } w' := ⟨q2.rel, q2.sz, q2.tmp, rfl, fun d hd => (by cases hd), q2.wf, q2.gl⟩
            refine k6 μ' κ' { a' with defers := [] } w' q3 q2.dw _ fun w'' ⟨μ2, κ2, r1, r2⟩ => ?_
            exact ⟨_, results_spec r2 hv, _, rfl, μ2, κ2, (q1.mono k3).trans r1, rfl, r2.rel⟩
          subst hee
          rcases he with rfl | rfl <;> exact hbody
      · exact k1.elim
    cases e with
    | normal => exact fin (.inl rfl) (by simp only [restK_eq] at h1; exact h1)
    | ret => exact fin (.inr rfl) (by simp only [restK_eq] at h1; exact h1)
    | _ => exact h1.elim

theorem FuncSem.keep {f : FuncId} {args : List Value} {h h' : Heap} {n n' mw : Nat} {v : Value} (hs : FuncSem E base f args h n v h' n' mw) : FuncSem E base f args h n v (keepBelow h' n) n' mw := by
  have hsub : ∀ k b, getBlk (keepBelow h' n) k = some b → getBlk h' k = some b := fun k b hb => by
    rw [getBlk_keep] at hb
    split at hb
    · exact hb
    · cases hb
  obtain ⟨⟨s0, s1⟩, s2⟩ := hs
  refine ⟨⟨s0, fun D hD hG hx hh => ⟨(s1 D hD hG hx hh).1, (s1 D hD hG hx hh).2.sub hsub⟩⟩, fun μ κ w hr hh hx hg => ?_⟩
  have hout := s2 μ κ w hr hh hx hg
  have key : ∀ u w', Out E base h' v mw n n' μ κ w u w' → Out E base (keepBelow h' n) v mw n n' μ κ w u w' := fun u w' ⟨μ', κ', a, b, c⟩ => ⟨μ', κ', a, b, c.fewer hsub⟩
  have key2 : ∀ u w', Out E base h' u mw n n' μ κ w Go.undef w' → Out E base (keepBelow h' n) u mw n n' μ κ w Go.undef w' := fun u w' ⟨μ', κ', a, b, c⟩ => ⟨μ', κ', a, b, c.fewer hsub⟩
  generalize (callFunc f (args.map (renV μ κ)).toArray).run E.P w = r at *
  cases r with
  | halt x w' => exact hout.elim
  | ok nx w' =>
    cases nx with
    | value u => exact key _ _ hout
    | skip =>
      obtain ⟨μ', κ', a, b, c⟩ := hout
      exact ⟨μ', κ', a, b, c.fewer hsub⟩
    | enter g as =>
      obtain ⟨rfl, hc⟩ := hout
      exact ⟨rfl, hc.mono fun e w'' ⟨u, he, hu⟩ => ⟨u, he, key _ _ hu⟩⟩
    | _ => exact hout.elim

/-- A function that hands out a slice whose cells are not known (its capacity neither). -/
theorem noZero_sound {f : FuncId} {e : TypeId} {m : Int} (_h0 : 0 ≤ m)
    (hz : ∀ w : World, ∃ (c : Array Value) (w1 : World), (callFunc f #[.int .i64 m]).run E.P w = .ok (.value (.slice (some ⟨w.heap.size, 0, none⟩) m.toNat c.size)) (w1.alloc (.cells c e)) ∧
      m.toNat ≤ c.size ∧ w1.heap = w.heap ∧ w1.os = w.os ∧ w1.tape = w.tape ∧ w1.output = w.output) (h : Heap) (n : Nat) :
    FuncSem E base f [.int .i64 m] h n (.slice (some ⟨n, 0, none⟩) m.toNat big) ((n, { cells := List.replicate m.toNat none, elem := e, own := true, room := 1, iter := none }) :: h) (n + 1) big := by
  have hno : ∀ v, some v ∈ (List.replicate m.toNat none : List (Option Value)) → False := fun v hv => by
    have := List.eq_of_mem_replicate hv
    cases this
  refine ⟨⟨by omega, fun D hD hG hx hh => ⟨WF.slc.2 (.inr ⟨Nat.le_refl n, Nat.lt_succ_self n⟩), (hh.mono Dp_mono).cons (.inr ⟨by omega, by omega⟩) fun v hv => (hno v hv).elim⟩⟩, fun μ κ w hr hh hx hg => ?_⟩
  obtain ⟨c, w1, q1, q2, q3, q4, q5, q6⟩ := hz w
  have hargs : ([Value.int .i64 m].map (renV μ κ)).toArray = #[.int .i64 m] := rfl
  rw [hargs, q1]
  have hr1 : Rel E.P base μ κ h w1 := by
    refine ⟨⟨q4.trans hr.below.os, q5.trans hr.below.tape, q6.trans hr.below.output, by rw [q3]; exact hr.below.size, fun k hk => by rw [q3]; exact hr.below.block k hk⟩, fun k b hb => (hr.blk k b hb).same rfl rfl (fun _ _ => rfl) (by rw [q3]), hr.inj, hr.glob, hr.gsz⟩
  have hst := Step.alloc big n μ κ w1 (.cells c e) c.size
  have hsize : w1.heap.size = w.heap.size := by rw [q3]
  refine ⟨upd μ n w1.heap.size, upd κ n c.size, ⟨hst.le, hst.ag, by rw [← hsize]; exact hst.sz, fun b hb hk => ?_, fun k k1 k2 => ?_⟩, ?_, hr1.alloc hh hg _ _ _ ?_⟩
  · rw [hst.fr b (by omega) hk, q3]
  · rw [← hsize]; exact hst.nw k k1 k2
  · simp only [renV_slice_some, renAd, upd_same, hsize]
    have hbb : Nat.ble big big = true := Nat.ble_eq_true_of_le (Nat.le_refl _)
    have : renCap (upd κ n c.size) n big = c.size := by simp [renCap, upd_same, hbb]
    rw [this]
  · refine ⟨c, e, (0, 0), by rw [upd_same]; show (w1.heap.push _)[w1.heap.size]? = _; rw [Array.getElem?_push_size], fun _ => ⟨rfl, by rw [upd_same]; exact hr1.below.size, rfl⟩, by simpa using q2, fun j v hj => ?_, fun _ => by simp [upd_same], fun hr => by simp at hr⟩
    exact (hno v (List.mem_of_getElem? hj)).elim

/-- A function that the model runs in place, and that touches nothing. -/
theorem FuncSem.ofValue {f : FuncId} {args : List Value} {v : Value} (hv : ∀ μ κ w, (callFunc f (args.map (renV μ κ)).toArray).run E.P w = .ok (.value (renV μ κ v)) w) (hw : ∀ D : Nat → Prop, (∀ x ∈ args, WF D x) → WF D v) (h : Heap) (n : Nat) :
    FuncSem E base f args h n v h n big := by
  refine ⟨⟨Nat.le_refl _, fun D _ _ hx hh => ⟨(hw D hx).mono Dp_mono, hh.mono Dp_mono⟩⟩, fun μ κ w hr _ _ _ => ?_⟩
  rw [hv μ κ w]
  exact Out.same hr

/-- A function that leaves nothing behind. -/
theorem FuncSem.ofCalls {f : FuncId} {args : List Value} {v : Value} {h : Heap} (hv : ∀ μ κ w, Rel E.P base μ κ h w → (callFunc f (args.map (renV μ κ)).toArray).run E.P w = .ok (.enter f (args.map (renV μ κ)).toArray) w ∧
      Calls E.P f (args.map (renV μ κ)).toArray w (fun e w' => e = .returned (renV μ κ v) ∧ Below w.heap.size w w')) (hw : ∀ D : Nat → Prop, (∀ x ∈ args, WF D x) → HWF D h → WF D v) (n : Nat) :
    FuncSem E base f args h n v h n big := by
  refine ⟨⟨Nat.le_refl _, fun D _ _ hx hh => ⟨(hw D hx hh).mono Dp_mono, hh.mono Dp_mono⟩⟩, fun μ κ w hr _ _ _ => ?_⟩
  obtain ⟨r1, r2⟩ := hv μ κ w hr
  rw [r1]
  exact ⟨rfl, r2.mono fun e w' ⟨he, hb⟩ => ⟨_, he, μ, κ, ⟨Nat.le_refl _, fun _ _ => ⟨rfl, rfl⟩, hb.size, fun b hlt _ => hb.block b hlt, fun _ h1 h2 => by omega⟩, rfl, hr.grow hb⟩⟩

theorem funcK_sound (hE : EnvOk E base) (hL : LoopsOk E base) : ∀ d, CallOk E base (funcK E d) := by
  intro d
  induction d with
  | zero => intro f args h n K hk; exact hk.elim
  | succ d ih =>
    intro f args h n K hk
    unfold funcK at hk
    split at hk
    · exact hk.elim
    · rename_i fn hf
      obtain ⟨v, s, h1, h2⟩ := body_sound hE hL ih hf hk
      rw [leaveK_eq] at h1
      split at h1
      · split at h1
        · exact ⟨_, _, _, _, h1, h2.keep⟩
        · exact ⟨_, _, _, _, h1, h2⟩
      · exact ⟨_, _, _, _, h1, h2⟩

end
end Go.Pe
