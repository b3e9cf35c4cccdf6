/-
  Equality of structs and arrays, part by part.
  From a contract ('Calls', nothing old touched) to a rule's word.
  Loops: a rule by an invariant and a number that falls.
  Loops: what a loop's states look like: some slots, some blocks; the rest is not told. Names from a place on may be moved.
-/
import Derived.Test.YthmogphlnjpakaaGreatDoorPeM1
import Derived.ChangeKeysEq

namespace Go.Pe
open Go Go.RowKit
def eqFs (E : Env) (q : TypeId → Value → Value → Option Bool) (xs ys : Array Value) : List Field → Option Bool
  | [] => some true
  | f :: fs => match decide (f.name = "_") with
    | true => none
    | false => match partO E f.type xs f.offset, partO E f.type ys f.offset with
      | some a, some b => match q f.type a b, eqFs E q xs ys fs with
        | some r, some s => some (r && s)
        | _, _ => none
      | _, _ => none
def eqIs (E : Env) (q : TypeId → Value → Value → Option Bool) (e : TypeId) (c : Nat) (xs ys : Array Value) : List Nat → Option Bool
  | [] => some true
  | i :: is => match partO E e xs (i * c), partO E e ys (i * c) with
    | some a, some b => match q e a b, eqIs E q e c xs ys is with
      | some r, some s => some (r && s)
      | _, _ => none
    | _, _ => none
def eqO (E : Env) : Nat → TypeId → Value → Value → Option Bool
  | 0, _, _, _ => none
  | d + 1, t, x, y => match und E t, x, y with
    | some .bool, .bool a, .bool b => some (a == b)
    | some (.int _), .int k a, .int k' b => (match decide (k = k') with | true => some (a == b) | false => none)
    | some .string, .string a, .string b => some (strEq a b)
    | some (.struct fs), .agg xs, .agg ys => (match E.P.stoodInHeld t with
      | true => none
      | false => eqFs E (eqO E d) xs ys fs.toList)
    | some (.array n e), .agg xs, .agg ys => (match E.P.info? e with
      | none => none
      | some _ => eqIs E (eqO E d) e (E.P.cellsOf e) xs ys (List.range n))
    | _, _, _ => none
theorem strEq_toList (a b : ByteArray) : strEq a b = (a.toList == b.toList) := by
  have key : ∀ x y : List UInt8, listEq x y = (x == y) := by
    intro x
    induction x with
    | nil => intro y; cases y <;> rfl
    | cons p x ih =>
      intro y
      cases y with
      | nil => rfl
      | cons q y =>
        unfold listEq
        rw [List.cons_beq_cons]
        split
        · rename_i h
          have : p = q := UInt8.toNat_inj.1 (Nat.eq_of_beq_eq_true h)
          subst this
          simp [ih y]
        · rename_i h
          have : ¬ p = q := fun e => Nat.ne_of_beq_eq_false h (by rw [e])
          simp [this]
  unfold strEq
  rw [key, ByteArray.toList_eq, ByteArray.toList_eq]
section
variable {E : Env} {μ κ : Nat → Nat} {w : World}
theorem eqFs_sound {c : Nat} {q : TypeId → Value → Value → Option Bool} (hq : ∀ t x y r, q t x y = some r → (Op.equalIn c t (renV μ κ x) (renV μ κ y)).run E.P w = .ok r w) {xs ys : Array Value} :
    ∀ (fs : List Field) (r : Bool), eqFs E q xs ys fs = some r → (Op.eqFields c (xs.map (renV μ κ)) (ys.map (renV μ κ)) fs).run E.P w = .ok r w
  | [], r, h => by
    simp only [eqFs, Option.some.injEq] at h
    subst h
    simp [Op.eqFields]
  | f :: fs, r, h => by
    unfold eqFs at h
    split at h
    · cases h
    · rename_i hn
      have hn := of_decide_eq_false hn
      split at h
      · rename_i a b ha hb
        split at h
        · rename_i p s hp hs
          cases h
          have ih := eqFs_sound hq fs s hs
          simp only [Op.eqFields, hn, ne_eq, not_false_eq_true, if_true, Sem.run_bind, partO_spec ha, partO_spec hb, hq _ _ _ _ hp, Result.andThen_ok]
          cases p
          · simp
          · simpa using ih
        · cases h
      · cases h
theorem eqIs_sound {c n : Nat} {e : TypeId} {q : TypeId → Value → Value → Option Bool} (hq : ∀ t x y r, q t x y = some r → (Op.equalIn c t (renV μ κ x) (renV μ κ y)).run E.P w = .ok r w) {xs ys : Array Value} :
    ∀ (is : List Nat) (r : Bool), eqIs E q e n xs ys is = some r → (Op.eqItems c e n (xs.map (renV μ κ)) (ys.map (renV μ κ)) is).run E.P w = .ok r w
  | [], r, h => by
    simp only [eqIs, Option.some.injEq] at h
    subst h
    simp [Op.eqItems]
  | i :: is, r, h => by
    unfold eqIs at h
    split at h
    · rename_i a b ha hb
      split at h
      · rename_i p s hp hs
        cases h
        have ih := eqIs_sound hq is s hs
        simp only [Op.eqItems, Sem.run_bind, partO_spec ha, partO_spec hb, hq _ _ _ _ hp, Result.andThen_ok]
        cases p
        · simp
        · simpa using ih
      · cases h
    · cases h
theorem eqO_sound (c : Nat) : ∀ (d : Nat) (t : TypeId) (x y : Value) (r : Bool), eqO E d t x y = some r → (Op.equalIn (c + d) t (renV μ κ x) (renV μ κ y)).run E.P w = .ok r w
  | 0, _, _, _, _, h => by simp [eqO] at h
  | d + 1, t, x, y, r, h => by
    unfold eqO at h
    split at h
    · rename_i a b hu
      cases h
      exact run_equalIn_bool w (c + d) t a b hu
    · rename_i q k a k' b hu
      split at h
      · rename_i hk
        obtain rfl := of_decide_eq_true hk
        cases h
        exact run_equalIn_int w (c + d) t k q a b hu
      · cases h
    · rename_i a b hu
      cases h
      rw [strEq_toList]
      exact run_equalIn_string w (c + d) t a b hu
    · rename_i fs xs ys hu
      split at h
      · cases h
      · rename_i hs
        have hf : E.P.fieldsOf t = fs := by
          unfold Program.fieldsOf
          rw [show E.P.underlying t = some (.struct fs) from hu]
        rw [renV_agg, renV_agg, show c + (d + 1) = (c + d) + 1 by omega, run_equalIn_agg w (c + d) t _ _ (by rw [hf]; exact hu) hs, hf]
        exact eqFs_sound (fun t x y r h => eqO_sound c d t x y r h) _ _ h
    · rename_i n e xs ys hu
      split at h
      · cases h
      · rename_i i hi
        rw [renV_agg, renV_agg, show c + (d + 1) = (c + d) + 1 by omega, run_equalIn_array w (c + d) _ _ hu hi]
        exact eqIs_sound (fun t x y r h => eqO_sound c d t x y r h) _ _ h
    · cases h
def eqA (E : Env) (ts : List TypeId) (t : TypeId) (a b : List Value) : Option Bool :=
  match ts.any (Nat.beq t) with
  | true => eqO E 10 t (.agg a.toArray) (.agg b.toArray)
  | false => none
theorem eqA_sound {ts : List TypeId} (hg : ∀ t ∈ ts, E.P.eqGuardType E.P.depth t = false) (t : TypeId) (a b : List Value) (r : Bool) (h : eqA E ts t a b = some r) (μ κ : Nat → Nat) (w : World) :
    (∀ op x y, (eqGuard op t x y (.agg (a.map (renV μ κ)).toArray) (.agg (b.map (renV μ κ)).toArray)).run E.P w = .ok () w) ∧
    (Op.equal t (.agg (a.map (renV μ κ)).toArray) (.agg (b.map (renV μ κ)).toArray)).run E.P w = .ok r w := by
  unfold eqA at h
  split at h
  · rename_i ht
    obtain ⟨t', hm, he⟩ := List.any_eq_true.1 ht
    obtain rfl := Nat.eq_of_beq_eq_true he
    refine ⟨fun op x y => run_eqGuard_agg w op t x y _ _ (hg t hm), ?_⟩
    have := eqO_sound (E := E) (μ := μ) (κ := κ) (w := w) 9990 10 t _ _ r h
    rw [renV_agg, renV_agg, List.map_toArray, List.map_toArray] at this
    exact this
  · cases h
end
end Go.Pe

namespace Go.Pe
open Go Go.RowKit
theorem FuncSem.ofContract {E : Env} {base : World} (hE : EnvOk E base) {f : FuncId} {fn : Func} (hf : E.P.funcs[f]? = some fn) (hb : fn.body.isSome = true) {args : List Value} (ha : ∀ x ∈ args, pureV 6 x = true) {v : Value} (hv : pureV 6 v = true)
    {h : Heap} {n : Nat} (H : ∀ w : World, Below base.heap.size base w → Calls E.P f args.toArray w fun e w' => e = .returned v ∧ Below w.heap.size w w') : FuncSem E base f args h n v h n big := by
  refine ⟨⟨Nat.le_refl _, fun D hD hG hx hh => ⟨WF.pure hv, hh.mono Dp_mono⟩⟩, fun μ κ w hr hh hx hg => ?_⟩
  have hargs : args.map (renV μ κ) = args := by
    have : args.map (renV μ κ) = args.map id := List.map_congr_left fun x hx => ren_pure _ _ 6 x (ha x hx)
    simpa using this
  rw [hargs, hE.enter f fn hf hb]
  refine ⟨rfl, (H w hr.below).mono fun e w' ⟨he, hbl⟩ => ⟨v, he, μ, κ, ⟨Nat.le_refl _, fun _ _ => ⟨rfl, rfl⟩, hbl.size, fun b hb _ => hbl.block b hb, fun _ h1 h2 => by omega⟩, (ren_pure _ _ 6 v hv).symm, hr.grow hbl⟩⟩
end Go.Pe

namespace Go.Pe
open Go Go.RowKit
structure StEq (E : Env) (s t : St) : Prop where
  tmp : ∀ k, getTmp t.tmps k = getTmp s.tmps k
  told : ∀ k, ToldE E t k ↔ ToldE E s k
  heap : t.heap = s.heap
  next : t.next = s.next
  size : t.size = s.size
  df : t.df = s.df
  mw : t.mw ≤ s.mw
section
variable {E : Env} {base : World}
theorem StEq.twf {s t : St} (h : StEq E s t) {D : Nat → Prop} : TWF D s ↔ TWF D t := by
  unfold TWF
  rw [h.heap]
  exact and_congr_right fun _ => ⟨fun x k => by rw [h.tmp]; exact x k, fun x k => by rw [← h.tmp]; exact x k⟩
theorem StEq.rel {s t : St} (h : StEq E s t) {μ κ : Nat → Nat} {a : Act} {w : World} : StRel E base μ κ s a w ↔ StRel E base μ κ t a w := by
  constructor
  · intro r
    exact ⟨by rw [h.heap]; exact r.rel, by rw [h.size]; exact r.sz, fun k hk => by rw [h.tmp]; exact r.tmp k ((h.told k).1 hk), by rw [h.df]; exact r.df, by rw [h.df, h.next]; exact r.dw, by rw [h.next]; exact h.twf.1 r.wf, by rw [h.next]; exact r.gl⟩
  · intro r
    exact ⟨by rw [← h.heap]; exact r.rel, by rw [← h.size]; exact r.sz, fun k hk => by rw [← h.tmp]; exact r.tmp k ((h.told k).2 hk), by rw [← h.df]; exact r.df, by rw [← h.df, ← h.next]; exact r.dw, by rw [← h.next]; exact h.twf.2 r.wf, by rw [← h.next]; exact r.gl⟩
theorem CodeSem.left {c : Code} {s t s1 : St} {e : Exit} (h : CodeSem E base c t e s1) (q : StEq E s t) : CodeSem E base c s e s1 := by
  obtain ⟨h1, h2⟩ := h
  refine ⟨⟨⟨by rw [← q.next]; exact h1.wf.1, fun D hD hG hT => by rw [← q.next]; exact h1.wf.2 D (by rw [q.next]; exact hD) hG (q.twf.1 hT)⟩, Nat.le_trans h1.mw q.mw, h1.size.trans q.size, fun D hD hG hT hd => by rw [← q.next]; exact h1.dwf D (by rw [q.next]; exact hD) hG (q.twf.1 hT) (by rw [q.df]; exact hd)⟩, fun μ κ a w hr => ?_⟩
  exact wp_mono (h2 μ κ a w (q.rel.1 hr)) fun e' a' w' ⟨he, μ', κ', st, r⟩ => ⟨he, μ', κ', by rw [← q.next]; exact st, r⟩
theorem CodeSem.env {E' : Env} (hP : E'.P = E.P) (hW : E'.weak = E.weak) {c : Code} {s s' : St} {e : Exit} (h : CodeSem E base c s e s') : CodeSem E' base c s e s' := by
  obtain ⟨h1, h2⟩ := h
  have hs : ∀ s, ∀ μ κ a w, StRel E' base μ κ s a w → StRel E base μ κ s a w := fun s μ κ a w r => ⟨by rw [← hP]; exact r.rel, r.sz, fun t ht => r.tmp t fun hw => ht (hW ▸ hw), r.df, r.dw, r.wf, by rw [← hP]; exact r.gl⟩
  have hs' : ∀ s, ∀ μ κ a w, StRel E base μ κ s a w → StRel E' base μ κ s a w := fun s μ κ a w r => ⟨by rw [hP]; exact r.rel, r.sz, fun t ht => r.tmp t fun hw => ht (hW.symm ▸ hw), r.df, r.dw, r.wf, by rw [hP]; exact r.gl⟩
  refine ⟨⟨⟨h1.wf.1, fun D hD hG hT => h1.wf.2 D hD (by rw [← hP]; exact hG) hT⟩, h1.mw, h1.size, fun D hD hG hT hd => h1.dwf D hD (by rw [← hP]; exact hG) hT hd⟩, fun μ κ a w hr => ?_⟩
  rw [hP]
  exact wp_mono (h2 μ κ a w (hs s μ κ a w hr)) fun e' a' w' ⟨he, μ', κ', st, r⟩ => ⟨he, μ', κ', st, hs' s' μ' κ' a' w' r⟩
theorem rounds_mono {P : Program} {c : Code} : ∀ (n : Nat) (a : Act) (w : World) (Q Q' : Exit → Act → World → Prop), (∀ e a w, Q e a w → Q' e a w) → Code.rounds P c Q n a w → Code.rounds P c Q' n a w := by
  intro n
  induction n with
  | zero => intro a w Q Q' _ h; exact h
  | succ n ih =>
    intro a w Q Q' hq h
    rw [rounds_succ] at h ⊢
    refine wp_mono h fun e a w he => ?_
    cases e with
    | normal => exact ih _ _ _ _ hq he
    | _ => exact hq _ _ _ he
end
def loopIn : Code → Nat → Option Code
  | .seq a b, id => match loopIn a id with | some c => some c | none => loopIn b id
  | .cond _ a b, id => match loopIn a id with | some c => some c | none => loopIn b id
  | .block _ c, id => loopIn c id
  | .loop c, id => match Nat.beq (firstId c) id with | true => some c | false => loopIn c id
  | _, _ => none
def loopOf (P : Program) (f id : Nat) : Code :=
  match P.funcs[f]? with
  | some fn => (match fn.body with
    | some c => (match loopIn c id with | some c => c | none => .skip)
    | none => .skip)
  | none => .skip
structure Is (d c : Code) : Prop where
  eq : c = d
end Go.Pe

namespace Go.Pe
open Go Go.RowKit
def zipT : List Nat → List Value → List (Nat × Value) → List (Nat × Value)
  | k :: ks, v :: vs, u => (k, v) :: zipT ks vs u
  | _, _, u => u
noncomputable def getAll (tm : List (Nat × Value)) : List Nat → List Value
  | [] => []
  | k :: ks => getTmp tm k :: getAll tm ks
noncomputable def toldL (tm : List (Nat × Value)) (l : List Nat) : Bool := l.all (told tm)
theorem getTmp_at (k : Nat) (v : Value) (tm : List (Nat × Value)) (j : Nat) : getTmp ((k, v) :: tm) j = if k = j then v else getTmp tm j := by
  rw [getTmp_cons]
  split
  · rename_i hb; rw [if_pos (beq_true hb)]
  · rename_i hb; rw [if_neg (beq_false hb)]
/-! ### Names moved -/
noncomputable def renN (ρ : Nat → Nat) (v : Value) : Value :=
  Value.rec (motive_1 := fun _ => Value) (motive_2 := fun _ => Array Value) (motive_3 := fun _ => List Value)
    (fun b => .bool b) (fun k n => .int k n) (fun k b => .float k b) (fun k a b => .complex k a b) (fun s => .string s)
    (fun a => .pointer (a.map (renAd ρ)))
    (fun a n c => .slice (a.map (renAd ρ)) n c)
    (fun r => .map r) (fun r => .chan r) (fun f _ _ a b => .func f a b) .nilFunc (fun t _ x => .iface t x) .nilIface (fun _ x => .agg x) (fun _ x => .tuple x)
    (fun _ l => ⟨l⟩) [] (fun _ _ x l => x :: l) v
section
variable (ρ : Nat → Nat)
theorem renN_list (l : List Value) : (Value.rec_2 (motive_1 := fun _ => Value) (motive_2 := fun _ => Array Value) (motive_3 := fun _ => List Value)
    (fun b => .bool b) (fun k n => .int k n) (fun k b => .float k b) (fun k a b => .complex k a b) (fun s => .string s)
    (fun a => .pointer (a.map (renAd ρ)))
    (fun a n c => .slice (a.map (renAd ρ)) n c)
    (fun r => .map r) (fun r => .chan r) (fun f _ _ a b => .func f a b) .nilFunc (fun t _ x => .iface t x) .nilIface (fun _ x => .agg x) (fun _ x => .tuple x)
    (fun _ l => ⟨l⟩) [] (fun _ _ x l => x :: l) l : List Value) = l.map (renN ρ) := by
  induction l with
  | nil => rfl
  | cons v l ih => simp only [List.map_cons, ← ih]; rfl
theorem renN_func (f : Fn) (a b : Array Value) : renN ρ (.func f a b) = .func f (a.map (renN ρ)) (b.map (renN ρ)) := by
  obtain ⟨la⟩ := a
  obtain ⟨lb⟩ := b
  rw [List.map_toArray, List.map_toArray, ← renN_list ρ la, ← renN_list ρ lb]
  rfl
theorem renN_agg (cs : Array Value) : renN ρ (.agg cs) = .agg (cs.map (renN ρ)) := by
  obtain ⟨l⟩ := cs
  show Value.agg ⟨_⟩ = _
  rw [List.map_toArray]
  congr 2
  exact renN_list ρ l
theorem renN_tuple (cs : Array Value) : renN ρ (.tuple cs) = .tuple (cs.map (renN ρ)) := by
  obtain ⟨l⟩ := cs
  show Value.tuple ⟨_⟩ = _
  rw [List.map_toArray]
  congr 2
  exact renN_list ρ l
end
structure As (p : Nat → Bool) (ρ : Nat → Nat) (v v' : Value) : Prop where
  ren : ∀ μ κ μ2 κ2 : Nat → Nat, (∀ k, p k = true → μ2 k = μ (ρ k) ∧ κ2 k = κ (ρ k)) → renV μ κ v' = renV μ2 κ2 v
  wf : ∀ D D' : Nat → Prop, (∀ k, p k = true → D (ρ k) → D' k) → WF D v' → WF D' v
theorem as_pure {p : Nat → Bool} {ρ : Nat → Nat} {d : Nat} {v : Value} (h : pureV d v = true) : As p ρ v v :=
  ⟨fun μ κ μ2 κ2 _ => by rw [ren_pure μ κ d v h, ren_pure μ2 κ2 d v h], fun _ _ _ _ => WF.pure h⟩
theorem as_ok {p : Nat → Bool} {ρ : Nat → Nat} : ∀ (d : Nat) (v : Value), okV p d v = true → As p ρ v (renN ρ v) := by
  intro d
  induction d with
  | zero => intro v h; simp [okV] at h
  | succ d ih =>
    intro v h
    have hl : ∀ (cs : Array Value), cs.toList.all (okV p d) = true → ∀ x ∈ cs.toList, As p ρ x (renN ρ x) := fun cs hc x hx => ih x (List.all_eq_true.1 hc x hx)
    have hm : ∀ (cs : Array Value), cs.toList.all (okV p d) = true → ∀ μ κ μ2 κ2 : Nat → Nat, (∀ k, p k = true → μ2 k = μ (ρ k) ∧ κ2 k = κ (ρ k)) → (cs.map (renN ρ)).map (renV μ κ) = cs.map (renV μ2 κ2) := fun cs hc μ κ μ2 κ2 hk => by
      apply Array.ext'
      rw [Array.toList_map, Array.toList_map, Array.toList_map, List.map_map]
      exact List.map_congr_left fun x hx => (hl cs hc x hx).ren μ κ μ2 κ2 hk
    have hw : ∀ (cs : Array Value), cs.toList.all (okV p d) = true → ∀ D D' : Nat → Prop, (∀ k, p k = true → D (ρ k) → D' k) → (∀ v ∈ (cs.map (renN ρ)).toList, WF D v) → ∀ v ∈ cs.toList, WF D' v := fun cs hc D D' hk hD v hv => by
      refine (hl cs hc v hv).wf D D' hk (hD _ ?_)
      rw [Array.toList_map]
      exact List.mem_map_of_mem hv
    cases v with
    | iface t v =>
      simp only [okV] at h
      have q := ih v h
      exact ⟨fun μ κ μ2 κ2 hk => congrArg (Value.iface t) (q.ren μ κ μ2 κ2 hk), fun D D' hk hD => WF.iface.2 (q.wf D D' hk (WF.iface.1 hD))⟩
    | agg cs =>
      simp only [okV] at h
      rw [renN_agg]
      exact ⟨fun μ κ μ2 κ2 hk => by rw [renV_agg, renV_agg, hm cs h μ κ μ2 κ2 hk], fun D D' hk hD => WF.agg.2 (hw cs h D D' hk (WF.agg.1 hD))⟩
    | tuple cs =>
      simp only [okV] at h
      rw [renN_tuple]
      exact ⟨fun μ κ μ2 κ2 hk => by rw [renV_tuple, renV_tuple, hm cs h μ κ μ2 κ2 hk], fun D D' hk hD => WF.tuple.2 (hw cs h D D' hk (WF.tuple.1 hD))⟩
    | pointer a => cases a with
      | none => exact ⟨fun _ _ _ _ _ => rfl, fun _ _ _ _ => WF.ptrNone⟩
      | some a =>
        simp only [okV] at h
        refine ⟨fun μ κ μ2 κ2 hk => ?_, fun D D' hk hD => WF.ptr.2 (hk _ h (WF.ptr.1 hD))⟩
        show Value.pointer (some _) = Value.pointer (some _)
        simp only [renAd, (hk _ h).1]
    | slice a n c => cases a with
      | none => exact ⟨fun _ _ _ _ _ => rfl, fun _ _ _ _ => WF.sliceNone _ _⟩
      | some a =>
        simp only [okV] at h
        refine ⟨fun μ κ μ2 κ2 hk => ?_, fun D D' hk hD => WF.slc.2 (hk _ h (WF.slc.1 hD))⟩
        show Value.slice (some (renAd μ (renAd ρ a))) n (renCap κ (renAd ρ a).block c) = Value.slice (some (renAd μ2 a)) n (renCap κ2 a.block c)
        simp only [renAd, renCap, (hk _ h).1, (hk _ h).2]
    | map r => exact ⟨fun _ _ _ _ _ => rfl, fun _ _ _ _ _ _ _ _ _ => rfl⟩
    | bool b => exact ⟨fun _ _ _ _ _ => rfl, fun _ _ _ _ => WF.bool _⟩
    | int k n => exact ⟨fun _ _ _ _ _ => rfl, fun _ _ _ _ => WF.int _ _⟩
    | string s => exact ⟨fun _ _ _ _ _ => rfl, fun _ _ _ _ => WF.string _⟩
    | nilIface => exact ⟨fun _ _ _ _ _ => rfl, fun _ _ _ _ => WF.nilI⟩
    | nilFunc => exact ⟨fun _ _ _ _ _ => rfl, fun _ _ _ _ _ _ _ _ _ => rfl⟩
    | func f a b =>
      simp only [okV, Bool.and_eq_true] at h
      rw [renN_func]
      exact ⟨fun μ κ μ2 κ2 hk => by rw [renV_func, renV_func, hm a h.1 μ κ μ2 κ2 hk, hm b h.2 μ κ μ2 κ2 hk], fun D D' hk hD => WF.func.2 ⟨hw a h.1 D D' hk (WF.func.1 hD).1, hw b h.2 D D' hk (WF.func.1 hD).2⟩⟩
    | float k b => exact ⟨fun _ _ _ _ _ => rfl, fun _ _ _ _ _ _ _ _ _ => rfl⟩
    | complex k a b => exact ⟨fun _ _ _ _ _ => rfl, fun _ _ _ _ _ _ _ _ _ => rfl⟩
    | chan r => simp [okV] at h
def LAs (p : Nat → Bool) (ρ : Nat → Nat) : List Value → List Value → Prop
  | [], [] => True
  | v :: l, v' :: l' => As p ρ v v' ∧ LAs p ρ l l'
  | _, _ => False
structure BAs (p : Nat → Bool) (ρ : Nat → Nat) (b b' : Blk) : Prop where
  own : b'.own = b.own
  elem : b'.elem = b.elem
  room : b'.room = b.room
  iter : b'.iter = b.iter
  len : b'.cells.length = b.cells.length
  cells : ∀ (j : Nat) v, b.cells[j]? = some (some v) → ∃ v', b'.cells[j]? = some (some v') ∧ As p ρ v v'
def HIn (p : Nat → Bool) (ρ : Nat → Nat) : Heap → Heap → Prop
  | [], _ => True
  | x :: l, h => (p x.1 = true ∧ ∃ b', getBlk h (ρ x.1) = some b' ∧ BAs p ρ x.2 b') ∧ HIn p ρ l h
theorem HIn.get {p : Nat → Bool} {ρ : Nat → Nat} : ∀ {l h : Heap}, HIn p ρ l h → ∀ k b, getBlk l k = some b → p k = true ∧ ∃ b', getBlk h (ρ k) = some b' ∧ BAs p ρ b b' := by
  intro l
  induction l with
  | nil => intro h _ k b hb; simp [getBlk] at hb
  | cons x l ih =>
    obtain ⟨j, c⟩ := x
    intro h hI k b hb
    rw [getBlk_cons] at hb
    split at hb
    · rename_i e; subst e; cases hb; exact hI.1
    · exact ih hI.2 k b hb
theorem blt_false {a b : Nat} (h : Nat.blt a b = false) : ¬ a < b := fun hl => by
  have : Nat.blt a b = true := by simpa [Nat.blt_eq] using hl
  rw [h] at this
  cases this
def rhoOf (lo : Nat) (r : List (Option Nat)) (k : Nat) : Nat := match Nat.blt k lo with
  | true => k
  | false => match nth r (k - lo) with
    | some (some j) => j
    | _ => k
def okName (lo next : Nat) (r : List (Option Nat)) (k : Nat) : Bool := match Nat.blt k lo with
  | true => Nat.blt k next
  | false => match nth r (k - lo) with
    | some (some _) => true
    | _ => false
def distinct : List Nat → Bool
  | [] => true
  | x :: l => match l.any (Nat.beq x) with | true => false | false => distinct l
structure LoopS (α : Type) where
  fn : FuncId
  keys : List Nat
  kv : α → List Value
  hp : α → Heap
  lo : Nat
  nx : Nat
  mw : Nat
  size : Nat
def LoopS.st {α : Type} (L : LoopS α) (a : α) : St := { tmps := zipT L.keys (L.kv a) [], heap := L.hp a, next := L.nx, mw := L.mw, size := L.size, fn := L.fn, df := [] }
def LoopS.rOk {α : Type} (L : LoopS α) (a : α) (r : List (Option Nat)) (next : Nat) : Bool :=
  Nat.ble (L.lo + r.length) L.nx && (r.all (fun x => match x with | some j => Nat.ble L.mw j && Nat.blt j next | none => true) && distinct ((L.hp a).map fun x => rhoOf L.lo r x.1))
def LoopS.At {α : Type} (L : LoopS α) (a : α) (t : Bool) (l : List Value) (h : Heap) (nx mw size : Nat) (fn : FuncId) (df : List (FuncId × List Value)) : Prop :=
  ∃ r, LAs (okName L.lo nx r) (rhoOf L.lo r) (L.kv a) l ∧ HIn (okName L.lo nx r) (rhoOf L.lo r) (L.hp a) h ∧ L.rOk a r nx = true ∧ t = true ∧ L.mw ≤ mw ∧ size = L.size ∧ fn = L.fn ∧ df = []
noncomputable def LoopS.look {α : Type} (L : LoopS α) (P : Exit → Bool → List Value → Heap → Nat → Nat → Nat → FuncId → List (FuncId × List Value) → Prop) : Exit → St → Prop :=
  fun e s => P e (toldL s.tmps L.keys) (getAll s.tmps L.keys) s.heap s.next s.mw s.size s.fn s.df
def LoopS.To {α : Type} (L : LoopS α) (I : Nat → α → Prop) (O R : α → Prop) (i : Nat) (n : Nat) (e : Exit) (t : Bool) (l : List Value) (h : Heap) (nx mw size : Nat) (fn : FuncId) (df : List (FuncId × List Value)) : Prop :=
  match e with
  | .normal => ∃ m a, m < n ∧ I m a ∧ L.At a t l h nx mw size fn df
  | .exit j => j = i ∧ ∃ a, O a ∧ L.At a t l h nx mw size fn df
  | .ret => ∃ a, R a ∧ L.At a t l h nx mw size fn df
  | _ => False
structure Hush (p : Prop) : Prop where
  out : p
structure Rounds {α : Type} (E : Env) (d : Nat) (c : Code) (L : LoopS α) (I : Nat → α → Prop) (O R : α → Prop) (i : Nat) : Prop where
  go : ∀ n a, I n a → Hush (codeK E (funcK E d) c (L.st a) (L.look (L.To I O R i n)))
def LoopS.okS {α : Type} (L : LoopS α) (g : Nat) : Bool := Nat.ble g L.lo && (Nat.ble L.lo L.nx && Nat.ble L.mw L.lo)
def loopT {α : Type} (c0 : Code) (L : LoopS α) (I : Nat → α → Prop) (O : α → Prop) (i : Nat) : Code → St → (Exit → St → Prop) → Prop := fun c s K =>
  Is c0 c ∧ ∃ n a, (I n a ∧ Nat.ble s.next L.lo = true ∧ L.At a (toldL s.tmps L.keys) (getAll s.tmps L.keys) s.heap s.next s.mw s.size s.fn s.df) ∧ ∀ a', O a' → K (.exit i) (L.st a')
def loopR {α : Type} (c0 : Code) (L : LoopS α) (I : Nat → α → Prop) (O R : α → Prop) (i : Nat) : Code → St → (Exit → St → Prop) → Prop := fun c s K =>
  Is c0 c ∧ ∃ n a, (I n a ∧ Nat.ble s.next L.lo = true ∧ L.At a (toldL s.tmps L.keys) (getAll s.tmps L.keys) s.heap s.next s.mw s.size s.fn s.df) ∧ (∀ a', O a' → K (.exit i) (L.st a')) ∧ ∀ a', R a' → K .ret (L.st a')
/-! ### Steps of rounds -/
structure LStep (mw lo nx : Nat) (μ κ : Nat → Nat) (w : World) (μ' κ' : Nat → Nat) (w' : World) : Prop where
  ag : ∀ k, (k < lo ∨ nx ≤ k) → μ' k = μ k ∧ κ' k = κ k
  sz : w.heap.size ≤ w'.heap.size
  fr : ∀ b, b < w.heap.size → (∀ k, mw ≤ k → k < nx → μ k ≠ b) → w'.heap[b]? = w.heap[b]?
  nw : ∀ k, lo ≤ k → k < nx → w.heap.size ≤ μ' k ∨ ∃ j, mw ≤ j ∧ j < nx ∧ μ' k = μ j
theorem LStep.trans {mw lo nx : Nat} {μ κ μ1 κ1 μ2 κ2 : Nat → Nat} {w w1 w2 : World} (h : LStep mw lo nx μ κ w μ1 κ1 w1) (k : LStep mw lo nx μ1 κ1 w1 μ2 κ2 w2) : LStep mw lo nx μ κ w μ2 κ2 w2 := by
  refine ⟨fun j hj => ⟨(k.ag j hj).1.trans (h.ag j hj).1, (k.ag j hj).2.trans (h.ag j hj).2⟩, Nat.le_trans h.sz k.sz, fun b hb hh => ?_, fun j h1 h2 => ?_⟩
  · rw [k.fr b (Nat.lt_of_lt_of_le hb h.sz) fun j h1 h2 => ?_, h.fr b hb hh]
    by_cases hj : j < lo
    · rw [(h.ag j (.inl hj)).1]; exact hh j h1 h2
    · rcases h.nw j (by omega) h2 with hx | ⟨i, i1, i2, i3⟩
      · omega
      · rw [i3]; exact hh i i1 i2
  · rcases k.nw j h1 h2 with hx | ⟨i, i1, i2, i3⟩
    · exact .inl (Nat.le_trans h.sz hx)
    · by_cases hi : i < lo
      · exact .inr ⟨i, i1, i2, by rw [i3, (h.ag i (.inl hi)).1]⟩
      · rcases h.nw i (by omega) i2 with hx | ⟨m, m1, m2, m3⟩
        · exact .inl (by rw [i3]; exact hx)
        · exact .inr ⟨m, m1, m2, by rw [i3, m3]⟩
def moved (f : Nat → Nat) (z : Nat) (lo next nx : Nat) (r : List (Option Nat)) (g : Nat → Nat) (k : Nat) : Nat :=
  if k < lo then (if k < next then f k else z) else if k < nx then (match nth r (k - lo) with | some (some j) => f j | _ => z) else g k
theorem moved_ok {f g : Nat → Nat} {z lo next nx : Nat} {r : List (Option Nat)} (hr : lo + r.length ≤ nx) {k : Nat} (hk : okName lo next r k = true) : moved f z lo next nx r g k = f (rhoOf lo r k) := by
  unfold okName at hk
  unfold rhoOf moved
  split at hk
  · rename_i hb
    have hb' : k < lo := by simpa [Nat.blt_eq] using hb
    have hk' : k < next := by simpa [Nat.blt_eq] using hk
    simp only [hb', hk', if_true]
  · rename_i hb
    have hb' : ¬ k < lo := blt_false hb
    split at hk
    · rename_i j hj
      have hlt : k - lo < r.length := by
        rw [nth_eq] at hj
        exact (List.getElem?_eq_some_iff.1 hj).1
      have : k < nx := by omega
      simp only [hb', this, if_true, if_false]
    · cases hk
theorem nth_mem {α : Type} {l : List α} {n : Nat} {x : α} (h : nth l n = some x) : x ∈ l := by
  rw [nth_eq] at h
  exact List.mem_of_getElem? h
section
variable {E : Env} {base : World} {α : Type}
theorem zip_get {p : Nat → Bool} {ρ : Nat → Nat} (tm : List (Nat × Value)) : ∀ (ks : List Nat) (vs : List Value), LAs p ρ vs (getAll tm ks) → ∀ t,
    told (zipT ks vs []) t = true ∧ t ∈ ks ∧ As p ρ (getTmp (zipT ks vs []) t) (getTmp tm t) ∨ told (zipT ks vs []) t = false ∧ getTmp (zipT ks vs []) t = undef := by
  intro ks
  induction ks with
  | nil =>
    intro vs _ t
    exact .inr ⟨by cases vs <;> rfl, by cases vs <;> rfl⟩
  | cons k ks ih =>
    intro vs h t
    cases vs with
    | nil => exact h.elim
    | cons v vs =>
      simp only [getAll, LAs] at h
      simp only [zipT, getTmp_at, told_cons]
      by_cases e : k = t
      · subst e
        left
        have hb : Nat.beq k k = true := Nat.beq_refl k
        simp only [hb, if_true, List.mem_cons, true_or, true_and]
        exact h.1
      · have hb : Nat.beq k t = false := by
          cases hx : Nat.beq k t
          · rfl
          · exact absurd (beq_true hx) e
        rw [if_neg e]
        simp only [hb]
        rcases ih vs h.2 t with ⟨a, b, c⟩ | h'
        · exact .inl ⟨a, List.mem_cons_of_mem _ b, c⟩
        · exact .inr h'
theorem distinct_inj {f : Nat → Nat} : ∀ {h : Heap}, distinct (h.map fun x => f x.1) = true → ∀ i j a b, getBlk h i = some a → getBlk h j = some b → f i = f j → i = j := by
  intro h
  induction h with
  | nil => intro _ i j a b ha; simp [getBlk] at ha
  | cons x h ih =>
    obtain ⟨k, c⟩ := x
    intro hd i j a b ha hb e
    simp only [List.map_cons, distinct] at hd
    split at hd
    · cases hd
    · rename_i hn
      have hnot : ∀ m d, getBlk h m = some d → f k ≠ f m := fun m d hm e => by
        have : (h.map fun x => f x.1).any (Nat.beq (f k)) = true := by
          rw [List.any_eq_true]
          exact ⟨f m, List.mem_map.2 ⟨(m, d), by
            clear hd hn ih ha hb
            induction h with
            | nil => simp [getBlk] at hm
            | cons y h ih2 =>
              obtain ⟨q, z⟩ := y
              rw [getBlk_cons] at hm
              split at hm
              · rename_i eq; subst eq; cases hm; exact List.mem_cons_self ..
              · exact List.mem_cons_of_mem _ (ih2 hm), rfl⟩, by rw [e]; exact Nat.beq_refl _⟩
        rw [this] at hn
        cases hn
      rw [getBlk_cons] at ha hb
      split at ha
      · rename_i e1
        split at hb
        · rename_i e2; exact e1.symm.trans e2
        · subst e1; exact absurd e (hnot j b hb)
      · split at hb
        · rename_i e2; subst e2; exact absurd e.symm (hnot i a ha)
        · exact ih hd i j a b ha hb e
theorem BAs.ok {p : Nat → Bool} {ρ : Nat → Nat} {b b' : Blk} (h : BAs p ρ b b') {μ κ μ2 κ2 : Nat → Nat} (hk : ∀ k, p k = true → μ2 k = μ (ρ k) ∧ κ2 k = κ (ρ k)) {k : Nat} (hp : p k = true) {w : World} (hb : BlkOk base μ κ (ρ k) b' w) : BlkOk base μ2 κ2 k b w := by
  obtain ⟨e1, e2⟩ := hk k hp
  unfold BlkOk at *
  rw [h.iter] at hb
  rw [e1]
  split
  · rename_i hi; simpa [hi] using hb
  · rename_i hi
    simp only [hi] at hb
    obtain ⟨c, e, fr, h1, h2, h3, h4, h5, h6⟩ := hb
    refine ⟨c, e, fr, h1, by rw [h.own, h.elem] at h2; exact h2, by rw [← h.len]; exact h3, fun j v hj => ?_, by rw [e2, ← h.room]; exact h5, by rw [← h.room, ← h.own, ← h.len]; exact h6⟩
    obtain ⟨v', hv', hA⟩ := h.cells j v hj
    rw [← hA.ren μ κ μ2 κ2 hk]
    exact h4 j v' hv'
theorem LoopS.At.rel {L : LoopS α} (hw : E.weak = true) (hS : L.okS E.P.globals.size = true) {a : α} {s : St} (h : L.At a (toldL s.tmps L.keys) (getAll s.tmps L.keys) s.heap s.next s.mw s.size s.fn s.df)
    {μ κ μo κo : Nat → Nat} {act : Act} {w : World} (hr : StRel E base μ κ s act w) {z : Nat} :
    ∃ r, L.rOk a r s.next = true ∧ StRel E base (moved μ z L.lo s.next L.nx r μo) (moved κ z L.lo s.next L.nx r κo) (L.st a) act w := by
  obtain ⟨r, h1, h2, h3, h4, h5, h6, h7, h8⟩ := h
  refine ⟨r, h3, ?_⟩
  have hr0 := h3
  simp only [LoopS.rOk, Bool.and_eq_true, List.all_eq_true] at h3
  obtain ⟨r1, r2, r3⟩ := h3
  have r1 := ble_true r1
  simp only [LoopS.okS, Bool.and_eq_true] at hS
  obtain ⟨g1, g2, g3⟩ := hS
  have g1 := ble_true g1
  have g2 := ble_true g2
  have hk : ∀ k, okName L.lo s.next r k = true → moved μ z L.lo s.next L.nx r μo k = μ (rhoOf L.lo r k) ∧ moved κ z L.lo s.next L.nx r κo k = κ (rhoOf L.lo r k) := fun k hk => ⟨moved_ok r1 hk, moved_ok r1 hk⟩
  have hlt : ∀ k, okName L.lo s.next r k = true → (· < s.next) (rhoOf L.lo r k) → (· < L.nx) k := fun k hk _ => by
    unfold okName at hk
    split at hk
    · rename_i hb
      have : k < L.lo := by simpa [Nat.blt_eq] using hb
      show k < L.nx
      omega
    · rename_i hb
      split at hk
      · rename_i j hj
        rw [nth_eq] at hj
        have := (List.getElem?_eq_some_iff.1 hj).1
        show k < L.nx
        omega
      · cases hk
  refine ⟨⟨hr.rel.below, fun k b hb => ?_, fun i j x y hx hy e => ?_, fun g hg => ?_, hr.rel.gsz⟩, hr.sz.trans h6, fun t ht => ?_, by rw [hr.df, h8]; rfl, fun d hd => (by cases hd), ⟨fun k b hb => ?_, fun t => ?_⟩, by show _ ≤ L.nx; omega⟩
  · obtain ⟨hp, b', hb', hB⟩ := h2.get k b hb
    exact hB.ok hk hp (hr.rel.blk _ _ hb')
  · obtain ⟨hp, b', hb', hB⟩ := h2.get i x hx
    obtain ⟨hq, c', hc', hC⟩ := h2.get j y hy
    rw [(hk i hp).1, (hk j hq).1] at e
    exact distinct_inj r3 i j x y hx hy (hr.rel.inj _ _ _ _ hb' hc' e)
  · have : g < L.lo := by omega
    have hgn : g < s.next := Nat.lt_of_lt_of_le hg hr.gl
    unfold moved
    rw [if_pos this, if_pos hgn]
    exact hr.rel.glob g hg
  · have ht := ht hw
    rcases zip_get s.tmps L.keys (L.kv a) h1 t with ⟨_, hm, hA⟩ | ⟨hn, _⟩
    · have htold : told s.tmps t = true := by
        have := h4
        unfold toldL at this
        exact List.all_eq_true.1 this t hm
      rw [hr.tmp t fun _ => htold]
      exact hA.ren _ _ _ _ hk
    · exact absurd (hn.symm.trans ht) (by simp)
  · obtain ⟨hp, b', hb', hB⟩ := h2.get k b hb
    have hk' := hr.wf.1 _ _ hb'
    refine ⟨hlt k hp hk'.1, fun v hv => ?_⟩
    obtain ⟨j, hj⟩ := List.getElem?_of_mem hv
    obtain ⟨v', hv', hA⟩ := hB.cells j v hj
    exact hA.wf _ _ hlt (hk'.2 v' (List.mem_of_getElem? hv'))
  · rcases zip_get s.tmps L.keys (L.kv a) h1 t with ⟨_, _, hA⟩ | ⟨_, hu⟩
    · exact hA.wf _ _ hlt (hr.wf.2 t)
    · show WF _ (getTmp (zipT L.keys (L.kv a) []) t)
      rw [hu]; exact WF.undef
theorem LoopS.At.twf {L : LoopS α} {a : α} {s : St} (h : L.At a (toldL s.tmps L.keys) (getAll s.tmps L.keys) s.heap s.next s.mw s.size s.fn s.df) {D D' : Nat → Prop}
    (h1 : ∀ k, k < L.lo → k < s.next → D k → D' k) (h2 : ∀ k, L.lo ≤ k → k < L.nx → D' k) (hT : TWF D s) : TWF D' (L.st a) := by
  obtain ⟨r, q1, q2, q3, _⟩ := h
  simp only [LoopS.rOk, Bool.and_eq_true, List.all_eq_true] at q3
  have r1 := ble_true q3.1
  have hk : ∀ k, okName L.lo s.next r k = true → D (rhoOf L.lo r k) → D' k := fun k hk hD => by
    unfold okName at hk
    unfold rhoOf at hD
    split at hk
    · rename_i hb
      rw [hb] at hD
      exact h1 k (by simpa [Nat.blt_eq] using hb) (by simpa [Nat.blt_eq] using hk) hD
    · rename_i hb
      split at hk
      · rename_i j hj
        rw [nth_eq] at hj
        have := (List.getElem?_eq_some_iff.1 hj).1
        have hb' : ¬ k < L.lo := blt_false hb
        exact h2 k (by omega) (by omega)
      · cases hk
  refine ⟨fun k b hb => ?_, fun t => ?_⟩
  · obtain ⟨hp, b', hb', hB⟩ := q2.get k b hb
    have hk' := hT.1 _ _ hb'
    refine ⟨hk k hp hk'.1, fun v hv => ?_⟩
    obtain ⟨j, hj⟩ := List.getElem?_of_mem hv
    obtain ⟨v', hv', hA⟩ := hB.cells j v hj
    exact hA.wf _ _ hk (hk'.2 v' (List.mem_of_getElem? hv'))
  · rcases zip_get s.tmps L.keys (L.kv a) q1 t with ⟨_, _, hA⟩ | ⟨_, hu⟩
    · exact hA.wf _ _ hk (hT.2 t)
    · show WF _ (getTmp (zipT L.keys (L.kv a) []) t)
      rw [hu]; exact WF.undef
theorem moved_nw {L : LoopS α} {a : α} {r : List (Option Nat)} {next : Nat} (hr : L.rOk a r next = true) {μ μo : Nat → Nat} {z : Nat} {k : Nat} (h1 : L.lo ≤ k) (h2 : k < L.nx) :
    moved μ z L.lo next L.nx r μo k = z ∨ ∃ j, L.mw ≤ j ∧ j < next ∧ moved μ z L.lo next L.nx r μo k = μ j := by
  simp only [LoopS.rOk, Bool.and_eq_true, List.all_eq_true] at hr
  obtain ⟨_, r2, _⟩ := hr
  unfold moved
  rw [if_neg (by omega), if_pos h2]
  split
  · rename_i j hj
    have := r2 _ (nth_mem hj)
    simp only [Bool.and_eq_true] at this
    exact .inr ⟨j, ble_true this.1, by simpa [Nat.blt_eq] using this.2, rfl⟩
  · exact .inl rfl
theorem LoopS.At.step {L : LoopS α} (hw : E.weak = true) (hS : L.okS E.P.globals.size = true) {a : α} {s : St} (h : L.At a (toldL s.tmps L.keys) (getAll s.tmps L.keys) s.heap s.next s.mw s.size s.fn s.df)
    {μ κ μ1 κ1 : Nat → Nat} {act : Act} {w w1 : World} (hst : Step s.mw L.nx s.next μ κ w μ1 κ1 w1) (hr : StRel E base μ1 κ1 s act w1) :
    ∃ μ2 κ2, LStep L.mw L.lo L.nx μ κ w μ2 κ2 w1 ∧ StRel E base μ2 κ2 (L.st a) act w1 := by
  have hm : L.mw ≤ s.mw := by obtain ⟨_, _, _, _, _, h5, _⟩ := h; exact h5
  obtain ⟨r, hR, hq⟩ := h.rel hw hS hr (μo := μ) (κo := κ) (z := w1.heap.size)
  simp only [LoopS.okS, Bool.and_eq_true] at hS
  obtain ⟨g1, g2, g3⟩ := hS
  have g2 := ble_true g2
  have hle := hst.le
  refine ⟨_, _, ⟨fun k hk => ?_, hst.sz, fun b hb hh => (hst.mono hm).fr b hb hh, fun k h1 h2 => ?_⟩, hq⟩
  · unfold moved
    rcases hk with hk | hk
    · have : k < s.next := by omega
      rw [if_pos hk, if_pos this, if_pos hk, if_pos this]
      exact hst.ag k (.inl (by omega))
    · rw [if_neg (by omega), if_neg (by omega), if_neg (by omega), if_neg (by omega)]
      exact ⟨rfl, rfl⟩
  · rcases moved_nw hR (μ := μ1) (μo := μ) (z := w1.heap.size) h1 h2 with e | ⟨j, j1, j2, e⟩
    · exact .inl (by rw [e]; exact hst.sz)
    · by_cases hj : j < L.nx
      · exact .inr ⟨j, j1, hj, by rw [e, (hst.ag j (.inl hj)).1]⟩
      · rcases (hst.mono hm).nw j (by omega) j2 with hx | ⟨i, i1, i2, i3⟩
        · exact .inl (by rw [e]; exact hx)
        · exact .inr ⟨i, i1, i2, by rw [e, i3]⟩
theorem LoopS.At.enter {L : LoopS α} (hw : E.weak = true) (hS : L.okS E.P.globals.size = true) {a : α} {s : St} (h : L.At a (toldL s.tmps L.keys) (getAll s.tmps L.keys) s.heap s.next s.mw s.size s.fn s.df) (hlo : s.next ≤ L.lo)
    {μ κ : Nat → Nat} {act : Act} {w : World} (hr : StRel E base μ κ s act w) :
    ∃ μ2 κ2, StRel E base μ2 κ2 (L.st a) act w ∧ ∀ μ' κ' w', LStep L.mw L.lo L.nx μ2 κ2 w μ' κ' w' → Step L.mw s.next L.nx μ κ w μ' κ' w' := by
  obtain ⟨r, hR, hq⟩ := h.rel hw hS hr (μo := μ) (κo := κ) (z := w.heap.size)
  simp only [LoopS.okS, Bool.and_eq_true] at hS
  obtain ⟨g1, g2, g3⟩ := hS
  have g2 := ble_true g2
  refine ⟨_, _, hq, fun μ' κ' w' st => ?_⟩
  have old : ∀ (f g : Nat → Nat) k, k < s.next → moved f w.heap.size L.lo s.next L.nx r g k = f k := fun f g k hk => by
    unfold moved; rw [if_pos (by omega), if_pos hk]
  have gap : ∀ (f g : Nat → Nat) k, s.next ≤ k → k < L.lo → moved f w.heap.size L.lo s.next L.nx r g k = w.heap.size := fun f g k h1 h2 => by
    unfold moved; rw [if_pos h2, if_neg (by omega)]
  have far : ∀ (f g : Nat → Nat) k, L.nx ≤ k → moved f w.heap.size L.lo s.next L.nx r g k = g k := fun f g k h1 => by
    unfold moved; rw [if_neg (by omega), if_neg (by omega)]
  refine ⟨by omega, fun k hk => ?_, st.sz, fun b hb hh => st.fr b hb fun k k1 k2 => ?_, fun k k1 k2 => ?_⟩
  · rcases hk with hk | hk
    · have := st.ag k (.inl (by omega))
      rw [old _ _ k hk, old _ _ k hk] at this
      exact this
    · have := st.ag k (.inr hk)
      rw [far _ _ k hk, far _ _ k hk] at this
      exact this
  · by_cases c1 : k < s.next
    · rw [old _ _ k c1]; exact hh k k1 c1
    · by_cases c2 : k < L.lo
      · rw [gap _ _ k (by omega) c2]; omega
      · rcases moved_nw hR (μ := μ) (μo := μ) (z := w.heap.size) (by omega : L.lo ≤ k) k2 with e | ⟨j, j1, j2, e⟩
        · rw [e]; omega
        · rw [e]; exact hh j j1 j2
  · have alias : ∀ j, L.mw ≤ j → j < L.nx → w.heap.size ≤ moved μ w.heap.size L.lo s.next L.nx r μ j ∨ ∃ i, L.mw ≤ i ∧ i < s.next ∧ moved μ w.heap.size L.lo s.next L.nx r μ j = μ i := fun j j1 j2 => by
      by_cases c1 : j < s.next
      · exact .inr ⟨j, j1, c1, old _ _ j c1⟩
      · by_cases c2 : j < L.lo
        · exact .inl (by rw [gap _ _ j (by omega) c2]; exact Nat.le_refl _)
        · rcases moved_nw hR (μ := μ) (μo := μ) (z := w.heap.size) (by omega : L.lo ≤ j) j2 with e | ⟨i, i1, i2, e⟩
          · exact .inl (by rw [e]; exact Nat.le_refl _)
          · exact .inr ⟨i, i1, i2, e⟩
    by_cases c2 : k < L.lo
    · rw [(st.ag k (.inl c2)).1, gap _ _ k k1 c2]
      exact .inl (Nat.le_refl _)
    · rcases st.nw k (by omega) k2 with hx | ⟨j, j1, j2, e⟩
      · exact .inl hx
      · rw [e]; exact alias j j1 j2
theorem LStep.refl {mw lo nx : Nat} (hm : mw ≤ lo) (μ κ : Nat → Nat) (w : World) : LStep mw lo nx μ κ w μ κ w :=
  ⟨fun _ _ => ⟨rfl, rfl⟩, Nat.le_refl _, fun _ _ _ => rfl, fun k h1 h2 => .inr ⟨k, by omega, h2, rfl⟩⟩
def NamesIn (E : Env) (L : LoopS α) (a a' : α) : Prop := ∀ D : Nat → Prop, (∀ k, D k → k < L.nx) → (∀ g, g < E.P.globals.size → D g) → (∀ k, L.lo ≤ k → k < L.nx → D k) → TWF D (L.st a) → TWF D (L.st a')
theorem Rounds.sound (hw : E.weak = true) (hE : EnvOk E base) (hL : LoopsOk E base) {d : Nat} {c : Code} (hok : codeOk E.P.globals.size c = true) {L : LoopS α} (hS : L.okS E.P.globals.size = true) {I : Nat → α → Prop} {O R : α → Prop} {i : Nat} (H : Rounds E d c L I O R i) :
    ∀ n a, I n a → ∃ e a', (e = .exit i ∧ O a' ∨ e = .ret ∧ R a') ∧ NamesIn E L a a' ∧ ∃ k, ∀ μ κ act w, StRel E base μ κ (L.st a) act w →
      Code.rounds E.P c (fun e' act' w' => e' = e ∧ ∃ μ' κ', LStep L.mw L.lo L.nx μ κ w μ' κ' w' ∧ StRel E base μ' κ' (L.st a') act' w') k act w := by
  intro n
  induction n using Nat.strongRecOn with
  | _ n ih =>
    intro a hI
    obtain ⟨e1, s1, h1, h2, h3⟩ := codeK_sound hE hL (funcK_sound hE hL d) c (L.st a) _ hok (H.go n a hI).out
    have names : ∀ a1, L.At a1 (toldL s1.tmps L.keys) (getAll s1.tmps L.keys) s1.heap s1.next s1.mw s1.size s1.fn s1.df → NamesIn E L a a1 := fun a1 hA D hD hG hM hT => by
      have := h2.wf.2 D hD hG hT
      refine hA.twf (D := Dp D L.nx s1.next) (fun k k1 k2 hk => ?_) hM this
      rcases hk with hk | hk
      · exact hk
      · simp only [LoopS.okS, Bool.and_eq_true] at hS
        have := ble_true hS.2.1
        omega
    have out : ∀ e a', (e = .exit i ∧ O a' ∨ e = .ret ∧ R a') → L.At a' (toldL s1.tmps L.keys) (getAll s1.tmps L.keys) s1.heap s1.next s1.mw s1.size s1.fn s1.df → e1 = e → ∃ e a', (e = .exit i ∧ O a' ∨ e = .ret ∧ R a') ∧ NamesIn E L a a' ∧ ∃ k, ∀ μ κ act w, StRel E base μ κ (L.st a) act w →
        Code.rounds E.P c (fun e' act' w' => e' = e ∧ ∃ μ' κ', LStep L.mw L.lo L.nx μ κ w μ' κ' w' ∧ StRel E base μ' κ' (L.st a') act' w') k act w := fun e a' ho hA he => by
      subst he
      refine ⟨e1, a', ho, names a' hA, 1, fun μ κ act w hr => ?_⟩
      rw [rounds_succ]
      refine wp_mono (h3 μ κ act w hr) fun e' act' w' ⟨he, μ1, κ1, q1, q2⟩ => ?_
      obtain ⟨μ2, κ2, l1, l2⟩ := hA.step hw hS q1 q2
      have hfin : e' = e1 ∧ ∃ μ' κ', LStep L.mw L.lo L.nx μ κ w μ' κ' w' ∧ StRel E base μ' κ' (L.st a') act' w' := ⟨he, μ2, κ2, l1, l2⟩
      subst he
      rcases ho with ⟨rfl, _⟩ | ⟨rfl, _⟩ <;> exact hfin
    unfold LoopS.look LoopS.To at h1
    cases e1 with
    | normal =>
      obtain ⟨m, a1, hm, hi, hA⟩ := h1
      obtain ⟨e, a', k1, kn, k, k2⟩ := ih m hm a1 hi
      refine ⟨e, a', k1, fun D hD hG hM hT => kn D hD hG hM (names a1 hA D hD hG hM hT), k + 1, fun μ κ act w hr => ?_⟩
      rw [rounds_succ]
      refine wp_mono (h3 μ κ act w hr) fun e' act' w' ⟨he, μ1, κ1, q1, q2⟩ => ?_
      subst he
      obtain ⟨μ2, κ2, l1, l2⟩ := hA.step hw hS q1 q2
      exact rounds_mono _ _ _ _ _ (fun e' a'' w'' ⟨he, μ3, κ3, p1, p2⟩ => ⟨he, μ3, κ3, l1.trans p1, p2⟩) (k2 μ2 κ2 act' w' l2)
    | exit j =>
      obtain ⟨rfl, a', hO, hA⟩ := h1
      exact out _ a' (.inl ⟨rfl, hO⟩) hA rfl
    | ret =>
      obtain ⟨a', hR, hA⟩ := h1
      exact out _ a' (.inr ⟨rfl, hR⟩) hA rfl
    | _ => exact h1.elim
theorem Rounds.sem (hw : E.weak = true) (hE : EnvOk E base) (hL : LoopsOk E base) {d : Nat} {c : Code} (hok : codeOk E.P.globals.size c = true) {L : LoopS α} (hS : L.okS E.P.globals.size = true) {I : Nat → α → Prop} {O R : α → Prop} {i : Nat} (H : Rounds E d c L I O R i)
    {n : Nat} {a : α} {s : St} (hI : I n a) (hlo : Nat.ble s.next L.lo = true) (hA : L.At a (toldL s.tmps L.keys) (getAll s.tmps L.keys) s.heap s.next s.mw s.size s.fn s.df) :
    ∃ e a', (e = .exit i ∧ O a' ∨ e = .ret ∧ R a') ∧ CodeSem E base (.loop c) s e (L.st a') := by
  obtain ⟨e, a', h1, hN, k, h2⟩ := H.sound hw hE hL hok hS n a hI
  have hlo := ble_true hlo
  have hS' := hS
  simp only [LoopS.okS, Bool.and_eq_true] at hS'
  obtain ⟨g1, g2, g3⟩ := hS'
  have g1 := ble_true g1
  have g2 := ble_true g2
  obtain ⟨r, _, _, _, _, m1, m2, m3, m4⟩ := id hA
  refine ⟨e, a', h1, ⟨⟨by show s.next ≤ L.nx; omega, fun D hD hG hT => ?_⟩, m1, m2.symm, fun _ _ _ _ _ d hd => (by cases hd)⟩, fun μ κ act w hr => ?_⟩
  · have t0 : TWF (Dp D s.next L.nx) (L.st a) := hA.twf (fun k _ _ hk => .inl hk) (fun k k1 k2 => .inr ⟨by omega, k2⟩) hT
    refine hN (Dp D s.next L.nx) (fun k hk => ?_) (fun g hg => .inl (hG g hg)) (fun k k1 k2 => .inr ⟨by omega, k2⟩) t0
    rcases hk with hk | hk
    · have := hD k hk; omega
    · exact hk.2
  · obtain ⟨μ2, κ2, e1, e2⟩ := hA.enter hw hS hlo hr
    exact wp_loop_rounds _ (rounds_mono _ _ _ _ _ (fun e' a'' w'' ⟨he, μ3, κ3, p1, p2⟩ => ⟨he, μ3, κ3, e2 _ _ _ p1, p2⟩) (h2 μ2 κ2 act w e1))
theorem loopT_ok {E' : Env} (hP : E'.P = E.P) (hW : E'.weak = true) (hE : EnvOk E base) (hL : LoopsOk E base) {d : Nat} {c0 : Code} (hok : codeOk E.P.globals.size c0 = true) {L : LoopS α} (hS : L.okS E.P.globals.size = true) {I : Nat → α → Prop} {O : α → Prop} {i : Nat} (H : Rounds E d c0 L I O (fun _ => False) i) {c : Code} {s : St} {K : Exit → St → Prop} (h : loopT c0 L I O i c s K) (hw : E.weak = true := by rfl) : ∃ e s', K e s' ∧ CodeSem E' base (.loop c) s e s' := by
  obtain ⟨⟨rfl⟩, n, a, ⟨h1, h2, h3⟩, h4⟩ := h
  obtain ⟨e, a', h5, h6⟩ := H.sem hw hE hL hok hS h1 h2 h3
  rcases h5 with ⟨rfl, h5⟩ | ⟨_, h5⟩
  · exact ⟨_, _, h4 a' h5, h6.env hP (hW.trans hw.symm)⟩
  · exact h5.elim
theorem loopR_ok {E' : Env} (hP : E'.P = E.P) (hW : E'.weak = true) (hE : EnvOk E base) (hL : LoopsOk E base) {d : Nat} {c0 : Code} (hok : codeOk E.P.globals.size c0 = true) {L : LoopS α} (hS : L.okS E.P.globals.size = true) {I : Nat → α → Prop} {O R : α → Prop} {i : Nat} (H : Rounds E d c0 L I O R i) {c : Code} {s : St} {K : Exit → St → Prop} (h : loopR c0 L I O R i c s K) (hw : E.weak = true := by rfl) : ∃ e s', K e s' ∧ CodeSem E' base (.loop c) s e s' := by
  obtain ⟨⟨rfl⟩, n, a, ⟨h1, h2, h3⟩, h4, h4'⟩ := h
  obtain ⟨e, a', h5, h6⟩ := H.sem hw hE hL hok hS h1 h2 h3
  rcases h5 with ⟨rfl, h5⟩ | ⟨rfl, h5⟩
  · exact ⟨_, _, h4 a' h5, h6.env hP (hW.trans hw.symm)⟩
  · exact ⟨_, _, h4' a' h5, h6.env hP (hW.trans hw.symm)⟩
end
/-! ### How a state's look is shown -/
noncomputable def renB (ρ : Nat → Nat) (b : Blk) : Blk := { cells := b.cells.map (Option.map (renN ρ)), elem := b.elem, own := b.own, room := b.room, iter := b.iter, sym := b.sym }
theorem bas_ok {p : Nat → Bool} {ρ : Nat → Nat} {b : Blk} (h : okC p b.cells = true) : BAs p ρ b (renB ρ b) := by
  refine ⟨rfl, rfl, rfl, rfl, by simp [renB], fun j v hj => ⟨renN ρ v, by simp [renB, hj], ?_⟩⟩
  have key : ∀ {l : List (Option Value)}, okC p l = true → ∀ v, some v ∈ l → okV p 8 v = true := by
    intro l
    induction l with
    | nil => intro _ v h; cases h
    | cons x l ih =>
      intro h v hv
      cases x with
      | none =>
        simp only [okC] at h
        rcases List.mem_cons.1 hv with e | hv
        · cases e
        · exact ih h v hv
      | some u =>
        simp only [okC] at h
        split at h
        · rename_i hu
          rcases List.mem_cons.1 hv with e | hv
          · cases e; exact hu
          · exact ih h v hv
        · cases h
  exact as_ok 8 v (key h v (List.mem_of_getElem? hj))
def plainB (b : Blk) : Blk := { cells := b.cells, elem := b.elem, own := b.own, room := b.room, iter := b.iter }
theorem bas_plain {p : Nat → Bool} {ρ : Nat → Nat} {b b' : Blk} (he : plainB b' = plainB (renB ρ b)) (h : okC p b.cells = true) : BAs p ρ b b' := by
  have k := bas_ok (ρ := ρ) h
  simp only [plainB, Blk.mk.injEq] at he
  obtain ⟨e1, e2, e3, e4, e5, _⟩ := he
  exact ⟨by rw [e3]; exact k.own, by rw [e2]; exact k.elem, by rw [e4]; exact k.room, by rw [e5]; exact k.iter, by rw [e1]; exact k.len, fun j v hj => by rw [e1]; exact k.cells j v hj⟩
theorem las_map {p : Nat → Bool} {ρ : Nat → Nat} : ∀ {l : List Value}, l.all (okV p 8) = true → LAs p ρ l (l.map (renN ρ)) := by
  intro l
  induction l with
  | nil => intro _; trivial
  | cons v l ih =>
    intro h
    simp only [List.all_cons, Bool.and_eq_true] at h
    exact ⟨as_ok 8 v h.1, ih h.2⟩
theorem hin_map {p : Nat → Bool} {ρ : Nat → Nat} : ∀ {l h : Heap}, l.all (fun x => p x.1 && okC p x.2.cells) = true → l.map (fun x => (getBlk h (ρ x.1)).map plainB) = l.map (fun x => some (plainB (renB ρ x.2))) → HIn p ρ l h := by
  intro l
  induction l with
  | nil => intro h _ _; trivial
  | cons x l ih =>
    intro h h1 h2
    simp only [List.all_cons, Bool.and_eq_true] at h1
    simp only [List.map_cons, List.cons.injEq] at h2
    have key : ∃ b', getBlk h (ρ x.1) = some b' ∧ plainB b' = plainB (renB ρ x.2) := by
      have := h2.1
      cases hg : getBlk h (ρ x.1) with
      | none => rw [hg] at this; cases this
      | some b' => rw [hg] at this; exact ⟨b', rfl, Option.some.inj this⟩
    obtain ⟨b', k1, k2⟩ := key
    exact ⟨⟨h1.1.1, b', k1, bas_plain k2 h1.1.2⟩, ih h1.2 h2.2⟩
noncomputable def LoopS.fits {α : Type} (L : LoopS α) (a : α) (r : List (Option Nat)) (nx : Nat) : Bool :=
  (L.kv a).all (okV (okName L.lo nx r) 8) && ((L.hp a).all (fun x => okName L.lo nx r x.1 && okC (okName L.lo nx r) x.2.cells) && L.rOk a r nx)
theorem LoopS.At.quick {α : Type} {L : LoopS α} {a : α} {t : Bool} {l : List Value} {h : Heap} {nx mw size : Nat} {fn : FuncId} {df : List (FuncId × List Value)} (r : List (Option Nat))
    (h1 : l = (L.kv a).map (renN (rhoOf L.lo r))) (h2 : (L.hp a).map (fun x => (getBlk h (rhoOf L.lo r x.1)).map plainB) = (L.hp a).map (fun x => some (plainB (renB (rhoOf L.lo r) x.2)))) (h3 : L.fits a r nx = true) (h4 : t = true) (h5 : Nat.ble L.mw mw = true) (h6 : size = L.size) (h7 : fn = L.fn) (h8 : df = []) :
    L.At a t l h nx mw size fn df := by
  simp only [LoopS.fits, Bool.and_eq_true] at h3
  subst h1
  exact ⟨r, las_map h3.1, hin_map h3.2.1 h2, h3.2.2, h4, ble_true h5, h6, h7, h8⟩
theorem HIn.c {p : Nat → Bool} {ρ : Nat → Nat} {k : Nat} {b : Blk} {l h : Heap} (h1 : (p k && okC p b.cells) = true) (h2 : (getBlk h (ρ k)).map plainB = some (plainB (renB ρ b))) (h3 : HIn p ρ l h) : HIn p ρ ((k, b) :: l) h := by
  simp only [Bool.and_eq_true] at h1
  cases hg : getBlk h (ρ k) with
  | none => rw [hg] at h2; cases h2
  | some b' =>
    rw [hg] at h2
    exact ⟨⟨h1.1, b', hg, bas_plain (Option.some.inj h2) h1.2⟩, h3⟩
theorem HIn.s {p : Nat → Bool} {ρ : Nat → Nat} {k : Nat} {b : Blk} {l h : Heap} (h1 : p k = true) (h2 : (getBlk h (ρ k)).map plainB = some (plainB b)) (h4 : ∀ v, some v ∈ b.cells → pureV 6 v = true) (h3 : HIn p ρ l h) : HIn p ρ ((k, b) :: l) h := by
  cases hg : getBlk h (ρ k) with
  | none => rw [hg] at h2; cases h2
  | some b' =>
    rw [hg] at h2
    have he : plainB b' = plainB b := Option.some.inj h2
    simp only [plainB, Blk.mk.injEq] at he
    obtain ⟨e1, e2, e3, e4, e5, _⟩ := he
    exact ⟨⟨h1, b', hg, e3, e2, e4, e5, by rw [e1], fun j v hj => ⟨v, by rw [e1]; exact hj, as_pure (h4 v (List.mem_of_getElem? hj))⟩⟩, h3⟩
theorem HIn.n {p : Nat → Bool} {ρ : Nat → Nat} {h : Heap} : HIn p ρ [] h := trivial
theorem LoopS.At.each {α : Type} {L : LoopS α} {a : α} {t : Bool} {l : List Value} {h : Heap} {nx mw size : Nat} {fn : FuncId} {df : List (FuncId × List Value)} (r : List (Option Nat))
    (h1 : l = (L.kv a).map (renN (rhoOf L.lo r))) (h2 : HIn (okName L.lo nx r) (rhoOf L.lo r) (L.hp a) h) (h3 : ((L.kv a).all (okV (okName L.lo nx r) 8) && L.rOk a r nx) = true) (h4 : t = true) (h5 : Nat.ble L.mw mw = true) (h6 : size = L.size) (h7 : fn = L.fn) (h8 : df = []) :
    L.At a t l h nx mw size fn df := by
  simp only [Bool.and_eq_true] at h3
  subst h1
  exact ⟨r, las_map h3.1, h2, h3.2, h4, ble_true h5, h6, h7, h8⟩
/-! ### Bytes -/
abbrev LoopW := Code → St → (Exit → St → Prop) → Prop
def findL : List ((Nat × Nat) × LoopW) → FuncId → Nat → Option LoopW
  | [], _, _ => none
  | x :: l, f, i => match Nat.beq x.1.1 f && Nat.beq x.1.2 i with | true => some x.2 | false => findL l f i
def LoopOk (E : Env) (base : World) (T : LoopW) : Prop := ∀ c s K, T c s K → ∃ e s', K e s' ∧ CodeSem E base (.loop c) s e s'
theorem findL_ok {E : Env} {base : World} {l : List ((Nat × Nat) × LoopW)} (hl : E.loopP = findL l) (h : ∀ x ∈ l, LoopOk E base x.2) : LoopsOk E base := by
  intro f id T c s K hT hk
  rw [hl] at hT
  clear hl
  induction l with
  | nil => cases hT
  | cons x l ih =>
    unfold findL at hT
    split at hT
    · cases hT; exact h x (List.mem_cons_self ..) c s K hk
    · exact ih (fun y hy => h y (List.mem_cons_of_mem _ hy)) hT
end Go.Pe
