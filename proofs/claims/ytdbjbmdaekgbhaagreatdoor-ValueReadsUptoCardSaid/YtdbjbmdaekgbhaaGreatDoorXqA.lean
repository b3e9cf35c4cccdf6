/-
  strings.Count of one byte.
  strings.Split into any number of pieces.
-/
import Derived.Test.YtdbjbmdaekgbhaaGreatDoorXp
import Derived.Test.YtdbjbmdaekgbhaaGreatDoorSj

namespace Go.Proofs.YtdbjbmdaekgbhaaGreatDoor
open Go Go.Pe Go.RowKit

def ruleCount1 : Rule := ruleA fun args => match args with
  | [.string s, .string z] => some fun K => z = ⟨#[58]⟩ ∧ ∀ k : Nat, k ≤ strLen s → K (.int .i64 (k : Int))
  | _ => none
theorem countByte_le : ∀ (l : List UInt8) (c : UInt8), Lib.countByte l c ≤ l.length := fun l c => by
  exact List.count_le_length
theorem count1_ok {base : World} : RuleOk Tryz.prog base 117 ruleCount1 := ruleOkA fun args T K hT hK => by
  split at hT
  · rename_i s z
    cases hT
    obtain ⟨rfl, hK⟩ := hK
    exact ⟨_, hK _ (countByte_le _ 58), totA_contract (args := [.string s, .string ⟨#[58]⟩]) Tryz.func117 (by kernel_rfl) (List.forall_mem_cons.2 ⟨by kernel_rfl, List.forall_mem_cons.2 ⟨by kernel_rfl, fun _ h => nomatch h⟩⟩) (by kernel_rfl) fun w => Tryz.strings_Count_one _ 58 w⟩
  · cases hT
end Go.Proofs.YtdbjbmdaekgbhaaGreatDoor

namespace Go.Pe
open Go Go.RowKit

/-- A call that was told over no blocks, and gives one block of plain cells, told for every heap. -/
theorem FuncSem.give {E : Env} {base : World} {f : FuncId} {args : List Value} {n0 n' mw q : Nat} {h' : Heap} {b : Blk} {vf : Nat → Value} (hvf : ∀ (μ κ μ' κ' : Nat → Nat) (k k' : Nat), μ k = μ' k' → κ k = κ' k' → renV μ κ (vf k) = renV μ' κ' (vf k'))
    (hs : FuncSem E base f args [] n0 (vf q) h' n' mw) (hm : n0 ≤ mw) (hq : n0 ≤ q) (hq2 : q < n') (hb : getBlk h' q = some b) (hi : b.iter = none) (hc : ∀ v, some v ∈ b.cells → pureV 6 v = true) (ha : ∀ x ∈ args, pureV 6 x = true)
    (hg0 : E.P.globals.size ≤ n0) (h : Heap) (n : Nat) : FuncSem E base f args h n (vf n) ((n, b) :: h) (n + 1) big := by
  obtain ⟨_, s2⟩ := hs
  refine ⟨⟨by omega, fun D hD hG hx hh => ⟨fun μ κ μ' κ' hd => ?_, (hh.mono Dp_mono).cons (.inr ⟨by omega, by omega⟩) fun v hv => WF.pure (hc v hv)⟩⟩, fun μ κ w hr hh hx hg => ?_⟩
  · have hn := hd n (.inr ⟨by omega, by omega⟩)
    exact hvf _ _ _ _ _ _ hn.1 hn.2
  have hout := s2 μ κ w (hr.fewer fun k b hb => by simp [getBlk] at hb) (fun k b hb => by simp [getBlk] at hb) (fun x hx => WF.pure (ha x hx)) hg0
  have key : ∀ u w', Out E base h' (vf q) mw n0 n' μ κ w u w' → Out E base ((n, b) :: h) (vf n) big n (n + 1) μ κ w u w' := fun u w' ⟨μ', κ', st, hu, hrel⟩ => by
    have hnew : w.heap.size ≤ μ' q := by
      rcases st.nw q hq hq2 with h1 | ⟨j, h1, h2, _⟩
      · exact h1
      · omega
    have hold : ∀ a, a < w.heap.size → w'.heap[a]? = w.heap[a]? := fun a ha => st.fr a ha fun j j1 j2 => by omega
    refine ⟨upd μ n (μ' q), upd κ n (κ' q), ⟨by omega, fun k hk => ?_, st.sz, fun a ha _ => hold a ha, fun k h1 h2 => .inl ?_⟩, ?_, ?_⟩
    · have : k ≠ n := by omega
      simp [upd, this]
    · have : k = n := by omega
      subst this
      rw [upd_same]
      exact hnew
    · rw [hu]
      exact hvf _ _ _ _ _ _ (upd_same _ _ _).symm (upd_same _ _ _).symm
    · refine ⟨hrel.below, fun k d hk => ?_, fun i j x y hi' hj hij => ?_, fun g hgl => ?_, hr.gsz⟩
      · rw [getBlk_cons] at hk
        split at hk
        · rename_i e
          subst e
          cases hk
          have hq' := hrel.blk q _ hb
          unfold BlkOk at hq' ⊢
          rw [hi] at hq' ⊢
          simp only at hq' ⊢
          rw [upd_same, upd_same]
          obtain ⟨c, e, fr, k1, k2, k3, k4, k5, k6⟩ := hq'
          refine ⟨c, e, fr, k1, k2, k3, fun j v hj => ?_, k5, k6⟩
          have hp := hc v (List.mem_of_getElem? hj)
          rw [k4 j v hj, ren_pure _ _ 6 v hp, ren_pure _ _ 6 v hp]
        · obtain ⟨h1, h2⟩ := hh k d hk
          have hne : k ≠ n := by omega
          refine (hr.blk k d hk).same (upd_other _ _ hne) (upd_other _ _ hne) (fun v hv => h2 v hv _ _ _ _ fun j hj => ?_) (hold _ (hr.blk k d hk).lt)
          have : j ≠ n := by omega
          exact ⟨upd_other _ _ this, upd_other _ _ this⟩
      · rw [getBlk_cons] at hi' hj
        have hlt : ∀ i x, ¬ n = i → getBlk h i = some x → upd μ n (μ' q) i < w.heap.size := fun i x hi hx => by
          rw [upd_other _ _ (fun e => hi e.symm)]; exact (hr.blk i x hx).lt
        split at hi' <;> split at hj
        · omega
        · rename_i e1 e2
          subst e1
          have := hlt j y e2 hj
          rw [upd_same] at hij
          omega
        · rename_i e1 e2
          subst e2
          have := hlt i x e1 hi'
          rw [upd_same] at hij
          omega
        · rename_i e1 e2
          rw [upd_other _ _ (fun e => e1 e.symm), upd_other _ _ (fun e => e2 e.symm)] at hij
          exact hr.inj i j x y hi' hj hij
      · rw [upd_other _ _ (by omega)]
        exact hr.glob g hgl
  generalize (callFunc f (args.map (renV μ κ)).toArray).run E.P w = r at *
  cases r with
  | halt x w' => exact hout.elim
  | ok nx w' =>
    cases nx with
    | value u => exact key _ _ hout
    | skip => exact key _ _ hout
    | enter g gs =>
      obtain ⟨rfl, hc⟩ := hout
      exact ⟨rfl, hc.mono fun e w'' ⟨u, he, hu⟩ => ⟨u, he, key _ _ hu⟩⟩
    | _ => exact hout.elim
theorem funcK_hush {E : Env} {base : World} (hE : EnvOk E base) (hL : LoopsOk E base) {d : Nat} {f : FuncId} {args : List Value} {h : Heap} {n : Nat} {K : Value → Heap → Nat → Nat → Prop} (hk : Hush (funcK E d f args h n K)) :
    ∃ v h' n' mw, K v h' n' mw ∧ FuncSem E base f args h n v h' n' mw := funcK_sound hE hL d f args h n _ hk.out
end Go.Pe
namespace Go.Proofs.YtdbjbmdaekgbhaaGreatDoor
open Go Go.Pe Go.RowKit

/-- Strings of at most so many bytes. -/
def StrsC (L : Nat) (ps : List Value) : Prop := ∀ v ∈ ps, ∃ a : ByteArray, v = .string a ∧ strLen a ≤ L
theorem StrsC.pure {L : Nat} {ps : List Value} (h : StrsC L ps) : ∀ v ∈ ps, pureV 6 v = true := fun v hv => by
  obtain ⟨a, rfl, _⟩ := h v hv
  kernel_rfl
theorem StrsC.cells {L : Nat} {ps : List Value} (h : StrsC L ps) : ∀ v, some v ∈ ps.map some → pureV 6 v = true := fun v hv => by
  simp only [List.mem_map, Option.some.injEq, exists_eq_right] at hv
  exact h.pure v hv
theorem StrsC.get {L : Nat} {ps : List Value} (h : StrsC L ps) {i : Nat} (hi : i < ps.length) : ∃ a : ByteArray, strLen a ≤ L ∧ cellIs (ps.map some) i (.string a) := by
  obtain ⟨a, ha, hl⟩ := h ps[i] (List.getElem_mem hi)
  refine ⟨a, hl, ?_⟩
  simp [cellIs, hi, ha]
def ruleSplitN : Rule := fun args h n => match args with
  | [.string s, .string z] => some fun K => (strLen s < 4294967281 ∧ 1 ≤ strLen z) ∧ ∀ ps : List Value, StrsC (strLen s) ps → 1 ≤ ps.length → ps.length ≤ strLen s + 1 →
      K (.slice (some ⟨n, 0, none⟩) ps.length ps.length) ((n, symBlk true ps 9) :: h) (n + 1) big
  | _ => none
theorem splitN_ok {base : World} (B : Stood base) : RuleOk Tryz.prog base 110 ruleSplitN := by
  intro E hE args h n T K hT hK
  unfold ruleSplitN at hT
  split at hT
  · rename_i s z
    cases hT
    obtain ⟨⟨hs, hz⟩, hK⟩ := hK
    have hs : s.size < 4294967281 := hs
    have hz : 1 ≤ z.size := hz
    have hE' : EnvOk (env []) base := env_ok (rules := []) (fun _ h => by cases h)
    have hp : ∀ x ∈ [Value.string s, .string z], pureV 6 x = true := List.forall_mem_cons.2 ⟨by kernel_rfl, List.forall_mem_cons.2 ⟨by kernel_rfl, fun _ h => nomatch h⟩⟩
    have hb : Tryz.f110.body.isSome = true := by kernel_rfl
    obtain ⟨m, hm⟩ := B.mx
    have hc : ∀ w : World, Below base.heap.size base w → w.cell? ⟨2, 0, none⟩ = some (.int .i64 m) := fun w hw => by
      rw [← hm]
      exact hw.cell (p := ⟨2, 0, none⟩) (Nat.lt_of_lt_of_le (Nat.le_of_ble_eq_true (by kernel_rfl)) B.low)
    have hlen : (Lib.splitB z 0 (Lib.countB s z) s).length = Lib.countB s z + 1 := Lib.splitB_all z hz 0 _ s rfl
    have hsz := splitB_size z (Lib.countB s z) s
    have hcl : Lib.countB s z ≤ s.size := Lib.countB_le z hz _ s (Nat.le_refl _)
    have hS : StrsC (strLen s) ((Lib.splitB z 0 (Lib.countB s z) s).map Value.string) := fun v hv => by
      obtain ⟨a, ha, rfl⟩ := List.mem_map.1 hv
      exact ⟨a, rfl, hsz a ha⟩
    have hL : ((Lib.splitB z 0 (Lib.countB s z) s).map Value.string).length = Lib.countB s z + 1 := by rw [List.length_map, hlen]
    have hcl' : ((Lib.splitB z 0 (Lib.countB s z) s).map Value.string).length ≤ strLen s + 1 := by
      rw [hL]
      exact Nat.succ_le_succ hcl
    refine ⟨_, _, _, _, hK _ hS (by rw [hL]; exact Nat.succ_le_succ (Nat.zero_le _)) hcl', ?_⟩
    exact (FuncSem.ofAlloc (y := true) (E := env []) hE' (fn := Tryz.f110) Tryz.func110 hb hp hS.pure (fun w hw => (Tryz.strings_Split s z m w hs (hc w hw) hz).mono fun e w' ⟨he, hw'⟩ => by
      rw [hL]
      exact ⟨he, hw'⟩) (by rw [hL]; show _ < 18446744073709551616; omega)).env hE
  · cases hT
end Go.Proofs.YtdbjbmdaekgbhaaGreatDoor
