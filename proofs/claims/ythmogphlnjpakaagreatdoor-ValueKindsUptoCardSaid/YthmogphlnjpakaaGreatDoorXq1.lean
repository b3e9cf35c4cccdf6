/-
  strings.Count of one byte.
  strings.Split into any number of pieces.
  lexical.parts, lexical.ReadTime: what is read may be.
  lexical.ReadMoment: what is read may be; lexical.Moment.
-/
import Derived.Test.YthmogphlnjpakaaGreatDoorXo1
import Derived.Test.YthmogphlnjpakaaGreatDoorSj

namespace Go.Proofs.YthmogphlnjpakaaGreatDoor
open Go Go.Pe Go.RowKit
def ruleCount1 : Rule := ruleA fun args => match args with
  | [.string s, .string z] => some fun K => z = ⟨#[58]⟩ ∧ ∀ k : Nat, k ≤ strLen s → K (.int .i64 (k : Int))
  | _ => none
theorem countByte_le : ∀ (l : List UInt8) (c : UInt8), Lib.countByte l c ≤ l.length := fun l c => by
  exact List.count_le_length
theorem count1_ok {base : World} : RuleOk Tryz.prog base 104 ruleCount1 := ruleOkA fun args T K hT hK => by
  split at hT
  · rename_i s z
    cases hT
    obtain ⟨rfl, hK⟩ := hK
    exact ⟨_, hK _ (countByte_le _ 58), totA_contract (args := [.string s, .string ⟨#[58]⟩]) Tryz.func104 (by kernel_rfl) (List.forall_mem_cons.2 ⟨by kernel_rfl, List.forall_mem_cons.2 ⟨by kernel_rfl, fun _ h => nomatch h⟩⟩) (by kernel_rfl) fun w => Tryz.strings_Count_one _ 58 w⟩
  · cases hT
end Go.Proofs.YthmogphlnjpakaaGreatDoor

namespace Go.Pe
open Go Go.RowKit
theorem FuncSem.give {E : Env} {base : World} {f : FuncId} {args : List Value} {n0 n' mw q : Nat} {h' : Heap} {b : Blk} {vf : Nat → Value} (hvf : ∀ (μ κ μ' κ' : Nat → Nat) (k k' : Nat), μ k = μ' k' → κ k = κ' k' → renV μ κ (vf k) = renV μ' κ' (vf k'))
    (hs : FuncSem E base f args [] n0 (vf q) h' n' mw) (hm : n0 ≤ mw) (hq : n0 ≤ q) (hq2 : q < n') (hb : getBlk h' q = some b) (hi : b.iter = none) (hc : ∀ v, some v ∈ b.cells → pureV 6 v = true) (ha : ∀ x ∈ args, pureV 6 x = true)
    (hg0 : E.P.globals.size ≤ n0) (h : Heap) (n : Nat) : FuncSem E base f args h n (vf n) ((n, b) :: h) (n + 1) big := by
  obtain ⟨_, s2⟩ := hs
  refine ⟨⟨by omega, fun D hD hG hx hh => ⟨fun μ κ μ' κ' hd => ?_, (hh.mono Dp_mono).cons (.inr ⟨by omega, by omega⟩) fun v hv => WF.pure (hc v hv)⟩⟩, fun μ κ w hr hh hx hg => ?_⟩
  · have hn := hd n (.inr ⟨by omega, by omega⟩)
    exact hvf _ _ _ _ _ _ hn.1 hn.2
  have hout := s2 μ κ w (hr.fewer fun k b hb => by simp [getBlk] at hb) (fun k b hb => by simp [getBlk] at hb) (fun x hx => WF.pure (ha x hx)) hg0
  have key : ∀ u w', Out E base h' (vf q) mw n0 n' μ κ w u w' → Out E base ((n, b) :: h) (vf n) big n (n + 1) μ κ w u w' := fun u w' ⟨μ', κ', st, hu, hrel⟩ => by
    have hnew : w.heap.size ≤ μ' q := by
      rcases st.nw q hq hq2 with h1 | ⟨j, h1, h2, _⟩
      · exact h1
      · omega
    have hold : ∀ a, a < w.heap.size → w'.heap[a]? = w.heap[a]? := fun a ha => st.fr a ha fun j j1 j2 => by omega
    refine ⟨upd μ n (μ' q), upd κ n (κ' q), ⟨by omega, fun k hk => ?_, st.sz, fun a ha _ => hold a ha, fun k h1 h2 => .inl ?_⟩, ?_, ?_⟩
    · have : k ≠ n := by omega
      simp [upd, this]
    · have : k = n := by omega
      subst this
      rw [upd_same]
      exact hnew
    · rw [hu]
      exact hvf _ _ _ _ _ _ (upd_same _ _ _).symm (upd_same _ _ _).symm
    · refine ⟨hrel.below, fun k d hk => ?_, fun i j x y hi' hj hij => ?_, fun g hgl => ?_, hr.gsz⟩
      · rw [getBlk_cons] at hk
        split at hk
        · rename_i e
          subst e
          cases hk
          have hq' := hrel.blk q _ hb
          unfold BlkOk at hq' ⊢
          rw [hi] at hq' ⊢
          simp only at hq' ⊢
          rw [upd_same, upd_same]
          obtain ⟨c, e, fr, k1, k2, k3, k4, k5, k6⟩ := hq'
          refine ⟨c, e, fr, k1, k2, k3, fun j v hj => ?_, k5, k6⟩
          have hp := hc v (List.mem_of_getElem? hj)
          rw [k4 j v hj, ren_pure _ _ 6 v hp, ren_pure _ _ 6 v hp]
        · obtain ⟨h1, h2⟩ := hh k d hk
          have hne : k ≠ n := by omega
          refine (hr.blk k d hk).same (upd_other _ _ hne) (upd_other _ _ hne) (fun v hv => h2 v hv _ _ _ _ fun j hj => ?_) (hold _ (hr.blk k d hk).lt)
          have : j ≠ n := by omega
          exact ⟨upd_other _ _ this, upd_other _ _ this⟩
      · rw [getBlk_cons] at hi' hj
        have hlt : ∀ i x, ¬ n = i → getBlk h i = some x → upd μ n (μ' q) i < w.heap.size := fun i x hi hx => by
          rw [upd_other _ _ (fun e => hi e.symm)]; exact (hr.blk i x hx).lt
        split at hi' <;> split at hj
        · omega
        · rename_i e1 e2
          subst e1
          have := hlt j y e2 hj
          rw [upd_same] at hij
          omega
        · rename_i e1 e2
          subst e2
          have := hlt i x e1 hi'
          rw [upd_same] at hij
          omega
        · rename_i e1 e2
          rw [upd_other _ _ (fun e => e1 e.symm), upd_other _ _ (fun e => e2 e.symm)] at hij
          exact hr.inj i j x y hi' hj hij
      · rw [upd_other _ _ (by omega)]
        exact hr.glob g hgl
  generalize (callFunc f (args.map (renV μ κ)).toArray).run E.P w = r at *
  cases r with
  | halt x w' => exact hout.elim
  | ok nx w' =>
    cases nx with
    | value u => exact key _ _ hout
    | skip => exact key _ _ hout
    | enter g gs =>
      obtain ⟨rfl, hc⟩ := hout
      exact ⟨rfl, hc.mono fun e w'' ⟨u, he, hu⟩ => ⟨u, he, key _ _ hu⟩⟩
    | _ => exact hout.elim
theorem funcK_hush {E : Env} {base : World} (hE : EnvOk E base) (hL : LoopsOk E base) {d : Nat} {f : FuncId} {args : List Value} {h : Heap} {n : Nat} {K : Value → Heap → Nat → Nat → Prop} (hk : Hush (funcK E d f args h n K)) :
    ∃ v h' n' mw, K v h' n' mw ∧ FuncSem E base f args h n v h' n' mw := funcK_sound hE hL d f args h n _ hk.out
end Go.Pe
namespace Go.Proofs.YthmogphlnjpakaaGreatDoor
open Go Go.Pe Go.RowKit
def StrsC (L : Nat) (ps : List Value) : Prop := ∀ v ∈ ps, ∃ a : ByteArray, v = .string a ∧ strLen a ≤ L
theorem StrsC.pure {L : Nat} {ps : List Value} (h : StrsC L ps) : ∀ v ∈ ps, pureV 6 v = true := fun v hv => by
  obtain ⟨a, rfl, _⟩ := h v hv
  kernel_rfl
theorem StrsC.cells {L : Nat} {ps : List Value} (h : StrsC L ps) : ∀ v, some v ∈ ps.map some → pureV 6 v = true := fun v hv => by
  simp only [List.mem_map, Option.some.injEq, exists_eq_right] at hv
  exact h.pure v hv
theorem StrsC.get {L : Nat} {ps : List Value} (h : StrsC L ps) {i : Nat} (hi : i < ps.length) : ∃ a : ByteArray, strLen a ≤ L ∧ cellIs (ps.map some) i (.string a) := by
  obtain ⟨a, ha, hl⟩ := h ps[i] (List.getElem_mem hi)
  refine ⟨a, hl, ?_⟩
  simp [cellIs, hi, ha]
def ruleSplitN : Rule := fun args h n => match args with
  | [.string s, .string z] => some fun K => (strLen s < 4294967281 ∧ 1 ≤ strLen z) ∧ ∀ ps : List Value, StrsC (strLen s) ps → 1 ≤ ps.length → ps.length ≤ strLen s + 1 →
      K (.slice (some ⟨n, 0, none⟩) ps.length ps.length) ((n, symBlk true ps 9) :: h) (n + 1) big
  | _ => none
theorem splitN_ok {base : World} (B : Stood base) : RuleOk Tryz.prog base 176 ruleSplitN := by
  intro E hE args h n T K hT hK
  unfold ruleSplitN at hT
  split at hT
  · rename_i s z
    cases hT
    obtain ⟨⟨hs, hz⟩, hK⟩ := hK
    have hs : s.size < 4294967281 := hs
    have hz : 1 ≤ z.size := hz
    have hE' : EnvOk (env []) base := env_ok (rules := []) (fun _ h => by cases h)
    have hp : ∀ x ∈ [Value.string s, .string z], pureV 6 x = true := List.forall_mem_cons.2 ⟨by kernel_rfl, List.forall_mem_cons.2 ⟨by kernel_rfl, fun _ h => nomatch h⟩⟩
    have hb : Tryz.f176.body.isSome = true := by kernel_rfl
    obtain ⟨m, hm⟩ := B.mx
    have hc : ∀ w : World, Below base.heap.size base w → w.cell? ⟨2, 0, none⟩ = some (.int .i64 m) := fun w hw => by
      rw [← hm]
      exact hw.cell (p := ⟨2, 0, none⟩) (Nat.lt_of_lt_of_le (Nat.le_of_ble_eq_true (by kernel_rfl)) B.low)
    have hlen : (Lib.splitB z 0 (Lib.countB s z) s).length = Lib.countB s z + 1 := Lib.splitB_all z hz 0 _ s rfl
    have hsz := splitB_size z (Lib.countB s z) s
    have hcl : Lib.countB s z ≤ s.size := Lib.countB_le z hz _ s (Nat.le_refl _)
    have hS : StrsC (strLen s) ((Lib.splitB z 0 (Lib.countB s z) s).map Value.string) := fun v hv => by
      obtain ⟨a, ha, rfl⟩ := List.mem_map.1 hv
      exact ⟨a, rfl, hsz a ha⟩
    have hL : ((Lib.splitB z 0 (Lib.countB s z) s).map Value.string).length = Lib.countB s z + 1 := by rw [List.length_map, hlen]
    have hcl' : ((Lib.splitB z 0 (Lib.countB s z) s).map Value.string).length ≤ strLen s + 1 := by
      rw [hL]
      exact Nat.succ_le_succ hcl
    refine ⟨_, _, _, _, hK _ hS (by rw [hL]; exact Nat.succ_le_succ (Nat.zero_le _)) hcl', ?_⟩
    exact (FuncSem.ofAlloc (y := true) (E := env []) hE' (fn := Tryz.f176) Tryz.func176 hb hp hS.pure (fun w hw => (Tryz.strings_Split s z m w hs (hc w hw) hz).mono fun e w' ⟨he, hw'⟩ => by
      rw [hL]
      exact ⟨he, hw'⟩) (by rw [hL]; show _ < 18446744073709551616; omega)).env hE
  · cases hT
end Go.Proofs.YthmogphlnjpakaaGreatDoor

namespace Go.Proofs.YthmogphlnjpakaaGreatDoor
open Go Go.Pe Go.RowKit
def rulesPt : List (Nat × Rule) := (176, ruleSplitN) :: (104, ruleCount1) :: (181, ruleCkof) :: (182, ruleCkat) :: (183, ruleLTime) :: rulesSt
theorem rulesPt_ok {base : World} (B : Firm base) : ∀ x ∈ rulesPt, RuleOk Tryz.prog base x.1 x.2 := List.forall_mem_cons.2 ⟨splitN_ok B.stood, List.forall_mem_cons.2 ⟨count1_ok, List.forall_mem_cons.2 ⟨ckof_ok, List.forall_mem_cons.2 ⟨ckat_ok, List.forall_mem_cons.2 ⟨lTime_ok B.begun, rulesSt_ok base⟩⟩⟩⟩⟩
structure ptsS where
  b : Bool
  ps : List Value
  oc : List (Option Value)
  m : Nat
  i : Int
def intB (oc : List (Option Value)) : Blk := { cells := oc, elem := 3, own := true, room := 1, iter := none, sym := true }
def ptsL : LoopS ptsS where
  fn := 180
  keys := [4, 5, 7, 18, 19, 20]
  kv := fun ⟨b, ps, _, m, i⟩ => [.slice none 0 0, .bool false, bif b then .slice (some ⟨31, 0, none⟩) m big else .slice none 0 0, .slice (some ⟨30, 0, none⟩) ps.length ps.length, .int .i64 (ps.length : Int), .int .i64 i]
  hp := fun ⟨b, ps, oc, _, _⟩ => bif b then [(30, symBlk true ps 9), (31, intB oc)] else [(30, symBlk true ps 9)]
  lo := 30
  nx := 32
  mw := 10
  size := 37
theorem pts_tree0 (P : Exit → Bool → List Value → Heap → Nat → Nat → Nat → FuncId → List (FuncId × List Value) → Prop) (ps : List Value) (oc : List (Option Value)) (i : Int) :
 codeK (envW rulesSt []) (funcK (envW rulesSt []) 30) (loopOf Tryz.prog 180 6) (ptsL.st ⟨false, ps, oc, 0, i⟩) (ptsL.look P) =
 (bsel (decide (i < (↑(List.length ps) : Int))) (bsel (decide ((0 : Int) ≤ i) && decide (i < (↑(List.length ps) : Int))) (∃ (x : ByteArray), cellIs (List.map some ps) (0 + Int.toNat i * 1) (Value.string x) ∧ (Int.ofNat 0 ≤ Int.ofNat 2 ∧ Int.ofNat 2 ≤ Int.ofNat 15) ∧ ∀ (n : Int) (ok : Bool), Int.ofNat 0 ≤ n → n < Int.ofNat 100 → bsel ok (P Go.Exit.normal true [.slice none 0 0, .bool false, .slice (some (Addr.mk 33 0 none)) 1 18446744073709551616, .slice (some (Addr.mk 30 0 none)) (List.length ps) (List.length ps), .int .i64 (Int.ofNat (List.length ps)), .int .i64 (IntKind.wrap .i64 (i + (1 : Int)))] [(33, Blk.mk [some (Value.int .i64 n)] 3 true 1 none false), (32, Blk.mk [some (Value.int .i64 n)] 3 true 0 none false), (30, Blk.mk (List.map some ps) 9 true 0 none true)] 34 10 37 180 []) (P Go.Exit.ret true [.slice none 0 0, .bool false, .slice none 0 0, .slice (some (Addr.mk 30 0 none)) (List.length ps) (List.length ps), .int .i64 (Int.ofNat (List.length ps)), .int .i64 i] [(30, Blk.mk (List.map some ps) 9 true 0 none true)] 32 10 37 180 [])) False) (P (Go.Exit.exit 0) true [.slice none 0 0, .bool false, .slice none 0 0, .slice (some (Addr.mk 30 0 none)) (List.length ps) (List.length ps), .int .i64 (Int.ofNat (List.length ps)), .int .i64 i] [(30, Blk.mk (List.map some ps) 9 true 0 none true)] 32 10 37 180 [])) := by kernel_rfl
theorem pts_tree1 (P : Exit → Bool → List Value → Heap → Nat → Nat → Nat → FuncId → List (FuncId × List Value) → Prop) (ps : List Value) (oc : List (Option Value)) (m : Nat) (i : Int) :
 codeK (envW rulesSt []) (funcK (envW rulesSt []) 30) (loopOf Tryz.prog 180 6) (ptsL.st ⟨true, ps, oc, m, i⟩) (ptsL.look P) =
 (bsel (decide (i < (↑(List.length ps) : Int))) (bsel (decide ((0 : Int) ≤ i) && decide (i < (↑(List.length ps) : Int))) (∃ (x : ByteArray), cellIs (List.map some ps) (0 + Int.toNat i * 1) (Value.string x) ∧ (Int.ofNat 0 ≤ Int.ofNat 2 ∧ Int.ofNat 2 ≤ Int.ofNat 15) ∧ ∀ (n : Int) (ok : Bool), Int.ofNat 0 ≤ n → n < Int.ofNat 100 → bsel ok ((((m + 1) * 8 ≤ 140737488355328 ∧ m + 1 ≤ 140737488355328) ∧ fullC oc (m * 1)) ∧ P Go.Exit.normal true [.slice none 0 0, .bool false, .slice (some (Addr.mk 33 0 none)) (m + 1) 18446744073709551616, .slice (some (Addr.mk 30 0 none)) (List.length ps) (List.length ps), .int .i64 (Int.ofNat (List.length ps)), .int .i64 (IntKind.wrap .i64 (i + (1 : Int)))] [(33, Blk.mk (catC oc [.int .i64 n]) 3 true 1 none true), (32, Blk.mk [some (Value.int .i64 n)] 3 true 0 none false), (30, Blk.mk (List.map some ps) 9 true 0 none true)] 34 10 37 180 []) (P Go.Exit.ret true [.slice none 0 0, .bool false, .slice (some (Addr.mk 31 0 none)) m 18446744073709551616, .slice (some (Addr.mk 30 0 none)) (List.length ps) (List.length ps), .int .i64 (Int.ofNat (List.length ps)), .int .i64 i] [(30, Blk.mk (List.map some ps) 9 true 0 none true), (31, Blk.mk oc 3 true 1 none true)] 32 10 37 180 [])) False) (P (Go.Exit.exit 0) true [.slice none 0 0, .bool false, .slice (some (Addr.mk 31 0 none)) m 18446744073709551616, .slice (some (Addr.mk 30 0 none)) (List.length ps) (List.length ps), .int .i64 (Int.ofNat (List.length ps)), .int .i64 i] [(30, Blk.mk (List.map some ps) 9 true 0 none true), (31, Blk.mk oc 3 true 1 none true)] 32 10 37 180 [])) := by kernel_rfl
def IntsC (oc : List (Option Value)) : Prop := ∀ c ∈ oc, ∃ n, c = some (.int .i64 n)
theorem IntsC.one (n : Int) : IntsC [some (.int .i64 n)] := fun c hc => by
  rw [List.mem_singleton] at hc
  exact ⟨n, hc⟩
theorem IntsC.cat {oc : List (Option Value)} (h : IntsC oc) (n : Int) : IntsC (catC oc [.int .i64 n]) := fun c hc => by
  rcases List.mem_append.1 hc with hc | hc
  · exact h c hc
  · exact IntsC.one n c (by simpa using hc)
theorem IntsC.pure {oc : List (Option Value)} (h : IntsC oc) : ∀ v, some v ∈ oc → pureV 6 v = true := fun v hv => by
  obtain ⟨n, hn⟩ := h _ hv
  cases hn
  kernel_rfl
theorem IntsC.full {oc : List (Option Value)} (h : IntsC oc) : fullC oc (oc.length * 1) := by
  induction oc with
  | nil => exact ⟨[], rfl, rfl⟩
  | cons c oc ih =>
    obtain ⟨vs, h1, h2⟩ := ih fun d hd => h d (List.mem_cons_of_mem _ hd)
    obtain ⟨n, rfl⟩ := h c List.mem_cons_self
    exact ⟨.int .i64 n :: vs, by simp only [List.length_cons, h1]; omega, by rw [h2]; rfl⟩
theorem IntsC.get {oc : List (Option Value)} (h : IntsC oc) {i : Nat} (hi : i < oc.length) : ∃ n : Int, cellIs oc i (.int .i64 n) := by
  obtain ⟨n, hn⟩ := h oc[i] (List.getElem_mem hi)
  exact ⟨n, by simp [cellIs, hi, hn]⟩
def ptsI (L c : Nat) (k : Nat) (x : ptsS) : Prop := (StrsC L x.ps ∧ (x.ps.length ≤ 1048577 ∧ x.ps.length = c) ∧ 1 ≤ x.ps.length) ∧ (IntsC x.oc ∧ x.oc.length = x.m) ∧ ((x.m : Int) = x.i ∧ x.m ≤ x.ps.length ∧ (x.b = false → x.m = 0)) ∧ k = x.ps.length - x.m
def ptsO (c : Nat) (x : ptsS) : Prop := (IntsC x.oc ∧ x.oc.length = x.m) ∧ (x.m = x.ps.length ∧ x.ps.length = c) ∧ 1 ≤ x.ps.length ∧ (x.b = false → x.m = 0)
theorem pts_round (L c n0 : Nat) (b : Bool) (ps : List Value) (oc : List (Option Value)) (m : Nat) (i : Int) (hI : ptsI L c n0 ⟨b, ps, oc, m, i⟩) :
    Hush (codeK (envW rulesSt []) (funcK (envW rulesSt []) 30) (loopOf Tryz.prog 180 6) (ptsL.st ⟨b, ps, oc, m, i⟩) (ptsL.look (ptsL.To (ptsI L c) (ptsO c) (fun _ => True) 0 n0))) := by
  obtain ⟨⟨hS, ⟨hp, hpc⟩, hp1⟩, ⟨hO, hm⟩, ⟨hi, hmp, hb⟩, hn⟩ := hI
  simp only at hS hp hpc hp1 hO hm hi hmp hb hn
  have hw : IntKind.wrap .i64 (i + 1) = i + 1 := wrap_i64r (by unfold i64; omega)
  have e0 : (0 : Int) ≤ Int.ofNat 2 := by decide
  have e1 : Int.ofNat 2 ≤ Int.ofNat 15 := by decide
  cases b with
  | false =>
    obtain rfl := hb rfl
    constructor
    rw [pts_tree0, hw]
    refine bsel_of (fun hc => ?_) (fun hc => ⟨rfl, ⟨false, ps, oc, 0, i⟩, ⟨⟨hO, hm⟩, ⟨?_, hpc⟩, hp1, fun _ => rfl⟩, LoopS.At.each [some 30] rfl (HIn.s rfl rfl hS.cells HIn.n) (by kernel_rfl) rfl (by kernel_rfl) rfl rfl rfl⟩)
    · have hc := of_decide_eq_true hc
      obtain ⟨x, hx, hcell⟩ := hS.get (i := 0 + i.toNat * 1) (by omega)
      exact bsel_of (fun _ => ⟨x, hcell, ⟨e0, e1⟩, fun n ok _ _ => bsel_of (fun _ => ⟨ps.length - 1, ⟨true, ps, [some (.int .i64 n)], 1, i + 1⟩, by omega, ⟨⟨hS, ⟨hp, hpc⟩, hp1⟩, ⟨IntsC.one n, rfl⟩, ⟨by show ((1 : Nat) : Int) = i + 1; omega, by show 1 ≤ ps.length; omega, fun h => nomatch h⟩, rfl⟩, (have := IntsC.one n; LoopS.At.each [some 30, some 33] rfl (HIn.s rfl rfl hS.cells (HIn.s rfl rfl (IntsC.pure (by assumption)) HIn.n)) (by kernel_rfl) rfl (by kernel_rfl) rfl rfl rfl)⟩) (fun _ => ⟨⟨false, ps, oc, 0, i⟩, trivial, LoopS.At.each [some 30] rfl (HIn.s rfl rfl hS.cells HIn.n) (by kernel_rfl) rfl (by kernel_rfl) rfl rfl rfl⟩)⟩) (fun h => absurd h (by simp; omega))
    · have hc := of_decide_eq_false hc
      show 0 = ps.length
      omega
  | true =>
    constructor
    rw [pts_tree1, hw]
    refine bsel_of (fun hc => ?_) (fun hc => ⟨rfl, ⟨true, ps, oc, m, i⟩, ⟨⟨hO, hm⟩, ⟨?_, hpc⟩, hp1, fun h => nomatch h⟩, LoopS.At.each [some 30, some 31] rfl (HIn.s rfl rfl hS.cells (HIn.s rfl rfl (IntsC.pure (by assumption)) HIn.n)) (by kernel_rfl) rfl (by kernel_rfl) rfl rfl rfl⟩)
    · have hc := of_decide_eq_true hc
      obtain ⟨x, hx, hcell⟩ := hS.get (i := 0 + i.toNat * 1) (by omega)
      have hf := hO.full
      rw [hm] at hf
      exact bsel_of (fun _ => ⟨x, hcell, ⟨e0, e1⟩, fun n ok _ _ => bsel_of (fun _ => ⟨⟨⟨by omega, by omega⟩, hf⟩, ps.length - (m + 1), ⟨true, ps, catC oc [.int .i64 n], m + 1, i + 1⟩, by omega, ⟨⟨hS, ⟨hp, hpc⟩, hp1⟩, ⟨hO.cat n, by show (catC oc [Value.int .i64 n]).length = m + 1; simp [catC, hm]⟩, ⟨by show ((m + 1 : Nat) : Int) = i + 1; omega, by show m + 1 ≤ ps.length; omega, fun h => nomatch h⟩, rfl⟩, (have := hO.cat n; LoopS.At.each [some 30, some 33] rfl (HIn.s rfl rfl hS.cells (HIn.s rfl rfl (IntsC.pure (by assumption)) HIn.n)) (by kernel_rfl) rfl (by kernel_rfl) rfl rfl rfl)⟩) (fun _ => ⟨⟨true, ps, oc, m, i⟩, trivial, LoopS.At.each [some 30, some 31] rfl (HIn.s rfl rfl hS.cells (HIn.s rfl rfl (IntsC.pure (by assumption)) HIn.n)) (by kernel_rfl) rfl (by kernel_rfl) rfl rfl rfl⟩)⟩) (fun h => absurd h (by simp; omega))
    · have hc := of_decide_eq_false hc
      show m = ps.length
      omega
theorem pts_rounds (L c : Nat) : Rounds (envW rulesSt []) 30 (loopOf Tryz.prog 180 6) ptsL (ptsI L c) (ptsO c) (fun _ => True) 0 := ⟨fun n x hI => pts_round L c n x.b x.ps x.oc x.m x.i hI⟩
def ptsT : LoopW := fun cq sq Kq => ∃ L c : Nat, Is (loopOf Tryz.prog 180 6) cq ∧ ∃ n a, (ptsI L c n a ∧ Nat.ble sq.next ptsL.lo = true ∧ ptsL.At a (toldL sq.tmps ptsL.keys) (getAll sq.tmps ptsL.keys) sq.heap sq.next sq.mw sq.size sq.fn sq.df) ∧
  (∀ (ps : List Value) (oc : List (Option Value)) (i : Int), IntsC oc → oc.length = c → ps.length = c → Kq (.exit 0) (ptsL.st ⟨true, ps, oc, c, i⟩)) ∧
  (∀ (ps : List Value) (oc : List (Option Value)) (m : Nat) (i : Int), Kq .ret (ptsL.st ⟨false, ps, oc, m, i⟩)) ∧ (∀ (ps : List Value) (oc : List (Option Value)) (m : Nat) (i : Int), Kq .ret (ptsL.st ⟨true, ps, oc, m, i⟩))
theorem ptsT_ok {E : Env} (hP : E.P = Tryz.prog) (hW : E.weak = true) {base : World} : LoopOk E base ptsT := fun cq sq Kq ⟨L, c, h1, n, a, h2, h3, h4, h5⟩ => by
  refine loopR_ok (E := envW rulesSt []) hP hW (envW_ok (rulesSt_ok base)) (findL_ok (l := []) rfl fun _ h => nomatch h) (by kernel_rfl) (by kernel_rfl) (pts_rounds L c) ⟨h1, n, a, h2, fun x hx => ?_, fun x _ => ?_⟩
  · obtain ⟨b, ps, oc, m, i⟩ := x
    obtain ⟨⟨k1, k2⟩, ⟨k3, k6⟩, k4, k5⟩ := hx
    simp only at k1 k2 k3 k4 k5 k6
    cases b with
    | false => have := k5 rfl; omega
    | true =>
      obtain rfl : m = c := by omega
      exact h3 ps oc i k1 k2 k6
  · obtain ⟨b, ps, oc, m, i⟩ := x
    cases b with
    | false => exact h4 ps oc m i
    | true => exact h5 ps oc m i
def loopsPt : List ((Nat × Nat) × LoopW) := [((180, 6), ptsT)]
theorem loopsPt_ok {E : Env} (hP : E.P = Tryz.prog) (hW : E.weak = true) (base : World) : ∀ x ∈ loopsPt, LoopOk E base x.2 := List.forall_mem_cons.2 ⟨ptsT_ok hP hW, fun _ h => nomatch h⟩
theorem parts_tree (K : Value → Heap → Nat → Nat → Prop) (s : ByteArray) (k : Int) :
 funcK (envW rulesPt loopsPt) 30 180 [.string s, .int .i64 k] [] Tryz.prog.globals.size K =
 ((strLen s < 4294967281 ∧ 1 ≤ 1) ∧ ∀ (ps : List Value), StrsC (strLen s) ps → 1 ≤ List.length ps → List.length ps ≤ strLen s + 1 → bsel ((↑(List.length ps) : Int) != k) (K (.tuple (Array.mk [.slice none 0 0, .bool false])) [] 11 18446744073709551616) (∃ (x : Nat), ∃ (x_1 : Nat), Is (loopOf Go.Proofs.Tryz.prog 180 6) (loopOf Go.Proofs.Tryz.prog 180 6) ∧ ∃ (x_2 : Nat), ∃ (x_3 : ptsS), (ptsI x x_1 x_2 x_3 ∧ true = true ∧ LoopS.At ptsL x_3 true [.slice none 0 0, .bool false, .slice none 0 0, .slice (some (Addr.mk 10 0 none)) (List.length ps) (List.length ps), .int .i64 (Int.ofNat (List.length ps)), .int .i64 (Int.ofNat 0)] [(10, Blk.mk (List.map some ps) 9 true 0 none true)] 11 18446744073709551616 37 180 []) ∧ (∀ (ps : List Value) (oc : List (Option Value)) (i : Int), IntsC oc → List.length oc = x_1 → List.length ps = x_1 → K (.tuple (Array.mk [.slice (some (Addr.mk 31 0 none)) x_1 18446744073709551616, .bool true])) [(30, Blk.mk (List.map some ps) 9 true 0 none true), (31, Blk.mk oc 3 true 1 none true)] 32 10) ∧ (∀ (_ : List Value) (oc : List (Option Value)) (m : Nat) (i : Int), K (.tuple (Array.mk [.slice none 0 0, .bool false])) [] 32 10) ∧ ∀ (_ : List Value) (oc : List (Option Value)) (m : Nat) (i : Int), K (.tuple (Array.mk [.slice none 0 0, .bool false])) [] 32 10)) := by kernel_rfl
def partsV (m : Nat) (k : Nat) : Value := .tuple #[.slice (some ⟨k, 0, none⟩) m big, .bool true]
theorem partsV_ren (m : Nat) (μ κ μ' κ' : Nat → Nat) (k k' : Nat) (h1 : μ k = μ' k') (h2 : κ k = κ' k') : renV μ κ (partsV m k) = renV μ' κ' (partsV m k') := by
  have e : ∀ (μ κ : Nat → Nat) k, renV μ κ (partsV m k) = .tuple #[.slice (some ⟨μ k, 0, none⟩) m (κ k), .bool true] := fun μ κ k => by
    have hb : Nat.ble big big = true := by kernel_rfl
    simp [partsV, renV, renAd, renCap, hb]
  rw [e, e, h1, h2]
def partsK (k : Int) (u : Value) (h' : Heap) (n' mw : Nat) : Prop := Tryz.prog.globals.size ≤ mw ∧ (u = .tuple #[.slice none 0 0, .bool false] ∨ ∃ oc, IntsC oc ∧ (oc.length : Int) = k ∧ 1 ≤ oc.length ∧ u = partsV oc.length 31 ∧ getBlk h' 31 = some (intB oc) ∧ 31 < n')
theorem parts_sem {base : World} (B : Firm base) {s : ByteArray} (hs : strLen s ≤ 1048576) (k : Int) : TotA base 180 [.string s, .int .i64 k] (.tuple #[.slice none 0 0, .bool false]) ∨
    ∃ oc, IntsC oc ∧ (oc.length : Int) = k ∧ 1 ≤ oc.length ∧ ∀ E : Env, E.P = Tryz.prog → ∀ (h : Heap) (n : Nat), FuncSem E base 180 [.string s, .int .i64 k] h n (partsV oc.length n) ((n, intB oc) :: h) (n + 1) big := by
  have ha : ∀ x ∈ [Value.string s, Value.int .i64 k], pureV 6 x = true := List.forall_mem_cons.2 ⟨by kernel_rfl, List.forall_mem_cons.2 ⟨by kernel_rfl, fun _ h => nomatch h⟩⟩
  have hk : Hush (funcK (envW rulesPt loopsPt) 30 180 [.string s, .int .i64 k] [] Tryz.prog.globals.size (partsK k)) := by
    constructor
    rw [parts_tree]
    refine ⟨⟨by omega, Nat.le_refl _⟩, fun ps hS h1 h2 => bsel_of (fun _ => ⟨Nat.le_of_ble_eq_true (by kernel_rfl), .inl rfl⟩) (fun hc => ⟨strLen s, ps.length, ⟨rfl⟩, ps.length, ⟨false, ps, [], 0, 0⟩, ⟨⟨⟨hS, ⟨by show ps.length ≤ 1048577; omega, rfl⟩, h1⟩, ⟨(fun _ h => nomatch h), rfl⟩, ⟨rfl, Nat.zero_le _, fun _ => rfl⟩, rfl⟩, rfl, ?_⟩, fun ps' oc _ k1 k2 k3 => ⟨Nat.le_of_ble_eq_true (by kernel_rfl), .inr ⟨oc, k1, ?_, by omega, ?_, rfl, by decide⟩⟩, fun _ _ _ _ => ⟨Nat.le_of_ble_eq_true (by kernel_rfl), .inl rfl⟩, fun _ _ _ _ => ⟨Nat.le_of_ble_eq_true (by kernel_rfl), .inl rfl⟩⟩)⟩
    · exact LoopS.At.each [some 10] rfl (HIn.s rfl rfl hS.cells HIn.n) (by kernel_rfl) rfl (by kernel_rfl) rfl rfl rfl
    · simp only [bne_eq_false_iff_eq] at hc
      omega
    · rw [k2]
      rfl
  have hE := envW_ok (base := base) (loops := loopsPt) (rulesPt_ok B)
  obtain ⟨u, h', n', mw, ⟨hmw, hu⟩, hsem⟩ := funcK_hush hE (findL_ok rfl (loopsPt_ok rfl rfl base)) hk
  rcases hu with rfl | ⟨oc, q1, q2, q3, rfl, q4, q5⟩
  · exact .inl fun E hP h n => (hsem.anywhere hmw (by kernel_rfl) ha (hwf_empty _) (Nat.le_refl _) (Sub.nil h) n).env hP
  · exact .inr ⟨oc, q1, q2, q3, fun E hP h n => (FuncSem.give (partsV_ren oc.length) hsem hmw (Nat.le_of_ble_eq_true (by kernel_rfl)) q5 q4 rfl q1.pure ha (Nat.le_refl _) h n).env hP⟩
def ruleParts : Rule := fun args h n => match args with
  | [.string s, .int .i64 k] => some fun K => strLen s ≤ 1048576 ∧ ∀ (e : Bool) (oc : List (Option Value)), (e = true → IntsC oc ∧ (oc.length : Int) = k ∧ 1 ≤ oc.length) → bsel e (K (.tuple #[.slice (some ⟨n, 0, none⟩) oc.length big, .bool true]) ((n, intB oc) :: h) (n + 1) big) (K (.tuple #[.slice none 0 0, .bool false]) h n big)
  | _ => none
theorem parts_ok {base : World} (B : Firm base) : RuleOk Tryz.prog base 180 ruleParts := by
  intro E hE args h n T K hT hK
  unfold ruleParts at hT
  split at hT
  · rename_i s k
    cases hT
    obtain ⟨hs, hK⟩ := hK
    rcases parts_sem B hs k with ht | ⟨oc, q1, q2, q3, ht⟩
    · exact ⟨_, _, _, _, hK false [] (fun h => nomatch h), ht E hE h n⟩
    · exact ⟨_, _, _, _, hK true oc (fun _ => ⟨q1, q2, q3⟩), ht E hE h n⟩
  · cases hT
def rulesRt : List (Nat × Rule) := (180, ruleParts) :: (104, ruleCount1) :: (181, ruleCkof) :: (182, ruleCkat) :: (183, ruleLTime) :: rulesSt
theorem rulesRt_ok {base : World} (B : Firm base) : ∀ x ∈ rulesRt, RuleOk Tryz.prog base x.1 x.2 := List.forall_mem_cons.2 ⟨parts_ok B, List.forall_mem_cons.2 ⟨count1_ok, List.forall_mem_cons.2 ⟨ckof_ok, List.forall_mem_cons.2 ⟨ckat_ok, List.forall_mem_cons.2 ⟨lTime_ok B.begun, rulesSt_ok base⟩⟩⟩⟩⟩
theorem timeOk0 : timeOk 0 false 0 := ⟨by decide, by decide, by decide, by decide, fun _ => rfl⟩
def isRtime (u : Value) : Prop := ∃ (s o : Int) (z ok : Bool), u = .tuple #[timeC s z o, .bool ok] ∧ timeOk s z o
theorem isRtime_pure : ∀ v, isRtime v → pureV 6 v = true := fun v ⟨_, _, _, _, hv, _⟩ => by subst hv; kernel_rfl
theorem isRtime0 : isRtime (.tuple #[timeC 0 false 0, .bool false]) := ⟨_, _, _, _, rfl, timeOk0⟩
theorem isRtimeT {s o : Int} {z : Bool} (h : timeOk s z o) : isRtime (.tuple #[timeC s z o, .bool true]) := ⟨_, _, _, _, rfl, h⟩
theorem strEq_nilX {t : ByteArray} (h : strEq t ⟨#[]⟩ = false) : 1 ≤ strLen t := by
  unfold strEq at h
  unfold strLen
  cases hl : t.data.toList with
  | nil => rw [hl] at h; cases h
  | cons x l => exact Nat.succ_le_succ (Nat.zero_le _)
theorem noF {i n : Int} {P : Prop} (h : (decide ((0 : Int) ≤ i) && decide (i < n)) = false) (h0 : 0 ≤ i) (h1 : i < n) : P := by
  rw [decide_eq_true h0, decide_eq_true h1] at h
  cases h
theorem noL {i n : Int} {P : Prop} (h : (decide ((0 : Int) ≤ i) && decide (i ≤ n)) = false) (h0 : 0 ≤ i) (h1 : i ≤ n) : P := by
  rw [decide_eq_true h0, decide_eq_true h1] at h
  cases h
theorem ex_int {oc : List (Option Value)} {i : Nat} {P : Int → Prop} (h : IntsC oc) (hi : i < oc.length) (hP : ∀ x, P x) : ∃ x, cellIs oc i (.int .i64 x) ∧ P x := by
  obtain ⟨x, hx⟩ := h.get hi
  exact ⟨x, hx, hP x⟩
theorem rtime_hk_tree (K : Value → Nat → Prop) (s : ByteArray) :
 funcK (envW rulesRt []) 30 121 [.string s] tabs Tryz.prog.globals.size (fun u _ _ mw => K u mw) =
 (bsel (decide ((↑(strLen s) : Int) < (8 : Int))) (K (.tuple (Array.mk [.agg (Array.mk [.int .i64 (Int.ofNat 0), .bool false, .int .i64 (Int.ofNat 0)]), .bool false])) 10) (bsel (decide ((0 : Int) ≤ (8 : Int)) && decide ((8 : Int) ≤ (↑(strLen s) : Int))) (strLen (strCut s 0 8) ≤ 1048576 ∧ ∀ (e : Bool) (oc : List (Option Value)), (e = true → IntsC oc ∧ Int.ofNat (List.length oc) = Int.ofNat 3 ∧ 1 ≤ List.length oc) → bsel e (bsel (decide ((0 : Int) ≤ (0 : Int)) && decide ((0 : Int) < (↑(List.length oc) : Int))) (∃ (x : Int), cellIs oc 0 (Value.int .i64 x) ∧ bsel (decide ((0 : Int) ≤ (1 : Int)) && decide ((1 : Int) < (↑(List.length oc) : Int))) (∃ (x : Int), cellIs oc 1 (Value.int .i64 x) ∧ bsel (decide ((0 : Int) ≤ (2 : Int)) && decide ((2 : Int) < (↑(List.length oc) : Int))) (∃ (x : Int), cellIs oc 2 (Value.int .i64 x) ∧ True ∧ ∀ (x : Int) (ok : Bool), Int.ofNat 0 ≤ x → x < Int.ofNat 86400 → bsel ok (bsel (decide ((0 : Int) ≤ (8 : Int)) && decide ((8 : Int) ≤ (↑(strLen s) : Int))) (bsel (strEq (strCut s 8 (strLen s)) (ByteArray.mk #[])) (K (.tuple (Array.mk [.agg (Array.mk [.int .i64 x, .bool false, .int .i64 (Int.ofNat 0)]), .bool true])) 10) (bsel (strEq (strCut s 8 (strLen s)) (ByteArray.mk #[90])) (∀ (e : Bool), (e = true → timeOk x true (Int.ofNat 0)) → bsel e (K (.tuple (Array.mk [.agg (Array.mk [.int .i64 x, .bool true, .int .i64 (Int.ofNat 0)]), .bool true])) 10) (K (.tuple (Array.mk [.agg (Array.mk [.int .i64 (Int.ofNat 0), .bool false, .int .i64 (Int.ofNat 0)]), .bool false])) 10)) (bsel (decide ((0 : Int) ≤ (1 : Int)) && decide ((1 : Int) ≤ (↑(strLen (strCut s (Int.toNat (8 : Int)) (strLen s))) : Int))) (ByteArray.mk #[58] = ByteArray.mk #[58] ∧ ∀ (k : Nat), k ≤ strLen (strCut s 8 (strLen s)) → strLen (strCut (strCut s 8 (strLen s)) 1 (strLen (strCut s 8 (strLen s)))) ≤ 1048576 ∧ ∀ (e : Bool) (oc : List (Option Value)), (e = true → IntsC oc ∧ Int.ofNat (List.length oc) = IntKind.wrap .i64 ((↑k : Int) + (1 : Int)) ∧ 1 ≤ List.length oc) → bsel e (bsel (decide ((↑(List.length oc) : Int) < (2 : Int))) (K (.tuple (Array.mk [.agg (Array.mk [.int .i64 (Int.ofNat 0), .bool false, .int .i64 (Int.ofNat 0)]), .bool false])) 10) (bsel (decide ((0 : Int) ≤ (0 : Int)) && decide ((0 : Int) < (↑(List.length oc) : Int))) (∃ (x_1 : Int), cellIs oc 0 (Value.int .i64 x_1) ∧ bsel (decide ((0 : Int) ≤ (1 : Int)) && decide ((1 : Int) < (↑(List.length oc) : Int))) (∃ (x_2 : Int), cellIs oc 1 (Value.int .i64 x_2) ∧ bsel (decide ((↑(List.length oc) : Int) > (2 : Int))) (bsel (decide ((0 : Int) ≤ (2 : Int)) && decide ((2 : Int) < (↑(List.length oc) : Int))) (∃ (x_3 : Int), cellIs oc 2 (Value.int .i64 x_3) ∧ bsel (decide ((0 : Int) ≤ (0 : Int)) && decide ((0 : Int) < (↑(strLen (strCut s (Int.toNat (8 : Int)) (strLen s))) : Int))) (bsel ((↑(UInt8.toNat (byteAt (Array.toList (ByteArray.data (strCut s (Int.toNat (8 : Int)) (strLen s)))) (Int.toNat (0 : Int)))) : Int) == (45 : Int)) (∀ (e : Bool), (e = true → timeOk x true (IntKind.wrap .i64 ((0 : Int) - IntKind.wrap .i64 (IntKind.wrap .i64 (IntKind.wrap .i64 ((3600 : Int) * x_1) + IntKind.wrap .i64 ((60 : Int) * x_2)) + x_3)))) → bsel e (timeOk x true (IntKind.wrap .i64 ((0 : Int) - IntKind.wrap .i64 (IntKind.wrap .i64 (IntKind.wrap .i64 ((3600 : Int) * x_1) + IntKind.wrap .i64 ((60 : Int) * x_2)) + x_3))) ∧ ∀ (t : ByteArray), strLen t ≤ 200 → bsel (!strEq t s) (K (.tuple (Array.mk [.agg (Array.mk [.int .i64 (Int.ofNat 0), .bool false, .int .i64 (Int.ofNat 0)]), .bool false])) 10) (K (.tuple (Array.mk [.agg (Array.mk [.int .i64 x, .bool true, .int .i64 (IntKind.wrap .i64 ((0 : Int) - IntKind.wrap .i64 (IntKind.wrap .i64 (IntKind.wrap .i64 ((3600 : Int) * x_1) + IntKind.wrap .i64 ((60 : Int) * x_2)) + x_3)))]), .bool true])) 10)) (K (.tuple (Array.mk [.agg (Array.mk [.int .i64 (Int.ofNat 0), .bool false, .int .i64 (Int.ofNat 0)]), .bool false])) 10)) (∀ (e : Bool), (e = true → timeOk x true (IntKind.wrap .i64 (IntKind.wrap .i64 (IntKind.wrap .i64 ((3600 : Int) * x_1) + IntKind.wrap .i64 ((60 : Int) * x_2)) + x_3))) → bsel e (timeOk x true (IntKind.wrap .i64 (IntKind.wrap .i64 (IntKind.wrap .i64 ((3600 : Int) * x_1) + IntKind.wrap .i64 ((60 : Int) * x_2)) + x_3)) ∧ ∀ (t : ByteArray), strLen t ≤ 200 → bsel (!strEq t s) (K (.tuple (Array.mk [.agg (Array.mk [.int .i64 (Int.ofNat 0), .bool false, .int .i64 (Int.ofNat 0)]), .bool false])) 10) (K (.tuple (Array.mk [.agg (Array.mk [.int .i64 x, .bool true, .int .i64 (IntKind.wrap .i64 (IntKind.wrap .i64 (IntKind.wrap .i64 ((3600 : Int) * x_1) + IntKind.wrap .i64 ((60 : Int) * x_2)) + x_3))]), .bool true])) 10)) (K (.tuple (Array.mk [.agg (Array.mk [.int .i64 (Int.ofNat 0), .bool false, .int .i64 (Int.ofNat 0)]), .bool false])) 10))) False) False) (bsel (decide ((0 : Int) ≤ (0 : Int)) && decide ((0 : Int) < (↑(strLen (strCut s (Int.toNat (8 : Int)) (strLen s))) : Int))) (bsel ((↑(UInt8.toNat (byteAt (Array.toList (ByteArray.data (strCut s (Int.toNat (8 : Int)) (strLen s)))) (Int.toNat (0 : Int)))) : Int) == (45 : Int)) (∀ (e : Bool), (e = true → timeOk x true (IntKind.wrap .i64 ((0 : Int) - IntKind.wrap .i64 (IntKind.wrap .i64 ((3600 : Int) * x_1) + IntKind.wrap .i64 ((60 : Int) * x_2))))) → bsel e (timeOk x true (IntKind.wrap .i64 ((0 : Int) - IntKind.wrap .i64 (IntKind.wrap .i64 ((3600 : Int) * x_1) + IntKind.wrap .i64 ((60 : Int) * x_2)))) ∧ ∀ (t : ByteArray), strLen t ≤ 200 → bsel (!strEq t s) (K (.tuple (Array.mk [.agg (Array.mk [.int .i64 (Int.ofNat 0), .bool false, .int .i64 (Int.ofNat 0)]), .bool false])) 10) (K (.tuple (Array.mk [.agg (Array.mk [.int .i64 x, .bool true, .int .i64 (IntKind.wrap .i64 ((0 : Int) - IntKind.wrap .i64 (IntKind.wrap .i64 ((3600 : Int) * x_1) + IntKind.wrap .i64 ((60 : Int) * x_2))))]), .bool true])) 10)) (K (.tuple (Array.mk [.agg (Array.mk [.int .i64 (Int.ofNat 0), .bool false, .int .i64 (Int.ofNat 0)]), .bool false])) 10)) (∀ (e : Bool), (e = true → timeOk x true (IntKind.wrap .i64 (IntKind.wrap .i64 ((3600 : Int) * x_1) + IntKind.wrap .i64 ((60 : Int) * x_2)))) → bsel e (timeOk x true (IntKind.wrap .i64 (IntKind.wrap .i64 ((3600 : Int) * x_1) + IntKind.wrap .i64 ((60 : Int) * x_2))) ∧ ∀ (t : ByteArray), strLen t ≤ 200 → bsel (!strEq t s) (K (.tuple (Array.mk [.agg (Array.mk [.int .i64 (Int.ofNat 0), .bool false, .int .i64 (Int.ofNat 0)]), .bool false])) 10) (K (.tuple (Array.mk [.agg (Array.mk [.int .i64 x, .bool true, .int .i64 (IntKind.wrap .i64 (IntKind.wrap .i64 ((3600 : Int) * x_1) + IntKind.wrap .i64 ((60 : Int) * x_2)))]), .bool true])) 10)) (K (.tuple (Array.mk [.agg (Array.mk [.int .i64 (Int.ofNat 0), .bool false, .int .i64 (Int.ofNat 0)]), .bool false])) 10))) False)) False) False)) (K (.tuple (Array.mk [.agg (Array.mk [.int .i64 (Int.ofNat 0), .bool false, .int .i64 (Int.ofNat 0)]), .bool false])) 10)) False))) False) (bsel (decide ((0 : Int) ≤ (8 : Int)) && decide ((8 : Int) ≤ (↑(strLen s) : Int))) (K (.tuple (Array.mk [.agg (Array.mk [.int .i64 (Int.ofNat 0), .bool false, .int .i64 (Int.ofNat 0)]), .bool false])) 10) False)) False) False) False) (K (.tuple (Array.mk [.agg (Array.mk [.int .i64 (Int.ofNat 0), .bool false, .int .i64 (Int.ofNat 0)]), .bool false])) 10)) False)) := by kernel_rfl
theorem rtime_hk (s : ByteArray) (hs : strLen s ≤ 1048576) : ReckE (envW rulesRt []) 30 121 [.string s] (isRtime) := by
  constructor
  rw [rtime_hk_tree fun u mw => (isRtime) u ∧ Tryz.prog.globals.size ≤ mw]
  refine bsel_of (fun _ => ⟨isRtime0, Nat.le_of_ble_eq_true (by kernel_rfl)⟩) (fun h8 => bsel_of (fun _ => ⟨by rw [strLen_cutE]; omega, fun e oc hp => bsel_of (fun he => ?_) (fun _ => ⟨isRtime0, Nat.le_of_ble_eq_true (by kernel_rfl)⟩)⟩) (fun h => noL h (by decide) (by have := of_decide_eq_false h8; omega)))
  obtain ⟨hi, hl3, _⟩ := hp he
  have hl : (oc.length : Int) = 3 := hl3
  clear hl3
  clear hp he
  obtain ⟨a, ha⟩ := hi.get (i := 0) (by omega)
  obtain ⟨b, hb⟩ := hi.get (i := 1) (by omega)
  obtain ⟨c, hc⟩ := hi.get (i := 2) (by omega)
  refine bsel_of (fun _ => ⟨a, ha, bsel_of (fun _ => ⟨b, hb, bsel_of (fun _ => ⟨c, hc, trivial, fun x ok hx0 hx1 => ?_⟩) (fun h => noF h (by decide) (by omega))⟩) (fun h => noF h (by decide) (by omega))⟩) (fun h => noF h (by decide) (by omega))
  clear ha hb hc hi hl a b c
  have hx : timeOk x false 0 := ⟨hx0, hx1, by decide, by decide, fun _ => rfl⟩
  have h8' : 8 ≤ strLen s := by
    have := of_decide_eq_false h8
    omega
  refine bsel_of (fun _ => bsel_of (fun _ => bsel_of (fun _ => ⟨isRtimeT hx, Nat.le_of_ble_eq_true (by kernel_rfl)⟩) (fun hr => bsel_of (fun _ => fun e he => bsel_of (fun h => ⟨isRtimeT (he h), Nat.le_of_ble_eq_true (by kernel_rfl)⟩) (fun _ => ⟨isRtime0, Nat.le_of_ble_eq_true (by kernel_rfl)⟩)) (fun _ => ?_))) (fun h => noL h (by decide) (by omega))) (fun _ => bsel_of (fun _ => ⟨isRtime0, Nat.le_of_ble_eq_true (by kernel_rfl)⟩) (fun h => noL h (by decide) (by omega)))
  have hr1 := strEq_nilX hr
  clear hr h8
  refine bsel_of (fun _ => ⟨rfl, fun k _ => ⟨by rw [strLen_cutE, strLen_cutE]; omega, fun e oc hp => bsel_of (fun he => ?_) (fun _ => ⟨isRtime0, Nat.le_of_ble_eq_true (by kernel_rfl)⟩)⟩⟩) (fun h => noL h (by decide) (by have hq : 1 ≤ strLen (strCut s (Int.toNat 8) (strLen s)) := hr1; omega))
  obtain ⟨hi, _, hl⟩ := hp he
  clear hp he
  refine bsel_of (fun _ => ⟨isRtime0, Nat.le_of_ble_eq_true (by kernel_rfl)⟩) (fun h2' => ?_)
  have h2 := of_decide_eq_false h2'
  refine (bsel_of (fun _ => ex_int hi (by omega) fun u => bsel_of (fun _ => ex_int hi (by omega) fun v => bsel_of (fun h3 => bsel_of (fun _ => ex_int hi (by have := of_decide_eq_true h3; omega) fun z => ?_) (fun h => noF h (by decide) (by have := of_decide_eq_true h3; omega))) (fun _ => ?_)) (fun h => noF h (by decide) (by omega))) (fun h => noF h (by decide) (by omega)))
  all_goals (refine bsel_of (fun _ => ?_) (fun h => noF h (by decide) (by have hq : 1 ≤ strLen (strCut s (Int.toNat 8) (strLen s)) := hr1; omega)))
  all_goals (repeat' (first | exact ⟨isRtime0, Nat.le_of_ble_eq_true (by kernel_rfl)⟩ | exact ⟨isRtimeT (by (first | exact True.intro | assumption | exact rfl | (have h := ‹_ = true → timeOk _ _ _›; exact h (by assumption)))), Nat.le_of_ble_eq_true (by kernel_rfl)⟩ | refine bsel_of (fun _ => ?_) (fun _ => ?_) | refine And.intro (by (first | exact True.intro | assumption | exact rfl | (have h := ‹_ = true → timeOk _ _ _›; exact h (by assumption)))) ?_ | intro _))
end Go.Proofs.YthmogphlnjpakaaGreatDoor

namespace Go.Proofs.YthmogphlnjpakaaGreatDoor
open Go Go.Pe Go.RowKit
theorem rtime_tot {base : World} (B : Firm base) {s : ByteArray} (hs : strLen s ≤ 1048576) : ∃ (t o : Int) (z ok : Bool), timeOk t z o ∧ Tot base 121 [.string s] (.tuple #[timeC t z o, .bool ok]) := by
  obtain ⟨_, ⟨t, o, z, ok, rfl, h⟩, ht⟩ := tot_ofE (base := base) (envW_ok (rulesRt_ok B)) (findL_ok (l := []) rfl fun _ h => nomatch h) rfl (rtime_hk s hs) isRtime_pure (pure1 (by kernel_rfl))
  exact ⟨t, o, z, ok, h, ht⟩
def ruleRDate : Rule := rule1 fun args => match args with
  | [.string s] => some fun K => strLen s ≤ 1048576 ∧ ∀ (y m d : Int) (ok : Bool), (ok = true → dateOk y m d) → K (.tuple #[dateC y m d, .bool ok])
  | _ => none
def ruleRTime : Rule := rule1 fun args => match args with
  | [.string s] => some fun K => strLen s ≤ 1048576 ∧ ∀ (t o : Int) (z ok : Bool), timeOk t z o → K (.tuple #[timeC t z o, .bool ok])
  | _ => none
theorem rDate_ok {base : World} (B : Firm base) : RuleOk Tryz.prog base 118 ruleRDate := ruleOk_of fun args T K hT hK => by
  split at hT
  · cases hT
    obtain ⟨hs, hK⟩ := hK
    obtain ⟨y, m, d, ok, h, ht⟩ := rdate_tot B hs
    exact ⟨_, hK y m d ok h, ht⟩
  · cases hT
theorem rTime_ok {base : World} (B : Firm base) : RuleOk Tryz.prog base 121 ruleRTime := ruleOk_of fun args T K hT hK => by
  split at hT
  · cases hT
    obtain ⟨hs, hK⟩ := hK
    obtain ⟨t, o, z, ok, h, ht⟩ := rtime_tot B hs
    exact ⟨_, hK t o z ok h, ht⟩
  · cases hT
def rulesRm : List (Nat × Rule) := (118, ruleRDate) :: (121, ruleRTime) :: rulesSt
theorem rulesRm_ok {base : World} (B : Firm base) : ∀ x ∈ rulesRm, RuleOk Tryz.prog base x.1 x.2 := List.forall_mem_cons.2 ⟨rDate_ok B, List.forall_mem_cons.2 ⟨rTime_ok B, rulesSt_ok base⟩⟩
def isRmom (u : Value) : Prop := ∃ (y m d s o : Int) (z ok : Bool), u = .tuple #[momentC y m d s z o, .bool ok] ∧ (ok = true → dateOk y m d ∧ timeOk s z o) ∧ (ok = false → momentC y m d s z o = momentC 0 0 0 0 false 0)
theorem isRmom_pure : ∀ v, isRmom v → pureV 6 v = true := fun v ⟨_, _, _, _, _, _, _, hv, _⟩ => by subst hv; kernel_rfl
theorem isRmom0 : isRmom (.tuple #[momentC 0 0 0 0 false 0, .bool false]) := ⟨_, _, _, _, _, _, _, rfl, (fun (h : false = true) => nomatch h), fun _ => rfl⟩
theorem isRmomT {y m d s o : Int} {z : Bool} (h1 : dateOk y m d) (h2 : timeOk s z o) : isRmom (.tuple #[momentC y m d s z o, .bool true]) := ⟨_, _, _, _, _, _, _, rfl, fun _ => ⟨h1, h2⟩, fun (h : true = false) => nomatch h⟩
theorem rmom_hk_tree (K : Value → Nat → Prop) (s : ByteArray) :
 funcK (envW rulesRm []) 30 124 [.string s] tabs Tryz.prog.globals.size (fun u _ _ mw => K u mw) =
 ((strLen s ≤ 281474976710656 ∧ (ByteArray.mk #[84] = ByteArray.mk #[69] ∨ ByteArray.mk #[84] = ByteArray.mk #[46] ∨ ByteArray.mk #[84] = ByteArray.mk #[84])) ∧ ∀ (a b : ByteArray) (ok : Bool), strLen a ≤ strLen s → strLen b ≤ strLen s → bsel ok (strLen a ≤ 1048576 ∧ ∀ (y m d : Int) (ok : Bool), (ok = true → dateOk y m d) → bsel ok (strLen b ≤ 1048576 ∧ ∀ (t o : Int) (z ok : Bool), timeOk t z o → bsel ok (K (.tuple (Array.mk [.agg (Array.mk [.int .i64 y, .int .i64 m, .int .i64 d, .int .i64 t, .bool z, .int .i64 o]), .bool true])) 10) (K (.tuple (Array.mk [.agg (Array.mk [.int .i64 (Int.ofNat 0), .int .i64 (Int.ofNat 0), .int .i64 (Int.ofNat 0), .int .i64 (Int.ofNat 0), .bool false, .int .i64 (Int.ofNat 0)]), .bool false])) 10)) (strLen b ≤ 1048576 ∧ ∀ (t o : Int) (z ok : Bool), timeOk t z o → bsel ok (K (.tuple (Array.mk [.agg (Array.mk [.int .i64 (Int.ofNat 0), .int .i64 (Int.ofNat 0), .int .i64 (Int.ofNat 0), .int .i64 (Int.ofNat 0), .bool false, .int .i64 (Int.ofNat 0)]), .bool false])) 10) (K (.tuple (Array.mk [.agg (Array.mk [.int .i64 (Int.ofNat 0), .int .i64 (Int.ofNat 0), .int .i64 (Int.ofNat 0), .int .i64 (Int.ofNat 0), .bool false, .int .i64 (Int.ofNat 0)]), .bool false])) 10))) (strLen a ≤ 1048576 ∧ ∀ (y m d : Int) (ok : Bool), (ok = true → dateOk y m d) → bsel ok (strLen b ≤ 1048576 ∧ ∀ (t o : Int) (z ok : Bool), timeOk t z o → bsel ok (K (.tuple (Array.mk [.agg (Array.mk [.int .i64 (Int.ofNat 0), .int .i64 (Int.ofNat 0), .int .i64 (Int.ofNat 0), .int .i64 (Int.ofNat 0), .bool false, .int .i64 (Int.ofNat 0)]), .bool false])) 10) (K (.tuple (Array.mk [.agg (Array.mk [.int .i64 (Int.ofNat 0), .int .i64 (Int.ofNat 0), .int .i64 (Int.ofNat 0), .int .i64 (Int.ofNat 0), .bool false, .int .i64 (Int.ofNat 0)]), .bool false])) 10)) (strLen b ≤ 1048576 ∧ ∀ (t o : Int) (z ok : Bool), timeOk t z o → bsel ok (K (.tuple (Array.mk [.agg (Array.mk [.int .i64 (Int.ofNat 0), .int .i64 (Int.ofNat 0), .int .i64 (Int.ofNat 0), .int .i64 (Int.ofNat 0), .bool false, .int .i64 (Int.ofNat 0)]), .bool false])) 10) (K (.tuple (Array.mk [.agg (Array.mk [.int .i64 (Int.ofNat 0), .int .i64 (Int.ofNat 0), .int .i64 (Int.ofNat 0), .int .i64 (Int.ofNat 0), .bool false, .int .i64 (Int.ofNat 0)]), .bool false])) 10)))) := by kernel_rfl
theorem rmom_hk (s : ByteArray) (hs : strLen s ≤ 1048576) : ReckE (envW rulesRm []) 30 124 [.string s] (isRmom) := by
  constructor
  rw [rmom_hk_tree fun u mw => (isRmom) u ∧ Tryz.prog.globals.size ≤ mw]
  repeat' (first | exact ⟨isRmom0, Nat.le_of_ble_eq_true (by kernel_rfl)⟩ | exact ⟨isRmomT (by first | assumption | (have h := ‹_ = true → dateOk _ _ _›; exact h (by assumption))) (by assumption), Nat.le_of_ble_eq_true (by kernel_rfl)⟩ | refine bsel_of (fun _ => ?_) (fun _ => ?_) | refine And.intro (by (first | exact True.intro | assumption | omega | (refine And.intro (by omega) ?_; exact .inr (.inr rfl)))) ?_ | intro _)
theorem rmom_tot {base : World} (B : Firm base) {s : ByteArray} (hs : strLen s ≤ 1048576) : ∃ v, isRmom v ∧ Tot base 124 [.string s] v :=
  tot_ofE (base := base) (envW_ok (rulesRm_ok B)) (findL_ok (l := []) rfl fun _ h => nomatch h) rfl (rmom_hk s hs) isRmom_pure (pure1 (by kernel_rfl))
end Go.Proofs.YthmogphlnjpakaaGreatDoor
