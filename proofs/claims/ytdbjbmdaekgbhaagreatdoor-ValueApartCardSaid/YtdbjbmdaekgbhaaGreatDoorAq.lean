/-
  ValueApart: its run, whatever is handed in.
-/
import Derived.Test.YtdbjbmdaekgbhaaGreatDoorAp
import Derived.Test.YtdbjbmdaekgbhaaGreatDoorVs
import Derived.Test.YtdbjbmdaekgbhaaGreatDoorLv
import Derived.Test.YtdbjbmdaekgbhaaGreatDoorFo
namespace Go.Proofs.YtdbjbmdaekgbhaaGreatDoor
open Go Go.Pe Go.RowKit

theorem listEq_self : ∀ l : List UInt8, listEq l l = true := by
  intro l
  induction l with
  | nil => rfl
  | cons x l ih =>
    unfold listEq
    rw [Nat.beq_refl]
    exact ih
theorem listEq_more : ∀ (l : List UInt8) (c : UInt8), listEq (l ++ [c]) l = false := by
  intro l
  induction l with
  | nil => intro c; rfl
  | cons x l ih =>
    intro c
    show (match Nat.beq x.toNat x.toNat with | true => listEq (l ++ [c]) l | false => false) = false
    rw [Nat.beq_refl]
    exact ih c

theorem momT (base : World) (y m d s o : Int) (z : Bool) (hd : dateOk y m d) (ht : timeOk s z o) : Tot base 36 [momentC y m d s z o] (momentV y m d s z o) := by
  obtain ⟨v, hv, tv⟩ := tot_ofE (base := base) (env_ok (rulesV1_ok base)) env_loops rfl (vmomentD_hk y m d s o z) (isV_pure (by kernel_rfl)) (pure1 (by kernel_rfl))
  rcases hv with ⟨_, rfl⟩ | ⟨hn, _⟩
  · exact tv
  · exact absurd ⟨hd, ht⟩ hn

/-- The law's run. -/
theorem apart_law {base : World} (B : Begun base) (hE : ErrAt base) (hU : Utf8At base) (a1 a2 a3 a4 a5 h0 l0 e0 : Int) (a6 n0 : Bool) (hh : u64 h0) (hl : u64 l0) (name : ByteArray) (hs : name.size ≤ 140737488351232) :
    ∃ E : Env, EnvOk E base ∧ LoopsOk E base ∧ E.P = Tryz.prog ∧ ReckE E 30 7 [rawC a1 a2 a3 a4 a5 a6, decC n0 h0 l0 e0, .string name] (· = .bool true) := by
  obtain ⟨v, ⟨y, m, d, s, z, o, rfl, hd, ht⟩, hv⟩ := make_tot base a1 a2 a3 a4 a5 a6
  obtain ⟨n, h, l, e, hdec, hmk⟩ := dmake_tot (base := base) n0 e0 hh hl
  have hnum := numT base n h l e (dmay_tot hdec).tot
  have hmom := momT base y m d s o z hd ht
  have haw : Tot base 45 [] (.bool true) := awake11_tot B (by kernel_rfl) hE
  have hlow := B.low
  have e1 : (strCat name ⟨#[120]⟩).data.toList = name.data.toList ++ [120] := by simp [strCat]
  have hsz : (strCat name ⟨#[120]⟩).size = name.size + 1 := by
    show (strCat name ⟨#[120]⟩).data.size = _
    rw [← Array.length_toList, e1, List.length_append, Array.length_toList]
    rfl
  have hv1 := valid_tot hlow hU name (by omega)
  have hv2 := valid_tot hlow hU (strCat name ⟨#[120]⟩) (by omega)
  have hlen : strLen name = name.size := by
    show name.data.toList.length = name.data.size
    rw [Array.length_toList]
  have hr : ∀ b, ∀ x ∈ rulesAp base b (rawC a1 a2 a3 a4 a5 a6) (decC n0 h0 l0 e0) n h l e y m d s o z, RuleOk Tryz.prog base x.1 x.2 := fun b =>
    List.forall_mem_cons.2 ⟨ruleOk_at haw, List.forall_mem_cons.2 ⟨ruleOk_at hv, List.forall_mem_cons.2 ⟨ruleOk_at hmk.tot, List.forall_mem_cons.2 ⟨ruleOk_at hnum, List.forall_mem_cons.2 ⟨ruleOk_at hmom, List.forall_mem_cons.2 ⟨val_ok, rules1_ok base⟩⟩⟩⟩⟩⟩
  have q1 : strEq (strCat name ⟨#[120]⟩) name = false := by
    unfold strEq
    rw [e1]
    exact listEq_more _ _
  have q2 : strEq name name = true := listEq_self _
  cases hb : Lib.validD name.data.toList with
  | true =>
    refine ⟨_, envC_ok (hr true), envC_loops, rfl, ?_⟩
    rw [hb] at hv1
    rw [e1, valid_more 120 (by decide) _ _ (Nat.le_refl _) hb] at hv2
    constructor
    rw [apart_t (fun u mw => u = .bool true ∧ Tryz.prog.globals.size ≤ mw)]
    refine ⟨rfl, rfl, rfl, rfl, rfl, bsel_of (fun _ => ⟨hv1, ?_⟩) (fun hb => ?_)⟩
    · rw [q1, q2]
      exact ⟨hv2, rfl, Nat.le_of_ble_eq_true (by kernel_rfl)⟩
    · have := ble_false hb
      omega
  | false =>
    refine ⟨_, envC_ok (hr false), envC_loops, rfl, ?_⟩
    rw [hb] at hv1
    constructor
    rw [apart_f (fun u mw => u = .bool true ∧ Tryz.prog.globals.size ≤ mw)]
    refine ⟨rfl, rfl, rfl, rfl, rfl, bsel_of (fun _ => ⟨hv1, hv1, rfl, Nat.le_of_ble_eq_true (by kernel_rfl)⟩) (fun hb => ?_)⟩
    have := ble_false hb
    omega

theorem apart_calls {W : World} (hs : W.ShapedOpen Tryz.prog) (hT : Lib.TabIs Tryz.prog W "internal/strconv.uint64pow10" .u64 pow10s) (hE : ErrAt W) (hU : Utf8At W) (a1 a2 a3 a4 a5 h0 l0 e0 : Int) (a6 n0 : Bool) (hh : u64 h0) (hl : u64 l0) (name : ByteArray) (hn : name.size ≤ 140737488351232) :
    Calls Tryz.prog 7 #[rawC a1 a2 a3 a4 a5 a6, decC n0 h0 l0 e0, .string name] W fun e w' => e = .returned (.bool true) ∧ Below W.heap.size W w' := by
  obtain ⟨E, q1, q2, q3, q4⟩ := apart_law (begun_of hs hT) hE hU a1 a2 a3 a4 a5 h0 l0 e0 a6 n0 hh hl name hn
  exact law_calls hs hT q1 q2 q3 Tryz.func7 (by kernel_rfl) (args := [rawC a1 a2 a3 a4 a5 a6, decC n0 h0 l0 e0, .string name]) (List.forall_mem_cons.2 ⟨by kernel_rfl, List.forall_mem_cons.2 ⟨by kernel_rfl, List.forall_mem_cons.2 ⟨by kernel_rfl, fun _ h => nomatch h⟩⟩⟩) q4

end Go.Proofs.YtdbjbmdaekgbhaaGreatDoor
