/-
  slices.Clip.
-/
import Derived.Test.YtamkkkkonigglaaGreatDoorCa
import Derived.WalkKit
import Derived.ProofKit
namespace Go.Proofs.YtamkkkkonigglaaGreatDoor
open Go Go.Pe Go.RowKit

theorem clip_calls (w : World) (a : Option Addr) (n c : Nat) (h : n ≤ c) : Calls Tryz.prog 127 #[.slice a n c] w fun e w' => e = .returned (.slice a n n) ∧ w' = w := by
  go_enter Tryz.func127, Tryz.ntmps127
  go_wp2
  all_goals go_ret
  all_goals exact ⟨rfl, rfl⟩
def clipOk (h : Heap) (b len cap : Nat) : Bool := match Nat.blt len big, Nat.ble big cap with
  | true, false => Nat.ble len cap
  | true, true => (match getBlk h b with
    | some x => Nat.beq cap big && (x.iter.isNone && (Nat.blt 0 x.room && Nat.ble (len * x.room) x.cells.length))
    | none => false)
  | _, _ => false
def ruleClip : Rule := fun args h n => match args with
  | [.slice none 0 0] => some fun K => K (.slice none 0 0) h n big
  | [.slice (some ⟨b, 0, none⟩) len cap] => (match clipOk h b len cap with | true => some fun K => K (.slice (some ⟨b, 0, none⟩) len len) h n big | false => none)
  | _ => none
theorem clip_ok {base : World} : RuleOk Tryz.prog base 127 ruleClip := by
  intro E hE args h n T K hT hK
  have hn : ∀ (args : Array Value) w, (callFunc 127 args).run E.P w = .ok (.enter 127 args) w := fun args w => by
    rw [hE]
    exact (env_ok (rules := []) (base := base) (fun _ h => by cases h)).enter _ _ Tryz.func127 (by kernel_rfl) args w
  unfold ruleClip at hT
  split at hT
  · cases hT
    refine ⟨_, _, _, _, hK, FuncSem.ofCalls (fun μ κ w _ => ⟨hn _ _, ?_⟩) (fun D _ _ => WF.pure (d := 6) (by kernel_rfl)) n⟩
    rw [hE]
    exact (clip_calls w none 0 0 (Nat.le_refl _)).mono fun e w' ⟨h1, h2⟩ => ⟨h1, h2 ▸ Below.refl _ _⟩
  · rename_i b len cap
    split at hT
    · rename_i hc
      cases hT
      refine ⟨_, _, _, _, hK, FuncSem.ofCalls (fun μ κ w hr => ⟨hn _ _, ?_⟩) (fun D hx _ => WF.slc.2 (WF.slc.1 (hx _ (List.mem_singleton.2 rfl)))) n⟩
      rw [hE]
      have key : len < big ∧ len ≤ renCap κ b cap := by
        unfold clipOk at hc
        split at hc
        · rename_i h1 h2
          refine ⟨by simpa [Nat.blt_eq] using h1, ?_⟩
          unfold renCap
          rw [h2]
          exact Nat.le_of_ble_eq_true hc
        · rename_i h1 h2
          split at hc
          · rename_i x hx
            simp only [Bool.and_eq_true] at hc
            obtain ⟨c1, c2, c3, c4⟩ := hc
            refine ⟨by simpa [Nat.blt_eq] using h1, ?_⟩
            unfold renCap
            rw [h2, beq_true c1]
            have hi : x.iter = none := by simpa using c2
            obtain ⟨c, e, fr, k1, k2, k3, k4, k5, k6⟩ := (hr.blk b x hx).cells_some hi
            have hpos : 0 < x.room := by simpa [Nat.blt_eq] using c3
            have h5 := k5 (by omega)
            have h6 := Nat.le_of_ble_eq_true c4
            rw [h5] at k3
            show len ≤ κ b - (big - big)
            rw [Nat.sub_self, Nat.sub_zero]
            exact Nat.le_of_mul_le_mul_right (Nat.le_trans h6 k3) hpos
          · cases hc
        · cases hc
      have hcap : renCap κ b len = len := by
        unfold renCap
        cases hbl : Nat.ble big len
        · rfl
        · exact absurd (Nat.le_of_ble_eq_true hbl) (by omega)
      refine (clip_calls w (some (renAd μ ⟨b, 0, none⟩)) len (renCap κ b cap) key.2).mono fun e w' ⟨h1, h2⟩ => ⟨?_, h2 ▸ Below.refl _ _⟩
      rw [h1, renV_slice_some, hcap]
    · cases hT
  · cases hT
def rulesX : List (Nat × Rule) := (127, ruleClip) :: rulesF
theorem rulesX_ok (base : World) : ∀ x ∈ rulesX, RuleOk Tryz.prog base x.1 x.2 := List.forall_mem_cons.2 ⟨clip_ok, rulesF_ok base⟩
end Go.Proofs.YtamkkkkonigglaaGreatDoor
