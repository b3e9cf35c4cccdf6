/-
  slices.Index at names: where a name stands first.
-/
import Derived.Test.YtamkkkkonigglaaGreatDoorOa
import Derived.Test.YtamkkkkonigglaaGreatDoorProg
import Derived.WalkKit
import Derived.ProofKit
import Derived.Lib.Hide
import Derived.Outline
namespace Go.Proofs.YtamkkkkonigglaaGreatDoor
open Go Go.Ord Go.RowKit

theorem ret_int {k : IntKind} {a b : Int} (h : a = b) : Ending.returned (.int k a) = .returned (.int k b) := by rw [h]

set_option maxHeartbeats 400000 in
theorem index_any (b off cap : Nat) (N : List ByteArray) (t : ByteArray) (w : World) (hm : N.length ≤ 9223372036854775807) (hc : ∀ j, j < N.length → w.cell? ⟨b, off + j, none⟩ = some (.string (N.getD j ByteArray.empty))) :
    Calls Tryz.prog 27 #[.slice (some ⟨b, off, none⟩) N.length cap, .string t] w fun e w' => e = .returned (.int .i64 (fndAt N t 0)) ∧ w = w' := by
  go_enter Tryz.func27, Tryz.ntmps27
  go_wp2
  go_loop [8] (fun i => ∃ k : Nat, k ≤ N.length ∧ i = .int .i64 k ∧ fndAt N t 0 = fndAt N t k) (fun i => N.length - (intOf i).toNat)
  case atStart => exact ⟨0, Nat.zero_le _, rfl, rfl⟩
  case round =>
    obtain ⟨k, hk, rfl, hr⟩ := hrel
    have HR := Lib.hid hr
    clear hr
    by_cases hlt : k < N.length
    · have hst := fndAt_step N t k hlt
      have HS := Lib.hid hst
      clear hst
      obtain ⟨s, hs⟩ : ∃ s, s = N.getD k ByteArray.empty := ⟨_, rfl⟩
      have hcx : w.cell? ⟨b, off + k, none⟩ = some (.string s) := by rw [hs]; exact hc k hlt
      have HE := Lib.hid hs
      clear hs hc
      go_wp2
      · have h := same_of (by assumption)
        go_ret
        exact ⟨ret_int (by rw [HR.out, HS.out, if_pos (HE.out ▸ h)]), rfl⟩
      · have h := apart_of (by assumption)
        go_round
        case rel => exact ⟨k + 1, by omega, by go_num, by rw [HR.out, HS.out, if_neg (HE.out ▸ h)]⟩
        case measure => simp [intOf]; omega
    · have he : k = N.length := by omega
      subst he
      have HX := Lib.hid (fndAt_end N t)
      clear hc
      go_wp2
      go_ret
      exact ⟨ret_int (by rw [HR.out, HX.out]), rfl⟩
end Go.Proofs.YtamkkkkonigglaaGreatDoor
