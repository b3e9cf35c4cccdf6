/-
  Texts: one more byte below 128 keeps a text UTF-8; a text with a byte more is another one.
-/
import Derived.Lib.ValidLaws
import Derived.Test.YtdbjbmdaekgbhaaGreatDoorPeA
namespace Go.Pe
open Go Go.Lib

theorem getD_append_lt {l r : List UInt8} {k : Nat} (h : k < l.length) : (l ++ r).getD k 0 = l.getD k 0 := by
  simp only [List.getD_eq_getElem?_getD]
  rw [List.getElem?_append_left h]

theorem decode_more (l : List UInt8) (hne : l ≠ []) (c : UInt8) (hc : c.toNat < 128) : decodeL (l ++ [c]) = decodeL l := by
  have hl : 0 < l.length := List.length_pos_iff.2 hne
  rw [decodeL_N, decodeL_N]
  have key : ∀ k, (k < l.length + 1 ∧ ((l ++ [c]).getD k 0).toNat / 64 = 2) = (k < l.length ∧ (l.getD k 0).toNat / 64 = 2) := by
    intro k
    apply propext
    constructor
    · rintro ⟨h1, h2⟩
      by_cases h : k < l.length
      · rw [getD_append_lt h] at h2
        exact ⟨h, h2⟩
      · have e : k = l.length := by omega
        subst e
        exfalso
        have : (l ++ [c]).getD l.length 0 = c := by simp [List.getD_eq_getElem?_getD]
        rw [this] at h2
        omega
    · rintro ⟨h1, h2⟩
      exact ⟨by omega, by rw [getD_append_lt h1]; exact h2⟩
  have keyv : ∀ k, k < l.length → ((l ++ [c]).getD k 0).toNat = (l.getD k 0).toNat := fun k h => by rw [getD_append_lt h]
  have e0 := keyv 0 hl
  unfold decodeN
  simp only [List.length_append, List.length_singleton, e0, key]
  by_cases c1 : 1 < l.length ∧ (l.getD 1 0).toNat / 64 = 2
  · by_cases c2 : 2 < l.length ∧ (l.getD 2 0).toNat / 64 = 2
    · by_cases c3 : 3 < l.length ∧ (l.getD 3 0).toNat / 64 = 2
      · rw [keyv 1 c1.1, keyv 2 c2.1, keyv 3 c3.1]
      · rw [keyv 1 c1.1, keyv 2 c2.1]
        simp only [c3, and_false, if_false]
    · rw [keyv 1 c1.1]
      simp only [c2, and_false, false_and, if_false]
  · simp only [c1, and_false, false_and, if_false]

theorem valid_more (c : UInt8) (hc : c.toNat < 128) : ∀ (n : Nat) (l : List UInt8), l.length ≤ n → validD l = true → validD (l ++ [c]) = true := by
  have h0 : validD [c] = true := by
    rw [validD_cons c [] hc]
    rfl
  intro n
  induction n with
  | zero =>
    intro l hl _
    have : l = [] := List.eq_nil_of_length_eq_zero (by omega)
    subst this
    exact h0
  | succ n ih =>
    intro l hl hv
    by_cases hne : l = []
    · subst hne; exact h0
    · have hw := decodeL_width l
      have hle := decodeL_le l hne
      rw [validD_step l hne] at hv
      rw [validD_step (l ++ [c]) (by simp), decode_more l hne c hc]
      split
      · rename_i h
        rw [if_pos h] at hv
        exact hv
      · rename_i h
        rw [if_neg h] at hv
        rw [List.drop_append_of_le_length hle]
        exact ih _ (by rw [List.length_drop]; omega) hv

end Go.Pe
