/-
  CheckOrders: the plain law (lists of names; no program in sight).
-/
import Derived.WalkKit
import Derived.Lib.Strings
namespace Go.Ord

/-- Where a name stands first from a place on; -1: nowhere. -/
def fnd : List ByteArray → ByteArray → Nat → Int
  | [], _, _ => -1
  | x :: l, t, j => if x = t then (j : Int) else fnd l t (j + 1)
def fndAt (N : List ByteArray) (t : ByteArray) (j : Nat) : Int := fnd (N.drop j) t j
theorem fndAt_end (N : List ByteArray) (t : ByteArray) : fndAt N t N.length = -1 := by
  unfold fndAt
  rw [List.drop_length]
  rfl
theorem fndAt_step (N : List ByteArray) (t : ByteArray) (j : Nat) (h : j < N.length) : fndAt N t j = if N.getD j ByteArray.empty = t then (j : Int) else fndAt N t (j + 1) := by
  unfold fndAt
  rw [List.drop_eq_getElem_cons h]
  have e : N.getD j ByteArray.empty = N[j] := by simp [List.getD, List.getElem?_eq_getElem h]
  rw [e]
  rfl
theorem fnd_bd : ∀ (l : List ByteArray) (t : ByteArray) (j : Nat), -1 ≤ fnd l t j ∧ fnd l t j < (j : Int) + l.length := by
  intro l
  induction l with
  | nil => intro t j; simp [fnd]; omega
  | cons x l ih =>
    intro t j
    unfold fnd
    split
    · simp only [List.length_cons]
      omega
    · have := ih t (j + 1)
      simp only [List.length_cons]
      omega
theorem fndAt_bd (N : List ByteArray) (t : ByteArray) (j : Nat) (h : j ≤ N.length) : -1 ≤ fndAt N t j ∧ fndAt N t j < N.length := by
  have := fnd_bd (N.drop j) t j
  rw [List.length_drop] at this
  unfold fndAt
  omega
/-- The places of some names, up to the first that is none's. -/
def wantL (N : List ByteArray) : List ByteArray → List Int
  | [] => []
  | t :: T => if fndAt N t 0 < 0 then [] else fndAt N t 0 :: wantL N T
theorem drop_cons (T : List ByteArray) (k : Nat) (h : k < T.length) : T.drop k = T.getD k ByteArray.empty :: T.drop (k + 1) := by
  rw [List.drop_eq_getElem_cons h]
  simp [List.getD, List.getElem?_eq_getElem h]
theorem want_hit (N T : List ByteArray) (P : List Int) (k : Nat) (h : k < T.length) (hf : 0 ≤ fndAt N (T.getD k ByteArray.empty) 0) (hP : wantL N T = P ++ wantL N (T.drop k)) :
    wantL N T = (P ++ [fndAt N (T.getD k ByteArray.empty) 0]) ++ wantL N (T.drop (k + 1)) := by
  rw [hP, drop_cons T k h]
  rw [show wantL N (T.getD k ByteArray.empty :: T.drop (k + 1)) = fndAt N (T.getD k ByteArray.empty) 0 :: wantL N (T.drop (k + 1)) from by rw [wantL, if_neg (by omega)]]
  simp
theorem want_miss (N T : List ByteArray) (P : List Int) (k : Nat) (h : k < T.length) (hf : fndAt N (T.getD k ByteArray.empty) 0 < 0) (hP : wantL N T = P ++ wantL N (T.drop k)) :
    wantL N T = P := by
  rw [hP, drop_cons T k h]
  rw [show wantL N (T.getD k ByteArray.empty :: T.drop (k + 1)) = [] from by rw [wantL, if_pos hf]]
  simp
theorem want_end (N T : List ByteArray) (P : List Int) (hP : wantL N T = P ++ wantL N (T.drop T.length)) : wantL N T = P := by
  rw [hP, List.drop_length]
  simp [wantL]
theorem same_of {t s : ByteArray} (h : (t.toList == s.toList) = true) : s = t := by
  rw [Lib.toList_data, Lib.toList_data, beq_iff_eq] at h
  exact (ByteArray.ext (Array.toList_inj.1 h)).symm
theorem apart_of {t s : ByteArray} (h : (t.toList == s.toList) = false) : s ≠ t := by
  rintro rfl
  rw [beq_self_eq_true] at h
  cases h
end Go.Ord
