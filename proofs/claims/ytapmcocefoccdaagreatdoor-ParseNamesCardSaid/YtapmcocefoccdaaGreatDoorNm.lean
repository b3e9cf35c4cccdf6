/-
  The law ParseNames: what is asked of two words, and its run out of that.
-/
import Derived.Test.YtapmcocefoccdaaGreatDoorNl
import Derived.Test.YtapmcocefoccdaaGreatDoorKe0
namespace Go.Proofs.YtapmcocefoccdaaGreatDoor
open Go Go.Pe Go.RowKit

abbrev wCells : List (Option Value) := [some (.string ⟨#[120]⟩), some (.string ⟨#[121, 49]⟩), some (.string ⟨#[122, 95]⟩), some (.string ⟨#[112, 114, 105, 99, 101]⟩), some (.string ⟨#[99, 97, 102, 195, 169]⟩), some (.string ⟨#[98, 50]⟩)]
def wAt (i : Nat) : ByteArray := strAt wCells i

theorem len_w : ∀ i, i < 6 → strLen (wAt i) ≤ 5
  | 0, _ => Nat.le_of_ble_eq_true rfl
  | 1, _ => Nat.le_of_ble_eq_true rfl
  | 2, _ => Nat.le_of_ble_eq_true rfl
  | 3, _ => Nat.le_of_ble_eq_true rfl
  | 4, _ => Nat.le_of_ble_eq_true rfl
  | 5, _ => Nat.le_of_ble_eq_true rfl
  | n + 6, h => absurd h (by omega)

/-- What is asked of two words. -/
structure NameOk (base : World) (a b : ByteArray) : Prop where
  n1 : TotS base 11 [.string (strCat (strCat (a) (⟨#[32]⟩)) b), .string (strCat (strCat (a) (⟨#[32]⟩)) b)] [a, strCat (strCat (a) (⟨#[32]⟩)) b] (.bool true)
  n2 : TotS base 11 [.string (strCat (strCat (a) (⟨#[32, 43, 32]⟩)) (strCat (strCat (a) (⟨#[32]⟩)) b)), .string (strCat (strCat (strCat (strCat (⟨#[40]⟩) a) (⟨#[41, 32, 43, 32, 40]⟩)) (strCat (strCat (a) (⟨#[32]⟩)) b)) (⟨#[41]⟩))] [a, strCat (strCat (a) (⟨#[32]⟩)) b] (.bool true)
  n3 : TotP base 11 [.string (strCat (strCat (⟨#[114, 46]⟩) (strCat (strCat (a) (⟨#[32]⟩)) b)) (⟨#[32, 43, 32, 49]⟩)), .string (strCat (strCat (⟨#[40, 114, 41, 46]⟩) (strCat (strCat (a) (⟨#[32]⟩)) b)) (⟨#[32, 43, 32, 49]⟩)), .slice none 0 0] (.bool true)
  n4 : TotS base 11 [.string (strCat (strCat (a) (⟨#[43]⟩)) b), .string (strCat (strCat (a) (⟨#[43]⟩)) b)] [strCat (strCat (a) (⟨#[43]⟩)) b] (.bool true)
  n5 : TotS base 10 [.string (strCat (strCat (a) (⟨#[32]⟩)) b)] [a, b] failV
  n6 : TotP base 11 [.string (strCat (strCat (a) (⟨#[43]⟩)) b), .string (strCat (strCat (strCat (strCat (⟨#[40]⟩) a) (⟨#[41, 32, 43, 32, 40]⟩)) b) (⟨#[41]⟩)), .slice none 0 0] (.bool true)
  n7 : TotP base 11 [.string (strCat (strCat (strCat (strCat (⟨#[123]⟩) (strCat (strCat (a) (⟨#[32]⟩)) b)) (⟨#[58, 32, 49, 44, 32, 107, 58, 32]⟩)) (strCat (strCat (a) (⟨#[32]⟩)) b)) (⟨#[125]⟩)), .string (strCat (strCat (strCat (strCat (⟨#[123, 34]⟩) (strCat (strCat (a) (⟨#[32]⟩)) b)) (⟨#[34, 58, 32, 49, 44, 32, 34, 107, 34, 58, 32]⟩)) (strCat (strCat (a) (⟨#[32]⟩)) b)) (⟨#[125]⟩)), .slice none 0 0] (.bool true)
  n8 : TotP base 11 [.string (strCat (strCat (strCat (⟨#[102, 111, 114, 32]⟩) (strCat (strCat (a) (⟨#[32]⟩)) b)) (⟨#[32, 105, 110, 32, 91, 49, 93, 32, 114, 101, 116, 117, 114, 110, 32]⟩)) (strCat (strCat (a) (⟨#[32]⟩)) b)), .string (strCat (strCat (strCat (strCat (⟨#[102, 111, 114, 32]⟩) (strCat (strCat (a) (⟨#[32]⟩)) b)) (⟨#[32, 105, 110, 32, 91, 49, 93, 32, 114, 101, 116, 117, 114, 110, 32, 40]⟩)) (strCat (strCat (a) (⟨#[32]⟩)) b)) (⟨#[41]⟩)), .slice none 0 0] (.bool true)

theorem w_at (p : Int) (h0 : 0 ≤ p) : strAt wCells (0 + Int.toNat (Int.tmod p 6) * 1) = wAt (p.toNat % 6) := by
  have e : Int.tmod p 6 = ((p.toNat % 6 : Nat) : Int) := by
    rw [Int.tmod_eq_emod_of_nonneg h0]
    omega
  rw [e]
  have : 0 + Int.toNat ((p.toNat % 6 : Nat) : Int) * 1 = p.toNat % 6 := by omega
  rw [this]
  rfl

set_option maxHeartbeats 4000000 in
theorem names_law {base : World} (A : AtP base) (H : ∀ i, i < 6 → ∀ j, j < 6 → NameOk base (wAt i) (wAt j)) (p q : Int) (b : Bool) (hp : 0 ≤ p) (hq : 0 ≤ q) :
    Run0 (envPN base strAt) 30 4 [.int .u8 p, .int .u8 q, .bool b] := by
  constructor
  rw [names_tree (fun u mw => u = .bool true ∧ Tryz.prog.globals.size ≤ mw) base strAt p q b]
  have ip : p.toNat % 6 < 6 := Nat.mod_lt _ (by decide)
  have iq : q.toNat % 6 < 6 := Nat.mod_lt _ (by decide)
  have ep : Int.tmod p 6 = ((p.toNat % 6 : Nat) : Int) := by
    rw [Int.tmod_eq_emod_of_nonneg hp]
    omega
  have eq : Int.tmod q 6 = ((q.toNat % 6 : Nat) : Int) := by
    rw [Int.tmod_eq_emod_of_nonneg hq]
    omega
  have Hn := H _ ip _ iq
  have la := len_w _ ip
  have lb := len_w _ iq
  rw [w_at p hp, w_at q hq]
  refine ⟨awake19 A, ?_⟩
  refine bsel_t (by rw [ep]; simp only [Bool.and_eq_true, decide_eq_true_eq]; omega) (bsel_t (by rw [ep]; simp only [Nat.blt_eq]; omega) (bsel_t (by rw [eq]; simp only [Bool.and_eq_true, decide_eq_true_eq]; omega) (bsel_t (by rw [eq]; simp only [Nat.blt_eq]; omega) ?_)))
  clear A H
  generalize wAt (p.toNat % 6) = x at *
  generalize wAt (q.toNat % 6) = y at *
  have hfin : ∀ mw, Nat.ble 10 mw = true → Value.bool true = Value.bool true ∧ Tryz.prog.globals.size ≤ mw := fun mw h => ⟨rfl, Nat.le_trans (Nat.le_of_ble_eq_true (by kernel_rfl)) (Nat.le_of_ble_eq_true h)⟩
  repeat' (first
    | exact hfin _ rfl
    | exact Hn.n1
    | exact Hn.n2
    | exact Hn.n3
    | exact Hn.n4
    | exact Hn.n5
    | exact Hn.n6
    | exact Hn.n7
    | exact Hn.n8
    | (refine bsel_t (Nat.ble_eq_true_of_le (by first | omega | (simp only [strLen_cat, strLen_arr, List.length_cons, List.length_nil]; omega))) ?_)
    | (refine bsel_of (fun hb => ?_) (fun hb => ?_))
    | (refine And.intro ?_ ?_))

end Go.Proofs.YtapmcocefoccdaaGreatDoor
