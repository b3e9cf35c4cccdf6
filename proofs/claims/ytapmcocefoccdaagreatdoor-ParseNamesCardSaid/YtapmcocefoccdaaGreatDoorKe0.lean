/-
  The law ParseOperators: what is asked of operators, and its run out of that.
-/
import Derived.Test.YtapmcocefoccdaaGreatDoorKl
import Derived.Test.YtapmcocefoccdaaGreatDoorKd
import Derived.Test.YtapmcocefoccdaaGreatDoorQf
namespace Go.Proofs.YtapmcocefoccdaaGreatDoor
open Go Go.Pe Go.RowKit

theorem strLen_cat (a b : ByteArray) : strLen (strCat a b) = strLen a + strLen b := by simp [strLen, strCat]
theorem strLen_arr (l : List UInt8) : strLen (ByteArray.mk l.toArray) = l.length := by simp [strLen]
theorem bsel_t {b : Bool} {t f : Prop} (h : b = true) (ht : t) : bsel b t f := by rw [h]; exact ht

def opCells : List (Option Value) := [some (.string ⟨#[111, 114]⟩), some (.string ⟨#[97, 110, 100]⟩), some (.string ⟨#[61]⟩), some (.string ⟨#[33, 61]⟩), some (.string ⟨#[60]⟩), some (.string ⟨#[60, 61]⟩), some (.string ⟨#[62]⟩), some (.string ⟨#[62, 61]⟩), some (.string ⟨#[43]⟩), some (.string ⟨#[45]⟩), some (.string ⟨#[42]⟩), some (.string ⟨#[47]⟩), some (.string ⟨#[42, 42]⟩)]
def opAt (i : Nat) : ByteArray := strAt opCells i
def lvAt (i : Nat) : Int := [1, 2, 3, 3, 3, 3, 3, 3, 4, 4, 5, 5, 6].getD i 0

theorem totP_nil {E : Env} {base : World} (hE : EnvOk E base) (hL : LoopsOk E base) (hEP : E.P = Tryz.prog) {d : Nat} {f : FuncId} {args : List Value} {v : Value}
    (hv : pureV 6 v = true) (ha : ∀ x ∈ args, pureV 6 x = true) (hk : funcK E d f args [] Tryz.prog.globals.size fun u _ _ mw => u = v ∧ Tryz.prog.globals.size ≤ mw) : TotP base f args v := fun E' hP h n =>
  (sem_of_funcK (E := E) hE hL hk hv ha (fun k b hb => by simp [getBlk] at hb) (by rw [hEP]; exact Nat.le_refl _) (Sub.nil h) n).env (hP.trans hEP.symm)

theorem opAt_tot {base : World} (p : Int) (h0 : 0 ≤ p) : TotP base 8 [.int .u8 p] (.string (opAt (p.toNat % 13))) := by
  refine totP_nil (E := envPS strAt) (envP_ok (wilds := []) all_good (rules := []) (fun _ h => by cases h)) envP_loops rfl (d := 30) rfl (List.forall_mem_cons.2 ⟨rfl, fun _ h => by cases h⟩) ?_
  rw [opsAt_tree (fun u mw => u = .string (opAt (p.toNat % 13)) ∧ Tryz.prog.globals.size ≤ mw) strAt p]
  have e : Int.tmod p 13 = ((p.toNat % 13 : Nat) : Int) := by
    rw [Int.tmod_eq_emod_of_nonneg h0]
    omega
  have hlt : p.toNat % 13 < 13 := Nat.mod_lt _ (by decide)
  refine bsel_t ?_ (bsel_t ?_ ⟨?_, Nat.le_of_ble_eq_true (by kernel_rfl)⟩)
  · rw [e]; simp only [Bool.and_eq_true, decide_eq_true_eq]; omega
  · rw [e]; simp only [Nat.blt_eq]; omega
  · rw [e]
    have : 0 + Int.toNat ((p.toNat % 13 : Nat) : Int) * 1 = p.toNat % 13 := by omega
    rw [this]
    rfl

theorem lv_tot {base : World} (A : AtP base) : ∀ i, i < 13 → TotP base 9 [.string (opAt i)] (.int .i64 (lvAt i))
  | 0, _ => op0 A
  | 1, _ => op1 A
  | 2, _ => op2 A
  | 3, _ => op3 A
  | 4, _ => op4 A
  | 5, _ => op5 A
  | 6, _ => op6 A
  | 7, _ => op7 A
  | 8, _ => op8 A
  | 9, _ => op9 A
  | 10, _ => op10 A
  | 11, _ => op11 A
  | 12, _ => op12 A
  | n + 13, h => absurd h (by omega)

theorem len_op : ∀ i, i < 13 → strLen (opAt i) ≤ 3
  | 0, _ => Nat.le_of_ble_eq_true rfl
  | 1, _ => Nat.le_of_ble_eq_true rfl
  | 2, _ => Nat.le_of_ble_eq_true rfl
  | 3, _ => Nat.le_of_ble_eq_true rfl
  | 4, _ => Nat.le_of_ble_eq_true rfl
  | 5, _ => Nat.le_of_ble_eq_true rfl
  | 6, _ => Nat.le_of_ble_eq_true rfl
  | 7, _ => Nat.le_of_ble_eq_true rfl
  | 8, _ => Nat.le_of_ble_eq_true rfl
  | 9, _ => Nat.le_of_ble_eq_true rfl
  | 10, _ => Nat.le_of_ble_eq_true rfl
  | 11, _ => Nat.le_of_ble_eq_true rfl
  | 12, _ => Nat.le_of_ble_eq_true rfl
  | n + 13, h => absurd h (by omega)

def srcS (a b : ByteArray) : ByteArray := strCat (strCat (strCat (strCat ⟨#[49, 32]⟩ a) ⟨#[32, 50, 32]⟩) b) ⟨#[32, 51]⟩
def leftS (a b : ByteArray) : ByteArray := strCat (strCat (strCat (strCat ⟨#[40, 49, 32]⟩ a) ⟨#[32, 50, 41, 32]⟩) b) ⟨#[32, 51]⟩
def rightS (a b : ByteArray) : ByteArray := strCat (strCat (strCat (strCat ⟨#[49, 32]⟩ a) ⟨#[32, 40, 50, 32]⟩) b) ⟨#[32, 51, 41]⟩
/-- What is asked of two operators. -/
def PairOk (base : World) (a b : ByteArray) (x y : Int) : Prop :=
  (x = 3 → y = 3 → TotP base 10 [.string (srcS a b), .slice none 0 0] failV) ∧
  (¬ (x = 3 ∧ y = 3) → y ≤ x → TotP base 11 [.string (srcS a b), .string (leftS a b), .slice none 0 0] (.bool true)) ∧
  (¬ (x = 3 ∧ y = 3) → x < y → TotP base 11 [.string (srcS a b), .string (rightS a b), .slice none 0 0] (.bool true))
theorem pair33 {base : World} {a b : ByteArray} (h : TotP base 10 [.string (srcS a b), .slice none 0 0] failV) : PairOk base a b 3 3 := ⟨fun _ _ => h, fun h => absurd ⟨rfl, rfl⟩ h, fun h => absurd ⟨rfl, rfl⟩ h⟩
theorem pairL {base : World} {a b : ByteArray} {x y : Int} (h3 : ¬ (x = 3 ∧ y = 3)) (hl : y ≤ x) (h : TotP base 11 [.string (srcS a b), .string (leftS a b), .slice none 0 0] (.bool true)) : PairOk base a b x y :=
  ⟨fun p q => absurd ⟨p, q⟩ h3, fun _ _ => h, fun _ hh => absurd hl (by omega)⟩
theorem pairR {base : World} {a b : ByteArray} {x y : Int} (h3 : ¬ (x = 3 ∧ y = 3)) (hl : x < y) (h : TotP base 11 [.string (srcS a b), .string (rightS a b), .slice none 0 0] (.bool true)) : PairOk base a b x y :=
  ⟨fun p q => absurd ⟨p, q⟩ h3, fun _ hh => absurd hl (by omega), fun _ _ => h⟩

/-- What is asked of one operator. -/
def OneOk (base : World) (c : ByteArray) : Prop :=
  TotP base 11 [.string (strCat (strCat ⟨#[45, 49, 32]⟩ c) ⟨#[32, 45, 50]⟩), .string (strCat (strCat ⟨#[40, 45, 49, 41, 32]⟩ c) ⟨#[32, 40, 45, 50, 41]⟩), .slice none 0 0] (.bool true) ∧
  TotP base 11 [.string (strCat (strCat ⟨#[102, 40, 49, 32]⟩ c) ⟨#[32, 50, 41]⟩), .string (strCat (strCat ⟨#[40, 102, 41, 40, 49, 32]⟩ c) ⟨#[32, 50, 41]⟩), .slice none 0 0] (.bool true) ∧
  TotP base 11 [.string (strCat (strCat ⟨#[91, 49, 32]⟩ c) ⟨#[32, 50, 44, 32, 51, 93]⟩), .string (strCat (strCat ⟨#[91, 49, 32]⟩ c) ⟨#[32, 50, 44, 32, 51, 93]⟩), .slice none 0 0] (.bool true)

set_option maxHeartbeats 4000000 in
theorem ops_law {base : World} (A : AtP base) (H2 : ∀ i, i < 13 → ∀ j, j < 13 → PairOk base (opAt i) (opAt j) (lvAt i) (lvAt j)) (H1 : ∀ i, i < 13 → OneOk base (opAt i)) (p q r : Int) (hp : 0 ≤ p) (hq : 0 ≤ q) (hr : 0 ≤ r) :
    Run0 (envP 241 [] (rulesOps base)) 30 3 [.int .u8 p, .int .u8 q, .int .u8 r] := by
  constructor
  rw [ops_tree (fun u mw => u = .bool true ∧ Tryz.prog.globals.size ≤ mw)]
  have ip : p.toNat % 13 < 13 := Nat.mod_lt _ (by decide)
  have iq : q.toNat % 13 < 13 := Nat.mod_lt _ (by decide)
  have ir : r.toNat % 13 < 13 := Nat.mod_lt _ (by decide)
  refine ⟨awake19 A, _, opAt_tot p hp, _, opAt_tot q hq, _, opAt_tot r hr, _, lv_tot A _ ip, _, lv_tot A _ iq, ?_⟩
  obtain ⟨h1, h2, h3⟩ := H2 _ ip _ iq
  obtain ⟨k1, k2, k3⟩ := H1 _ ir
  have la := len_op _ ip
  have lb := len_op _ iq
  have lc := len_op _ ir
  clear A H1 H2
  generalize opAt (p.toNat % 13) = a at *
  generalize opAt (q.toNat % 13) = b at *
  generalize opAt (r.toNat % 13) = c at *
  generalize lvAt (p.toNat % 13) = x at *
  generalize lvAt (q.toNat % 13) = y at *
  have hfin : ∀ mw, Nat.ble 10 mw = true → Value.bool true = Value.bool true ∧ Tryz.prog.globals.size ≤ mw := fun mw h => ⟨rfl, Nat.le_trans (Nat.le_of_ble_eq_true (by kernel_rfl)) (Nat.le_of_ble_eq_true h)⟩
  repeat' (first
    | exact hfin _ rfl
    | exact k1
    | exact k2
    | exact k3
    | (refine bsel_t (Nat.ble_eq_true_of_le (by first | omega | (simp only [strLen_cat, strLen_arr, List.length_cons, List.length_nil]; omega))) ?_)
    | (refine bsel_of (fun hb => ?_) (fun hb => ?_))
    | (refine And.intro ?_ ?_))
  all_goals simp only [beq_iff_eq, decide_eq_true_eq, decide_eq_false_iff_not, beq_eq_false_iff_ne, ne_eq] at *
  all_goals first
    | exact h1 (by assumption) (by assumption)
    | exact h2 (by omega) (by omega)
    | exact h3 (by omega) (by omega)
    | (exfalso; omega)

theorem u8_nonneg {n : Int} (h : (Lit.int .u8 n).wf = true) : 0 ≤ n := by
  have h1 : (decide (IntKind.min .u8 ≤ n) && decide (n ≤ IntKind.max .u8)) = true := h
  have e1 : IntKind.min .u8 = 0 := by decide
  rw [e1] at h1
  simp only [Bool.and_eq_true, decide_eq_true_eq] at h1
  exact h1.1

end Go.Proofs.YtapmcocefoccdaaGreatDoor
