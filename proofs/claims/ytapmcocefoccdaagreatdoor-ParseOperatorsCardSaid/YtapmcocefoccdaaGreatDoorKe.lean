/-
  The law ParseOperators: its run, out of closed runs.
-/
import Derived.Test.YtapmcocefoccdaaGreatDoorKe0
import Derived.Test.YtapmcocefoccdaaGreatDoorQf
import Derived.Test.YtapmcocefoccdaaGreatDoorKc0
import Derived.Test.YtapmcocefoccdaaGreatDoorKc1
import Derived.Test.YtapmcocefoccdaaGreatDoorKc2
import Derived.Test.YtapmcocefoccdaaGreatDoorKc3
import Derived.Test.YtapmcocefoccdaaGreatDoorKc4
import Derived.Test.YtapmcocefoccdaaGreatDoorKc5
namespace Go.Proofs.YtapmcocefoccdaaGreatDoor
open Go Go.Pe Go.RowKit

theorem pair_0 {base : World} (A : AtP base) : ∀ j, j < 13 → PairOk base (opAt 0) (opAt j) (lvAt 0) (lvAt j)
  | 0, _ => pairL (by decide) (by decide) (pr_0_0 A)
  | 1, _ => pairR (by decide) (by decide) (pr_0_1 A)
  | 2, _ => pairR (by decide) (by decide) (pr_0_2 A)
  | 3, _ => pairR (by decide) (by decide) (pr_0_3 A)
  | 4, _ => pairR (by decide) (by decide) (pr_0_4 A)
  | 5, _ => pairR (by decide) (by decide) (pr_0_5 A)
  | 6, _ => pairR (by decide) (by decide) (pr_0_6 A)
  | 7, _ => pairR (by decide) (by decide) (pr_0_7 A)
  | 8, _ => pairR (by decide) (by decide) (pr_0_8 A)
  | 9, _ => pairR (by decide) (by decide) (pr_0_9 A)
  | 10, _ => pairR (by decide) (by decide) (pr_0_10 A)
  | 11, _ => pairR (by decide) (by decide) (pr_0_11 A)
  | 12, _ => pairR (by decide) (by decide) (pr_0_12 A)
  | n + 13, h => absurd h (by omega)

theorem pair_1 {base : World} (A : AtP base) : ∀ j, j < 13 → PairOk base (opAt 1) (opAt j) (lvAt 1) (lvAt j)
  | 0, _ => pairL (by decide) (by decide) (pr_1_0 A)
  | 1, _ => pairL (by decide) (by decide) (pr_1_1 A)
  | 2, _ => pairR (by decide) (by decide) (pr_1_2 A)
  | 3, _ => pairR (by decide) (by decide) (pr_1_3 A)
  | 4, _ => pairR (by decide) (by decide) (pr_1_4 A)
  | 5, _ => pairR (by decide) (by decide) (pr_1_5 A)
  | 6, _ => pairR (by decide) (by decide) (pr_1_6 A)
  | 7, _ => pairR (by decide) (by decide) (pr_1_7 A)
  | 8, _ => pairR (by decide) (by decide) (pr_1_8 A)
  | 9, _ => pairR (by decide) (by decide) (pr_1_9 A)
  | 10, _ => pairR (by decide) (by decide) (pr_1_10 A)
  | 11, _ => pairR (by decide) (by decide) (pr_1_11 A)
  | 12, _ => pairR (by decide) (by decide) (pr_1_12 A)
  | n + 13, h => absurd h (by omega)

theorem pair_2 {base : World} (A : AtP base) : ∀ j, j < 13 → PairOk base (opAt 2) (opAt j) (lvAt 2) (lvAt j)
  | 0, _ => pairL (by decide) (by decide) (pr_2_0 A)
  | 1, _ => pairL (by decide) (by decide) (pr_2_1 A)
  | 2, _ => pair33 (pr_2_2 A)
  | 3, _ => pair33 (pr_2_3 A)
  | 4, _ => pair33 (pr_2_4 A)
  | 5, _ => pair33 (pr_2_5 A)
  | 6, _ => pair33 (pr_2_6 A)
  | 7, _ => pair33 (pr_2_7 A)
  | 8, _ => pairR (by decide) (by decide) (pr_2_8 A)
  | 9, _ => pairR (by decide) (by decide) (pr_2_9 A)
  | 10, _ => pairR (by decide) (by decide) (pr_2_10 A)
  | 11, _ => pairR (by decide) (by decide) (pr_2_11 A)
  | 12, _ => pairR (by decide) (by decide) (pr_2_12 A)
  | n + 13, h => absurd h (by omega)

theorem pair_3 {base : World} (A : AtP base) : ∀ j, j < 13 → PairOk base (opAt 3) (opAt j) (lvAt 3) (lvAt j)
  | 0, _ => pairL (by decide) (by decide) (pr_3_0 A)
  | 1, _ => pairL (by decide) (by decide) (pr_3_1 A)
  | 2, _ => pair33 (pr_3_2 A)
  | 3, _ => pair33 (pr_3_3 A)
  | 4, _ => pair33 (pr_3_4 A)
  | 5, _ => pair33 (pr_3_5 A)
  | 6, _ => pair33 (pr_3_6 A)
  | 7, _ => pair33 (pr_3_7 A)
  | 8, _ => pairR (by decide) (by decide) (pr_3_8 A)
  | 9, _ => pairR (by decide) (by decide) (pr_3_9 A)
  | 10, _ => pairR (by decide) (by decide) (pr_3_10 A)
  | 11, _ => pairR (by decide) (by decide) (pr_3_11 A)
  | 12, _ => pairR (by decide) (by decide) (pr_3_12 A)
  | n + 13, h => absurd h (by omega)

theorem pair_4 {base : World} (A : AtP base) : ∀ j, j < 13 → PairOk base (opAt 4) (opAt j) (lvAt 4) (lvAt j)
  | 0, _ => pairL (by decide) (by decide) (pr_4_0 A)
  | 1, _ => pairL (by decide) (by decide) (pr_4_1 A)
  | 2, _ => pair33 (pr_4_2 A)
  | 3, _ => pair33 (pr_4_3 A)
  | 4, _ => pair33 (pr_4_4 A)
  | 5, _ => pair33 (pr_4_5 A)
  | 6, _ => pair33 (pr_4_6 A)
  | 7, _ => pair33 (pr_4_7 A)
  | 8, _ => pairR (by decide) (by decide) (pr_4_8 A)
  | 9, _ => pairR (by decide) (by decide) (pr_4_9 A)
  | 10, _ => pairR (by decide) (by decide) (pr_4_10 A)
  | 11, _ => pairR (by decide) (by decide) (pr_4_11 A)
  | 12, _ => pairR (by decide) (by decide) (pr_4_12 A)
  | n + 13, h => absurd h (by omega)

theorem pair_5 {base : World} (A : AtP base) : ∀ j, j < 13 → PairOk base (opAt 5) (opAt j) (lvAt 5) (lvAt j)
  | 0, _ => pairL (by decide) (by decide) (pr_5_0 A)
  | 1, _ => pairL (by decide) (by decide) (pr_5_1 A)
  | 2, _ => pair33 (pr_5_2 A)
  | 3, _ => pair33 (pr_5_3 A)
  | 4, _ => pair33 (pr_5_4 A)
  | 5, _ => pair33 (pr_5_5 A)
  | 6, _ => pair33 (pr_5_6 A)
  | 7, _ => pair33 (pr_5_7 A)
  | 8, _ => pairR (by decide) (by decide) (pr_5_8 A)
  | 9, _ => pairR (by decide) (by decide) (pr_5_9 A)
  | 10, _ => pairR (by decide) (by decide) (pr_5_10 A)
  | 11, _ => pairR (by decide) (by decide) (pr_5_11 A)
  | 12, _ => pairR (by decide) (by decide) (pr_5_12 A)
  | n + 13, h => absurd h (by omega)

theorem pair_6 {base : World} (A : AtP base) : ∀ j, j < 13 → PairOk base (opAt 6) (opAt j) (lvAt 6) (lvAt j)
  | 0, _ => pairL (by decide) (by decide) (pr_6_0 A)
  | 1, _ => pairL (by decide) (by decide) (pr_6_1 A)
  | 2, _ => pair33 (pr_6_2 A)
  | 3, _ => pair33 (pr_6_3 A)
  | 4, _ => pair33 (pr_6_4 A)
  | 5, _ => pair33 (pr_6_5 A)
  | 6, _ => pair33 (pr_6_6 A)
  | 7, _ => pair33 (pr_6_7 A)
  | 8, _ => pairR (by decide) (by decide) (pr_6_8 A)
  | 9, _ => pairR (by decide) (by decide) (pr_6_9 A)
  | 10, _ => pairR (by decide) (by decide) (pr_6_10 A)
  | 11, _ => pairR (by decide) (by decide) (pr_6_11 A)
  | 12, _ => pairR (by decide) (by decide) (pr_6_12 A)
  | n + 13, h => absurd h (by omega)

theorem pair_7 {base : World} (A : AtP base) : ∀ j, j < 13 → PairOk base (opAt 7) (opAt j) (lvAt 7) (lvAt j)
  | 0, _ => pairL (by decide) (by decide) (pr_7_0 A)
  | 1, _ => pairL (by decide) (by decide) (pr_7_1 A)
  | 2, _ => pair33 (pr_7_2 A)
  | 3, _ => pair33 (pr_7_3 A)
  | 4, _ => pair33 (pr_7_4 A)
  | 5, _ => pair33 (pr_7_5 A)
  | 6, _ => pair33 (pr_7_6 A)
  | 7, _ => pair33 (pr_7_7 A)
  | 8, _ => pairR (by decide) (by decide) (pr_7_8 A)
  | 9, _ => pairR (by decide) (by decide) (pr_7_9 A)
  | 10, _ => pairR (by decide) (by decide) (pr_7_10 A)
  | 11, _ => pairR (by decide) (by decide) (pr_7_11 A)
  | 12, _ => pairR (by decide) (by decide) (pr_7_12 A)
  | n + 13, h => absurd h (by omega)

theorem pair_8 {base : World} (A : AtP base) : ∀ j, j < 13 → PairOk base (opAt 8) (opAt j) (lvAt 8) (lvAt j)
  | 0, _ => pairL (by decide) (by decide) (pr_8_0 A)
  | 1, _ => pairL (by decide) (by decide) (pr_8_1 A)
  | 2, _ => pairL (by decide) (by decide) (pr_8_2 A)
  | 3, _ => pairL (by decide) (by decide) (pr_8_3 A)
  | 4, _ => pairL (by decide) (by decide) (pr_8_4 A)
  | 5, _ => pairL (by decide) (by decide) (pr_8_5 A)
  | 6, _ => pairL (by decide) (by decide) (pr_8_6 A)
  | 7, _ => pairL (by decide) (by decide) (pr_8_7 A)
  | 8, _ => pairL (by decide) (by decide) (pr_8_8 A)
  | 9, _ => pairL (by decide) (by decide) (pr_8_9 A)
  | 10, _ => pairR (by decide) (by decide) (pr_8_10 A)
  | 11, _ => pairR (by decide) (by decide) (pr_8_11 A)
  | 12, _ => pairR (by decide) (by decide) (pr_8_12 A)
  | n + 13, h => absurd h (by omega)

theorem pair_9 {base : World} (A : AtP base) : ∀ j, j < 13 → PairOk base (opAt 9) (opAt j) (lvAt 9) (lvAt j)
  | 0, _ => pairL (by decide) (by decide) (pr_9_0 A)
  | 1, _ => pairL (by decide) (by decide) (pr_9_1 A)
  | 2, _ => pairL (by decide) (by decide) (pr_9_2 A)
  | 3, _ => pairL (by decide) (by decide) (pr_9_3 A)
  | 4, _ => pairL (by decide) (by decide) (pr_9_4 A)
  | 5, _ => pairL (by decide) (by decide) (pr_9_5 A)
  | 6, _ => pairL (by decide) (by decide) (pr_9_6 A)
  | 7, _ => pairL (by decide) (by decide) (pr_9_7 A)
  | 8, _ => pairL (by decide) (by decide) (pr_9_8 A)
  | 9, _ => pairL (by decide) (by decide) (pr_9_9 A)
  | 10, _ => pairR (by decide) (by decide) (pr_9_10 A)
  | 11, _ => pairR (by decide) (by decide) (pr_9_11 A)
  | 12, _ => pairR (by decide) (by decide) (pr_9_12 A)
  | n + 13, h => absurd h (by omega)

theorem pair_10 {base : World} (A : AtP base) : ∀ j, j < 13 → PairOk base (opAt 10) (opAt j) (lvAt 10) (lvAt j)
  | 0, _ => pairL (by decide) (by decide) (pr_10_0 A)
  | 1, _ => pairL (by decide) (by decide) (pr_10_1 A)
  | 2, _ => pairL (by decide) (by decide) (pr_10_2 A)
  | 3, _ => pairL (by decide) (by decide) (pr_10_3 A)
  | 4, _ => pairL (by decide) (by decide) (pr_10_4 A)
  | 5, _ => pairL (by decide) (by decide) (pr_10_5 A)
  | 6, _ => pairL (by decide) (by decide) (pr_10_6 A)
  | 7, _ => pairL (by decide) (by decide) (pr_10_7 A)
  | 8, _ => pairL (by decide) (by decide) (pr_10_8 A)
  | 9, _ => pairL (by decide) (by decide) (pr_10_9 A)
  | 10, _ => pairL (by decide) (by decide) (pr_10_10 A)
  | 11, _ => pairL (by decide) (by decide) (pr_10_11 A)
  | 12, _ => pairR (by decide) (by decide) (pr_10_12 A)
  | n + 13, h => absurd h (by omega)

theorem pair_11 {base : World} (A : AtP base) : ∀ j, j < 13 → PairOk base (opAt 11) (opAt j) (lvAt 11) (lvAt j)
  | 0, _ => pairL (by decide) (by decide) (pr_11_0 A)
  | 1, _ => pairL (by decide) (by decide) (pr_11_1 A)
  | 2, _ => pairL (by decide) (by decide) (pr_11_2 A)
  | 3, _ => pairL (by decide) (by decide) (pr_11_3 A)
  | 4, _ => pairL (by decide) (by decide) (pr_11_4 A)
  | 5, _ => pairL (by decide) (by decide) (pr_11_5 A)
  | 6, _ => pairL (by decide) (by decide) (pr_11_6 A)
  | 7, _ => pairL (by decide) (by decide) (pr_11_7 A)
  | 8, _ => pairL (by decide) (by decide) (pr_11_8 A)
  | 9, _ => pairL (by decide) (by decide) (pr_11_9 A)
  | 10, _ => pairL (by decide) (by decide) (pr_11_10 A)
  | 11, _ => pairL (by decide) (by decide) (pr_11_11 A)
  | 12, _ => pairR (by decide) (by decide) (pr_11_12 A)
  | n + 13, h => absurd h (by omega)

theorem pair_12 {base : World} (A : AtP base) : ∀ j, j < 13 → PairOk base (opAt 12) (opAt j) (lvAt 12) (lvAt j)
  | 0, _ => pairL (by decide) (by decide) (pr_12_0 A)
  | 1, _ => pairL (by decide) (by decide) (pr_12_1 A)
  | 2, _ => pairL (by decide) (by decide) (pr_12_2 A)
  | 3, _ => pairL (by decide) (by decide) (pr_12_3 A)
  | 4, _ => pairL (by decide) (by decide) (pr_12_4 A)
  | 5, _ => pairL (by decide) (by decide) (pr_12_5 A)
  | 6, _ => pairL (by decide) (by decide) (pr_12_6 A)
  | 7, _ => pairL (by decide) (by decide) (pr_12_7 A)
  | 8, _ => pairL (by decide) (by decide) (pr_12_8 A)
  | 9, _ => pairL (by decide) (by decide) (pr_12_9 A)
  | 10, _ => pairL (by decide) (by decide) (pr_12_10 A)
  | 11, _ => pairL (by decide) (by decide) (pr_12_11 A)
  | 12, _ => pairL (by decide) (by decide) (pr_12_12 A)
  | n + 13, h => absurd h (by omega)

theorem pair_all {base : World} (A : AtP base) : ∀ i, i < 13 → ∀ j, j < 13 → PairOk base (opAt i) (opAt j) (lvAt i) (lvAt j)
  | 0, _ => pair_0 A
  | 1, _ => pair_1 A
  | 2, _ => pair_2 A
  | 3, _ => pair_3 A
  | 4, _ => pair_4 A
  | 5, _ => pair_5 A
  | 6, _ => pair_6 A
  | 7, _ => pair_7 A
  | 8, _ => pair_8 A
  | 9, _ => pair_9 A
  | 10, _ => pair_10 A
  | 11, _ => pair_11 A
  | 12, _ => pair_12 A
  | n + 13, h => absurd h (by omega)

theorem one_all {base : World} (A : AtP base) : ∀ i, i < 13 → OneOk base (opAt i)
  | 0, _ => ⟨c1_0 A, c2_0 A, c3_0 A⟩
  | 1, _ => ⟨c1_1 A, c2_1 A, c3_1 A⟩
  | 2, _ => ⟨c1_2 A, c2_2 A, c3_2 A⟩
  | 3, _ => ⟨c1_3 A, c2_3 A, c3_3 A⟩
  | 4, _ => ⟨c1_4 A, c2_4 A, c3_4 A⟩
  | 5, _ => ⟨c1_5 A, c2_5 A, c3_5 A⟩
  | 6, _ => ⟨c1_6 A, c2_6 A, c3_6 A⟩
  | 7, _ => ⟨c1_7 A, c2_7 A, c3_7 A⟩
  | 8, _ => ⟨c1_8 A, c2_8 A, c3_8 A⟩
  | 9, _ => ⟨c1_9 A, c2_9 A, c3_9 A⟩
  | 10, _ => ⟨c1_10 A, c2_10 A, c3_10 A⟩
  | 11, _ => ⟨c1_11 A, c2_11 A, c3_11 A⟩
  | 12, _ => ⟨c1_12 A, c2_12 A, c3_12 A⟩
  | n + 13, h => absurd h (by omega)

theorem ops_calls {W : World} (hs : W.ShapedOpen Tryz.prog) (A : AtP W) (p q r : Int) (hp : 0 ≤ p) (hq : 0 ≤ q) (hr : 0 ≤ r) :
    Calls Tryz.prog 3 #[.int .u8 p, .int .u8 q, .int .u8 r] W fun e w' => e = .returned (.bool true) ∧ Below W.heap.size W w' :=
  law_nil hs (E := envP 241 [] (rulesOps W)) (envP_ok all_good (rulesOps_ok W)) envP_loops rfl Tryz.func3 (by kernel_rfl) (args := [.int .u8 p, .int .u8 q, .int .u8 r])
    (List.forall_mem_cons.2 ⟨rfl, List.forall_mem_cons.2 ⟨rfl, List.forall_mem_cons.2 ⟨rfl, fun _ h => nomatch h⟩⟩⟩) (ops_law A (pair_all A) (one_all A) p q r hp hq hr)

end Go.Proofs.YtapmcocefoccdaaGreatDoor
