/-
  The law ParseNames: its run, out of closed runs.
-/
import Derived.Test.YtapmcocefoccdaaGreatDoorNm
import Derived.Test.YtapmcocefoccdaaGreatDoorQf
import Derived.Test.YtapmcocefoccdaaGreatDoorKd
import Derived.Test.YtapmcocefoccdaaGreatDoorKn0
import Derived.Test.YtapmcocefoccdaaGreatDoorKn1
import Derived.Test.YtapmcocefoccdaaGreatDoorKn2
import Derived.Test.YtapmcocefoccdaaGreatDoorKn3
import Derived.Test.YtapmcocefoccdaaGreatDoorKn4
import Derived.Test.YtapmcocefoccdaaGreatDoorKn5
import Derived.Test.YtapmcocefoccdaaGreatDoorKn6
import Derived.Test.YtapmcocefoccdaaGreatDoorKn7
namespace Go.Proofs.YtapmcocefoccdaaGreatDoor
open Go Go.Pe Go.RowKit

theorem name_0 {base : World} (A : AtU base) : ∀ j, j < 6 → NameOk base (wAt 0) (wAt j)
  | 0, _ => ⟨n1_0_0 A, n2_0_0 A, n3_0_0 A, n4_0_0 A, n5_0_0 A, n6_0_0 A, n7_0_0 A, n8_0_0 A⟩
  | 1, _ => ⟨n1_0_1 A, n2_0_1 A, n3_0_1 A, n4_0_1 A, n5_0_1 A, n6_0_1 A, n7_0_1 A, n8_0_1 A⟩
  | 2, _ => ⟨n1_0_2 A, n2_0_2 A, n3_0_2 A, n4_0_2 A, n5_0_2 A, n6_0_2 A, n7_0_2 A, n8_0_2 A⟩
  | 3, _ => ⟨n1_0_3 A, n2_0_3 A, n3_0_3 A, n4_0_3 A, n5_0_3 A, n6_0_3 A, n7_0_3 A, n8_0_3 A⟩
  | 4, _ => ⟨n1_0_4 A, n2_0_4 A, n3_0_4 A, n4_0_4 A, n5_0_4 A, n6_0_4 A, n7_0_4 A, n8_0_4 A⟩
  | 5, _ => ⟨n1_0_5 A, n2_0_5 A, n3_0_5 A, n4_0_5 A, n5_0_5 A, n6_0_5 A, n7_0_5 A, n8_0_5 A⟩
  | n + 6, h => absurd h (by omega)

theorem name_1 {base : World} (A : AtU base) : ∀ j, j < 6 → NameOk base (wAt 1) (wAt j)
  | 0, _ => ⟨n1_1_0 A, n2_1_0 A, n3_1_0 A, n4_1_0 A, n5_1_0 A, n6_1_0 A, n7_1_0 A, n8_1_0 A⟩
  | 1, _ => ⟨n1_1_1 A, n2_1_1 A, n3_1_1 A, n4_1_1 A, n5_1_1 A, n6_1_1 A, n7_1_1 A, n8_1_1 A⟩
  | 2, _ => ⟨n1_1_2 A, n2_1_2 A, n3_1_2 A, n4_1_2 A, n5_1_2 A, n6_1_2 A, n7_1_2 A, n8_1_2 A⟩
  | 3, _ => ⟨n1_1_3 A, n2_1_3 A, n3_1_3 A, n4_1_3 A, n5_1_3 A, n6_1_3 A, n7_1_3 A, n8_1_3 A⟩
  | 4, _ => ⟨n1_1_4 A, n2_1_4 A, n3_1_4 A, n4_1_4 A, n5_1_4 A, n6_1_4 A, n7_1_4 A, n8_1_4 A⟩
  | 5, _ => ⟨n1_1_5 A, n2_1_5 A, n3_1_5 A, n4_1_5 A, n5_1_5 A, n6_1_5 A, n7_1_5 A, n8_1_5 A⟩
  | n + 6, h => absurd h (by omega)

theorem name_2 {base : World} (A : AtU base) : ∀ j, j < 6 → NameOk base (wAt 2) (wAt j)
  | 0, _ => ⟨n1_2_0 A, n2_2_0 A, n3_2_0 A, n4_2_0 A, n5_2_0 A, n6_2_0 A, n7_2_0 A, n8_2_0 A⟩
  | 1, _ => ⟨n1_2_1 A, n2_2_1 A, n3_2_1 A, n4_2_1 A, n5_2_1 A, n6_2_1 A, n7_2_1 A, n8_2_1 A⟩
  | 2, _ => ⟨n1_2_2 A, n2_2_2 A, n3_2_2 A, n4_2_2 A, n5_2_2 A, n6_2_2 A, n7_2_2 A, n8_2_2 A⟩
  | 3, _ => ⟨n1_2_3 A, n2_2_3 A, n3_2_3 A, n4_2_3 A, n5_2_3 A, n6_2_3 A, n7_2_3 A, n8_2_3 A⟩
  | 4, _ => ⟨n1_2_4 A, n2_2_4 A, n3_2_4 A, n4_2_4 A, n5_2_4 A, n6_2_4 A, n7_2_4 A, n8_2_4 A⟩
  | 5, _ => ⟨n1_2_5 A, n2_2_5 A, n3_2_5 A, n4_2_5 A, n5_2_5 A, n6_2_5 A, n7_2_5 A, n8_2_5 A⟩
  | n + 6, h => absurd h (by omega)

theorem name_3 {base : World} (A : AtU base) : ∀ j, j < 6 → NameOk base (wAt 3) (wAt j)
  | 0, _ => ⟨n1_3_0 A, n2_3_0 A, n3_3_0 A, n4_3_0 A, n5_3_0 A, n6_3_0 A, n7_3_0 A, n8_3_0 A⟩
  | 1, _ => ⟨n1_3_1 A, n2_3_1 A, n3_3_1 A, n4_3_1 A, n5_3_1 A, n6_3_1 A, n7_3_1 A, n8_3_1 A⟩
  | 2, _ => ⟨n1_3_2 A, n2_3_2 A, n3_3_2 A, n4_3_2 A, n5_3_2 A, n6_3_2 A, n7_3_2 A, n8_3_2 A⟩
  | 3, _ => ⟨n1_3_3 A, n2_3_3 A, n3_3_3 A, n4_3_3 A, n5_3_3 A, n6_3_3 A, n7_3_3 A, n8_3_3 A⟩
  | 4, _ => ⟨n1_3_4 A, n2_3_4 A, n3_3_4 A, n4_3_4 A, n5_3_4 A, n6_3_4 A, n7_3_4 A, n8_3_4 A⟩
  | 5, _ => ⟨n1_3_5 A, n2_3_5 A, n3_3_5 A, n4_3_5 A, n5_3_5 A, n6_3_5 A, n7_3_5 A, n8_3_5 A⟩
  | n + 6, h => absurd h (by omega)

theorem name_4 {base : World} (A : AtU base) : ∀ j, j < 6 → NameOk base (wAt 4) (wAt j)
  | 0, _ => ⟨n1_4_0 A, n2_4_0 A, n3_4_0 A, n4_4_0 A, n5_4_0 A, n6_4_0 A, n7_4_0 A, n8_4_0 A⟩
  | 1, _ => ⟨n1_4_1 A, n2_4_1 A, n3_4_1 A, n4_4_1 A, n5_4_1 A, n6_4_1 A, n7_4_1 A, n8_4_1 A⟩
  | 2, _ => ⟨n1_4_2 A, n2_4_2 A, n3_4_2 A, n4_4_2 A, n5_4_2 A, n6_4_2 A, n7_4_2 A, n8_4_2 A⟩
  | 3, _ => ⟨n1_4_3 A, n2_4_3 A, n3_4_3 A, n4_4_3 A, n5_4_3 A, n6_4_3 A, n7_4_3 A, n8_4_3 A⟩
  | 4, _ => ⟨n1_4_4 A, n2_4_4 A, n3_4_4 A, n4_4_4 A, n5_4_4 A, n6_4_4 A, n7_4_4 A, n8_4_4 A⟩
  | 5, _ => ⟨n1_4_5 A, n2_4_5 A, n3_4_5 A, n4_4_5 A, n5_4_5 A, n6_4_5 A, n7_4_5 A, n8_4_5 A⟩
  | n + 6, h => absurd h (by omega)

theorem name_5 {base : World} (A : AtU base) : ∀ j, j < 6 → NameOk base (wAt 5) (wAt j)
  | 0, _ => ⟨n1_5_0 A, n2_5_0 A, n3_5_0 A, n4_5_0 A, n5_5_0 A, n6_5_0 A, n7_5_0 A, n8_5_0 A⟩
  | 1, _ => ⟨n1_5_1 A, n2_5_1 A, n3_5_1 A, n4_5_1 A, n5_5_1 A, n6_5_1 A, n7_5_1 A, n8_5_1 A⟩
  | 2, _ => ⟨n1_5_2 A, n2_5_2 A, n3_5_2 A, n4_5_2 A, n5_5_2 A, n6_5_2 A, n7_5_2 A, n8_5_2 A⟩
  | 3, _ => ⟨n1_5_3 A, n2_5_3 A, n3_5_3 A, n4_5_3 A, n5_5_3 A, n6_5_3 A, n7_5_3 A, n8_5_3 A⟩
  | 4, _ => ⟨n1_5_4 A, n2_5_4 A, n3_5_4 A, n4_5_4 A, n5_5_4 A, n6_5_4 A, n7_5_4 A, n8_5_4 A⟩
  | 5, _ => ⟨n1_5_5 A, n2_5_5 A, n3_5_5 A, n4_5_5 A, n5_5_5 A, n6_5_5 A, n7_5_5 A, n8_5_5 A⟩
  | n + 6, h => absurd h (by omega)

theorem name_all {base : World} (A : AtU base) : ∀ i, i < 6 → ∀ j, j < 6 → NameOk base (wAt i) (wAt j)
  | 0, _ => name_0 A
  | 1, _ => name_1 A
  | 2, _ => name_2 A
  | 3, _ => name_3 A
  | 4, _ => name_4 A
  | 5, _ => name_5 A
  | n + 6, h => absurd h (by omega)

theorem names_calls {W : World} (hs : W.ShapedOpen Tryz.prog) (A : AtU W) (p q : Int) (b : Bool) (hp : 0 ≤ p) (hq : 0 ≤ q) :
    Calls Tryz.prog 4 #[.int .u8 p, .int .u8 q, .bool b] W fun e w' => e = .returned (.bool true) ∧ Below W.heap.size W w' :=
  law_nil hs (E := envPN W strAt) (envP_ok (wilds := []) all_good (rulesNms_ok W)) envP_loops rfl Tryz.func4 (by kernel_rfl) (args := [.int .u8 p, .int .u8 q, .bool b])
    (List.forall_mem_cons.2 ⟨rfl, List.forall_mem_cons.2 ⟨rfl, List.forall_mem_cons.2 ⟨rfl, fun _ h => nomatch h⟩⟩⟩) (names_law A.toAtP (name_all A) p q b hp hq)

end Go.Proofs.YtapmcocefoccdaaGreatDoor
