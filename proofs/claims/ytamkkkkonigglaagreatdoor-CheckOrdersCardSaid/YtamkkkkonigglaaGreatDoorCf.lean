/-
  The examples of the law's package 26.
-/
import Derived.Test.YtamkkkkonigglaaGreatDoorCe0
import Derived.Test.YtamkkkkonigglaaGreatDoorCe1
import Derived.Test.YtamkkkkonigglaaGreatDoorCe2
import Derived.Test.YtamkkkkonigglaaGreatDoorCe3
import Derived.Test.YtamkkkkonigglaaGreatDoorCe4
namespace Go.Proofs.YtamkkkkonigglaaGreatDoor
open Go Go.Pe Go.RowKit

def tabTy : List (List Value × Value) := [([.string ⟨#[49, 32, 43, 32, 34, 97, 34]⟩, .string ⟨#[]⟩, .slice none 0 0], .bool true), ([.string ⟨#[91, 49, 44, 32, 34, 97, 34, 93]⟩, .string ⟨#[108, 105, 115, 116, 60, 65, 110, 121, 62]⟩, .slice none 0 0], .bool true), ([.string ⟨#[105, 102, 32, 110, 117, 108, 108, 32, 116, 104, 101, 110, 32, 49, 32, 101, 108, 115, 101, 32, 50]⟩, .string ⟨#[110, 117, 109, 98, 101, 114]⟩, .slice none 0 0], .bool true), ([.string ⟨#[115, 117, 109, 40, 49, 41]⟩, .string ⟨#[110, 117, 109, 98, 101, 114]⟩, .slice none 0 0], .bool true), ([.string ⟨#[40, 102, 117, 110, 99, 116, 105, 111, 110, 40, 120, 58, 32, 110, 117, 109, 98, 101, 114, 41, 32, 120, 32, 43, 32, 49, 41, 40, 50, 41]⟩, .string ⟨#[110, 117, 109, 98, 101, 114]⟩, .slice none 0 0], .bool true)]
theorem tabTy_ok {base : World} (A : AtP base) : RuleOk Tryz.prog base 18 (ruleTab tabTy) := ruleOk_tab (by
  unfold tabTy
  exact List.forall_mem_cons.2 ⟨ty0 A, List.forall_mem_cons.2 ⟨ty1 A, List.forall_mem_cons.2 ⟨ty2 A, List.forall_mem_cons.2 ⟨ty3 A, List.forall_mem_cons.2 ⟨ty4 A, fun _ h => nomatch h⟩⟩⟩⟩⟩)
noncomputable def rulesK4 : List (Nat × Rule) := (18, ruleTab tabTy) :: rulesK3
theorem rulesK4_ok {base : World} (A : AtP base) : ∀ x ∈ rulesK4, RuleOk Tryz.prog base x.1 x.2 := List.forall_mem_cons.2 ⟨tabTy_ok A, rulesK3_ok A⟩

set_option maxRecDepth 1000000 in
theorem awake26_run (off : Nat) (spot : Option Nat) : (funcK (envP 285 wildsP rulesK4) 300 6 [] (tabsE off spot) (Tryz.prog.globals.size + 1) fun u _ _ mw => u = .bool true ∧ Nat.ble (Tryz.prog.globals.size + 1) mw = true) = ((.bool true : Value) = .bool true ∧ true = true) := by kernel_rfl
theorem awake26 {base : World} (A : AtP base) : TotP base 6 [] (.bool true) := tot_closed all_good A (rulesK4_ok A) Tryz.func6 (by kernel_rfl) (by kernel_rfl) (by kernel_rfl) awake26_run

end Go.Proofs.YtamkkkkonigglaaGreatDoor
