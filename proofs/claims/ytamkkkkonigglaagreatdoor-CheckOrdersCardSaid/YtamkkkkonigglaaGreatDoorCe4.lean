/-
  A closed run of the checker: example 4.
-/
import Derived.Test.YtamkkkkonigglaaGreatDoorCd
namespace Go.Proofs.YtamkkkkonigglaaGreatDoor
open Go Go.Pe Go.RowKit

set_option maxRecDepth 1000000 in
theorem ty4_run (off : Nat) (spot : Option Nat) : (funcK (envP 285 wildsP rulesK3) 300 18 [.string ⟨#[40, 102, 117, 110, 99, 116, 105, 111, 110, 40, 120, 58, 32, 110, 117, 109, 98, 101, 114, 41, 32, 120, 32, 43, 32, 49, 41, 40, 50, 41]⟩, .string ⟨#[110, 117, 109, 98, 101, 114]⟩, .slice none 0 0] (tabsE off spot) (Tryz.prog.globals.size + 1) fun u _ _ mw => u = .bool true ∧ Nat.ble (Tryz.prog.globals.size + 1) mw = true) = ((.bool true : Value) = .bool true ∧ true = true) := by kernel_rfl
theorem ty4 {base : World} (A : AtP base) : TotP base 18 [.string ⟨#[40, 102, 117, 110, 99, 116, 105, 111, 110, 40, 120, 58, 32, 110, 117, 109, 98, 101, 114, 41, 32, 120, 32, 43, 32, 49, 41, 40, 50, 41]⟩, .string ⟨#[110, 117, 109, 98, 101, 114]⟩, .slice none 0 0] (.bool true) := tot_closed all_good A (rulesK3_ok A) Tryz.func18 (by kernel_rfl) (by kernel_rfl) (by kernel_rfl) ty4_run

end Go.Proofs.YtamkkkkonigglaaGreatDoor
