/-
  Closed runs of the reader: operators, part 4.
-/
import Derived.Test.YtapmcocefoccdaaGreatDoorKb
namespace Go.Proofs.YtapmcocefoccdaaGreatDoor
open Go Go.Pe Go.RowKit

set_option maxRecDepth 1000000 in
theorem pr_10_10_run (off : Nat) (spot : Option Nat) : (funcK (envP 241 wildsP rulesK2) 300 11 [.string ⟨#[49, 32, 42, 32, 50, 32, 42, 32, 51]⟩, .string ⟨#[40, 49, 32, 42, 32, 50, 41, 32, 42, 32, 51]⟩, .slice none 0 0] (tabsE off spot) (Tryz.prog.globals.size + 1) fun u _ _ mw => u = .bool true ∧ Nat.ble (Tryz.prog.globals.size + 1) mw = true) = ((.bool true : Value) = .bool true ∧ true = true) := by kernel_rfl
theorem pr_10_10 {base : World} (A : AtP base) : TotP base 11 [.string ⟨#[49, 32, 42, 32, 50, 32, 42, 32, 51]⟩, .string ⟨#[40, 49, 32, 42, 32, 50, 41, 32, 42, 32, 51]⟩, .slice none 0 0] (.bool true) := tot_closed all_good A (rulesK2_ok A) Tryz.func11 (by kernel_rfl) (by kernel_rfl) (by kernel_rfl) pr_10_10_run

set_option maxRecDepth 1000000 in
theorem pr_10_11_run (off : Nat) (spot : Option Nat) : (funcK (envP 241 wildsP rulesK2) 300 11 [.string ⟨#[49, 32, 42, 32, 50, 32, 47, 32, 51]⟩, .string ⟨#[40, 49, 32, 42, 32, 50, 41, 32, 47, 32, 51]⟩, .slice none 0 0] (tabsE off spot) (Tryz.prog.globals.size + 1) fun u _ _ mw => u = .bool true ∧ Nat.ble (Tryz.prog.globals.size + 1) mw = true) = ((.bool true : Value) = .bool true ∧ true = true) := by kernel_rfl
theorem pr_10_11 {base : World} (A : AtP base) : TotP base 11 [.string ⟨#[49, 32, 42, 32, 50, 32, 47, 32, 51]⟩, .string ⟨#[40, 49, 32, 42, 32, 50, 41, 32, 47, 32, 51]⟩, .slice none 0 0] (.bool true) := tot_closed all_good A (rulesK2_ok A) Tryz.func11 (by kernel_rfl) (by kernel_rfl) (by kernel_rfl) pr_10_11_run

set_option maxRecDepth 1000000 in
theorem pr_10_12_run (off : Nat) (spot : Option Nat) : (funcK (envP 241 wildsP rulesK2) 300 11 [.string ⟨#[49, 32, 42, 32, 50, 32, 42, 42, 32, 51]⟩, .string ⟨#[49, 32, 42, 32, 40, 50, 32, 42, 42, 32, 51, 41]⟩, .slice none 0 0] (tabsE off spot) (Tryz.prog.globals.size + 1) fun u _ _ mw => u = .bool true ∧ Nat.ble (Tryz.prog.globals.size + 1) mw = true) = ((.bool true : Value) = .bool true ∧ true = true) := by kernel_rfl
theorem pr_10_12 {base : World} (A : AtP base) : TotP base 11 [.string ⟨#[49, 32, 42, 32, 50, 32, 42, 42, 32, 51]⟩, .string ⟨#[49, 32, 42, 32, 40, 50, 32, 42, 42, 32, 51, 41]⟩, .slice none 0 0] (.bool true) := tot_closed all_good A (rulesK2_ok A) Tryz.func11 (by kernel_rfl) (by kernel_rfl) (by kernel_rfl) pr_10_12_run

set_option maxRecDepth 1000000 in
theorem pr_11_0_run (off : Nat) (spot : Option Nat) : (funcK (envP 241 wildsP rulesK2) 300 11 [.string ⟨#[49, 32, 47, 32, 50, 32, 111, 114, 32, 51]⟩, .string ⟨#[40, 49, 32, 47, 32, 50, 41, 32, 111, 114, 32, 51]⟩, .slice none 0 0] (tabsE off spot) (Tryz.prog.globals.size + 1) fun u _ _ mw => u = .bool true ∧ Nat.ble (Tryz.prog.globals.size + 1) mw = true) = ((.bool true : Value) = .bool true ∧ true = true) := by kernel_rfl
theorem pr_11_0 {base : World} (A : AtP base) : TotP base 11 [.string ⟨#[49, 32, 47, 32, 50, 32, 111, 114, 32, 51]⟩, .string ⟨#[40, 49, 32, 47, 32, 50, 41, 32, 111, 114, 32, 51]⟩, .slice none 0 0] (.bool true) := tot_closed all_good A (rulesK2_ok A) Tryz.func11 (by kernel_rfl) (by kernel_rfl) (by kernel_rfl) pr_11_0_run

set_option maxRecDepth 1000000 in
theorem pr_11_1_run (off : Nat) (spot : Option Nat) : (funcK (envP 241 wildsP rulesK2) 300 11 [.string ⟨#[49, 32, 47, 32, 50, 32, 97, 110, 100, 32, 51]⟩, .string ⟨#[40, 49, 32, 47, 32, 50, 41, 32, 97, 110, 100, 32, 51]⟩, .slice none 0 0] (tabsE off spot) (Tryz.prog.globals.size + 1) fun u _ _ mw => u = .bool true ∧ Nat.ble (Tryz.prog.globals.size + 1) mw = true) = ((.bool true : Value) = .bool true ∧ true = true) := by kernel_rfl
theorem pr_11_1 {base : World} (A : AtP base) : TotP base 11 [.string ⟨#[49, 32, 47, 32, 50, 32, 97, 110, 100, 32, 51]⟩, .string ⟨#[40, 49, 32, 47, 32, 50, 41, 32, 97, 110, 100, 32, 51]⟩, .slice none 0 0] (.bool true) := tot_closed all_good A (rulesK2_ok A) Tryz.func11 (by kernel_rfl) (by kernel_rfl) (by kernel_rfl) pr_11_1_run

set_option maxRecDepth 1000000 in
theorem pr_11_2_run (off : Nat) (spot : Option Nat) : (funcK (envP 241 wildsP rulesK2) 300 11 [.string ⟨#[49, 32, 47, 32, 50, 32, 61, 32, 51]⟩, .string ⟨#[40, 49, 32, 47, 32, 50, 41, 32, 61, 32, 51]⟩, .slice none 0 0] (tabsE off spot) (Tryz.prog.globals.size + 1) fun u _ _ mw => u = .bool true ∧ Nat.ble (Tryz.prog.globals.size + 1) mw = true) = ((.bool true : Value) = .bool true ∧ true = true) := by kernel_rfl
theorem pr_11_2 {base : World} (A : AtP base) : TotP base 11 [.string ⟨#[49, 32, 47, 32, 50, 32, 61, 32, 51]⟩, .string ⟨#[40, 49, 32, 47, 32, 50, 41, 32, 61, 32, 51]⟩, .slice none 0 0] (.bool true) := tot_closed all_good A (rulesK2_ok A) Tryz.func11 (by kernel_rfl) (by kernel_rfl) (by kernel_rfl) pr_11_2_run

set_option maxRecDepth 1000000 in
theorem pr_11_3_run (off : Nat) (spot : Option Nat) : (funcK (envP 241 wildsP rulesK2) 300 11 [.string ⟨#[49, 32, 47, 32, 50, 32, 33, 61, 32, 51]⟩, .string ⟨#[40, 49, 32, 47, 32, 50, 41, 32, 33, 61, 32, 51]⟩, .slice none 0 0] (tabsE off spot) (Tryz.prog.globals.size + 1) fun u _ _ mw => u = .bool true ∧ Nat.ble (Tryz.prog.globals.size + 1) mw = true) = ((.bool true : Value) = .bool true ∧ true = true) := by kernel_rfl
theorem pr_11_3 {base : World} (A : AtP base) : TotP base 11 [.string ⟨#[49, 32, 47, 32, 50, 32, 33, 61, 32, 51]⟩, .string ⟨#[40, 49, 32, 47, 32, 50, 41, 32, 33, 61, 32, 51]⟩, .slice none 0 0] (.bool true) := tot_closed all_good A (rulesK2_ok A) Tryz.func11 (by kernel_rfl) (by kernel_rfl) (by kernel_rfl) pr_11_3_run

set_option maxRecDepth 1000000 in
theorem pr_11_4_run (off : Nat) (spot : Option Nat) : (funcK (envP 241 wildsP rulesK2) 300 11 [.string ⟨#[49, 32, 47, 32, 50, 32, 60, 32, 51]⟩, .string ⟨#[40, 49, 32, 47, 32, 50, 41, 32, 60, 32, 51]⟩, .slice none 0 0] (tabsE off spot) (Tryz.prog.globals.size + 1) fun u _ _ mw => u = .bool true ∧ Nat.ble (Tryz.prog.globals.size + 1) mw = true) = ((.bool true : Value) = .bool true ∧ true = true) := by kernel_rfl
theorem pr_11_4 {base : World} (A : AtP base) : TotP base 11 [.string ⟨#[49, 32, 47, 32, 50, 32, 60, 32, 51]⟩, .string ⟨#[40, 49, 32, 47, 32, 50, 41, 32, 60, 32, 51]⟩, .slice none 0 0] (.bool true) := tot_closed all_good A (rulesK2_ok A) Tryz.func11 (by kernel_rfl) (by kernel_rfl) (by kernel_rfl) pr_11_4_run

set_option maxRecDepth 1000000 in
theorem pr_11_5_run (off : Nat) (spot : Option Nat) : (funcK (envP 241 wildsP rulesK2) 300 11 [.string ⟨#[49, 32, 47, 32, 50, 32, 60, 61, 32, 51]⟩, .string ⟨#[40, 49, 32, 47, 32, 50, 41, 32, 60, 61, 32, 51]⟩, .slice none 0 0] (tabsE off spot) (Tryz.prog.globals.size + 1) fun u _ _ mw => u = .bool true ∧ Nat.ble (Tryz.prog.globals.size + 1) mw = true) = ((.bool true : Value) = .bool true ∧ true = true) := by kernel_rfl
theorem pr_11_5 {base : World} (A : AtP base) : TotP base 11 [.string ⟨#[49, 32, 47, 32, 50, 32, 60, 61, 32, 51]⟩, .string ⟨#[40, 49, 32, 47, 32, 50, 41, 32, 60, 61, 32, 51]⟩, .slice none 0 0] (.bool true) := tot_closed all_good A (rulesK2_ok A) Tryz.func11 (by kernel_rfl) (by kernel_rfl) (by kernel_rfl) pr_11_5_run

set_option maxRecDepth 1000000 in
theorem pr_11_6_run (off : Nat) (spot : Option Nat) : (funcK (envP 241 wildsP rulesK2) 300 11 [.string ⟨#[49, 32, 47, 32, 50, 32, 62, 32, 51]⟩, .string ⟨#[40, 49, 32, 47, 32, 50, 41, 32, 62, 32, 51]⟩, .slice none 0 0] (tabsE off spot) (Tryz.prog.globals.size + 1) fun u _ _ mw => u = .bool true ∧ Nat.ble (Tryz.prog.globals.size + 1) mw = true) = ((.bool true : Value) = .bool true ∧ true = true) := by kernel_rfl
theorem pr_11_6 {base : World} (A : AtP base) : TotP base 11 [.string ⟨#[49, 32, 47, 32, 50, 32, 62, 32, 51]⟩, .string ⟨#[40, 49, 32, 47, 32, 50, 41, 32, 62, 32, 51]⟩, .slice none 0 0] (.bool true) := tot_closed all_good A (rulesK2_ok A) Tryz.func11 (by kernel_rfl) (by kernel_rfl) (by kernel_rfl) pr_11_6_run

set_option maxRecDepth 1000000 in
theorem pr_11_7_run (off : Nat) (spot : Option Nat) : (funcK (envP 241 wildsP rulesK2) 300 11 [.string ⟨#[49, 32, 47, 32, 50, 32, 62, 61, 32, 51]⟩, .string ⟨#[40, 49, 32, 47, 32, 50, 41, 32, 62, 61, 32, 51]⟩, .slice none 0 0] (tabsE off spot) (Tryz.prog.globals.size + 1) fun u _ _ mw => u = .bool true ∧ Nat.ble (Tryz.prog.globals.size + 1) mw = true) = ((.bool true : Value) = .bool true ∧ true = true) := by kernel_rfl
theorem pr_11_7 {base : World} (A : AtP base) : TotP base 11 [.string ⟨#[49, 32, 47, 32, 50, 32, 62, 61, 32, 51]⟩, .string ⟨#[40, 49, 32, 47, 32, 50, 41, 32, 62, 61, 32, 51]⟩, .slice none 0 0] (.bool true) := tot_closed all_good A (rulesK2_ok A) Tryz.func11 (by kernel_rfl) (by kernel_rfl) (by kernel_rfl) pr_11_7_run

set_option maxRecDepth 1000000 in
theorem pr_11_8_run (off : Nat) (spot : Option Nat) : (funcK (envP 241 wildsP rulesK2) 300 11 [.string ⟨#[49, 32, 47, 32, 50, 32, 43, 32, 51]⟩, .string ⟨#[40, 49, 32, 47, 32, 50, 41, 32, 43, 32, 51]⟩, .slice none 0 0] (tabsE off spot) (Tryz.prog.globals.size + 1) fun u _ _ mw => u = .bool true ∧ Nat.ble (Tryz.prog.globals.size + 1) mw = true) = ((.bool true : Value) = .bool true ∧ true = true) := by kernel_rfl
theorem pr_11_8 {base : World} (A : AtP base) : TotP base 11 [.string ⟨#[49, 32, 47, 32, 50, 32, 43, 32, 51]⟩, .string ⟨#[40, 49, 32, 47, 32, 50, 41, 32, 43, 32, 51]⟩, .slice none 0 0] (.bool true) := tot_closed all_good A (rulesK2_ok A) Tryz.func11 (by kernel_rfl) (by kernel_rfl) (by kernel_rfl) pr_11_8_run

set_option maxRecDepth 1000000 in
theorem pr_11_9_run (off : Nat) (spot : Option Nat) : (funcK (envP 241 wildsP rulesK2) 300 11 [.string ⟨#[49, 32, 47, 32, 50, 32, 45, 32, 51]⟩, .string ⟨#[40, 49, 32, 47, 32, 50, 41, 32, 45, 32, 51]⟩, .slice none 0 0] (tabsE off spot) (Tryz.prog.globals.size + 1) fun u _ _ mw => u = .bool true ∧ Nat.ble (Tryz.prog.globals.size + 1) mw = true) = ((.bool true : Value) = .bool true ∧ true = true) := by kernel_rfl
theorem pr_11_9 {base : World} (A : AtP base) : TotP base 11 [.string ⟨#[49, 32, 47, 32, 50, 32, 45, 32, 51]⟩, .string ⟨#[40, 49, 32, 47, 32, 50, 41, 32, 45, 32, 51]⟩, .slice none 0 0] (.bool true) := tot_closed all_good A (rulesK2_ok A) Tryz.func11 (by kernel_rfl) (by kernel_rfl) (by kernel_rfl) pr_11_9_run

set_option maxRecDepth 1000000 in
theorem pr_11_10_run (off : Nat) (spot : Option Nat) : (funcK (envP 241 wildsP rulesK2) 300 11 [.string ⟨#[49, 32, 47, 32, 50, 32, 42, 32, 51]⟩, .string ⟨#[40, 49, 32, 47, 32, 50, 41, 32, 42, 32, 51]⟩, .slice none 0 0] (tabsE off spot) (Tryz.prog.globals.size + 1) fun u _ _ mw => u = .bool true ∧ Nat.ble (Tryz.prog.globals.size + 1) mw = true) = ((.bool true : Value) = .bool true ∧ true = true) := by kernel_rfl
theorem pr_11_10 {base : World} (A : AtP base) : TotP base 11 [.string ⟨#[49, 32, 47, 32, 50, 32, 42, 32, 51]⟩, .string ⟨#[40, 49, 32, 47, 32, 50, 41, 32, 42, 32, 51]⟩, .slice none 0 0] (.bool true) := tot_closed all_good A (rulesK2_ok A) Tryz.func11 (by kernel_rfl) (by kernel_rfl) (by kernel_rfl) pr_11_10_run

set_option maxRecDepth 1000000 in
theorem pr_11_11_run (off : Nat) (spot : Option Nat) : (funcK (envP 241 wildsP rulesK2) 300 11 [.string ⟨#[49, 32, 47, 32, 50, 32, 47, 32, 51]⟩, .string ⟨#[40, 49, 32, 47, 32, 50, 41, 32, 47, 32, 51]⟩, .slice none 0 0] (tabsE off spot) (Tryz.prog.globals.size + 1) fun u _ _ mw => u = .bool true ∧ Nat.ble (Tryz.prog.globals.size + 1) mw = true) = ((.bool true : Value) = .bool true ∧ true = true) := by kernel_rfl
theorem pr_11_11 {base : World} (A : AtP base) : TotP base 11 [.string ⟨#[49, 32, 47, 32, 50, 32, 47, 32, 51]⟩, .string ⟨#[40, 49, 32, 47, 32, 50, 41, 32, 47, 32, 51]⟩, .slice none 0 0] (.bool true) := tot_closed all_good A (rulesK2_ok A) Tryz.func11 (by kernel_rfl) (by kernel_rfl) (by kernel_rfl) pr_11_11_run

set_option maxRecDepth 1000000 in
theorem pr_11_12_run (off : Nat) (spot : Option Nat) : (funcK (envP 241 wildsP rulesK2) 300 11 [.string ⟨#[49, 32, 47, 32, 50, 32, 42, 42, 32, 51]⟩, .string ⟨#[49, 32, 47, 32, 40, 50, 32, 42, 42, 32, 51, 41]⟩, .slice none 0 0] (tabsE off spot) (Tryz.prog.globals.size + 1) fun u _ _ mw => u = .bool true ∧ Nat.ble (Tryz.prog.globals.size + 1) mw = true) = ((.bool true : Value) = .bool true ∧ true = true) := by kernel_rfl
theorem pr_11_12 {base : World} (A : AtP base) : TotP base 11 [.string ⟨#[49, 32, 47, 32, 50, 32, 42, 42, 32, 51]⟩, .string ⟨#[49, 32, 47, 32, 40, 50, 32, 42, 42, 32, 51, 41]⟩, .slice none 0 0] (.bool true) := tot_closed all_good A (rulesK2_ok A) Tryz.func11 (by kernel_rfl) (by kernel_rfl) (by kernel_rfl) pr_11_12_run

set_option maxRecDepth 1000000 in
theorem pr_12_0_run (off : Nat) (spot : Option Nat) : (funcK (envP 241 wildsP rulesK2) 300 11 [.string ⟨#[49, 32, 42, 42, 32, 50, 32, 111, 114, 32, 51]⟩, .string ⟨#[40, 49, 32, 42, 42, 32, 50, 41, 32, 111, 114, 32, 51]⟩, .slice none 0 0] (tabsE off spot) (Tryz.prog.globals.size + 1) fun u _ _ mw => u = .bool true ∧ Nat.ble (Tryz.prog.globals.size + 1) mw = true) = ((.bool true : Value) = .bool true ∧ true = true) := by kernel_rfl
theorem pr_12_0 {base : World} (A : AtP base) : TotP base 11 [.string ⟨#[49, 32, 42, 42, 32, 50, 32, 111, 114, 32, 51]⟩, .string ⟨#[40, 49, 32, 42, 42, 32, 50, 41, 32, 111, 114, 32, 51]⟩, .slice none 0 0] (.bool true) := tot_closed all_good A (rulesK2_ok A) Tryz.func11 (by kernel_rfl) (by kernel_rfl) (by kernel_rfl) pr_12_0_run

set_option maxRecDepth 1000000 in
theorem pr_12_1_run (off : Nat) (spot : Option Nat) : (funcK (envP 241 wildsP rulesK2) 300 11 [.string ⟨#[49, 32, 42, 42, 32, 50, 32, 97, 110, 100, 32, 51]⟩, .string ⟨#[40, 49, 32, 42, 42, 32, 50, 41, 32, 97, 110, 100, 32, 51]⟩, .slice none 0 0] (tabsE off spot) (Tryz.prog.globals.size + 1) fun u _ _ mw => u = .bool true ∧ Nat.ble (Tryz.prog.globals.size + 1) mw = true) = ((.bool true : Value) = .bool true ∧ true = true) := by kernel_rfl
theorem pr_12_1 {base : World} (A : AtP base) : TotP base 11 [.string ⟨#[49, 32, 42, 42, 32, 50, 32, 97, 110, 100, 32, 51]⟩, .string ⟨#[40, 49, 32, 42, 42, 32, 50, 41, 32, 97, 110, 100, 32, 51]⟩, .slice none 0 0] (.bool true) := tot_closed all_good A (rulesK2_ok A) Tryz.func11 (by kernel_rfl) (by kernel_rfl) (by kernel_rfl) pr_12_1_run

set_option maxRecDepth 1000000 in
theorem pr_12_2_run (off : Nat) (spot : Option Nat) : (funcK (envP 241 wildsP rulesK2) 300 11 [.string ⟨#[49, 32, 42, 42, 32, 50, 32, 61, 32, 51]⟩, .string ⟨#[40, 49, 32, 42, 42, 32, 50, 41, 32, 61, 32, 51]⟩, .slice none 0 0] (tabsE off spot) (Tryz.prog.globals.size + 1) fun u _ _ mw => u = .bool true ∧ Nat.ble (Tryz.prog.globals.size + 1) mw = true) = ((.bool true : Value) = .bool true ∧ true = true) := by kernel_rfl
theorem pr_12_2 {base : World} (A : AtP base) : TotP base 11 [.string ⟨#[49, 32, 42, 42, 32, 50, 32, 61, 32, 51]⟩, .string ⟨#[40, 49, 32, 42, 42, 32, 50, 41, 32, 61, 32, 51]⟩, .slice none 0 0] (.bool true) := tot_closed all_good A (rulesK2_ok A) Tryz.func11 (by kernel_rfl) (by kernel_rfl) (by kernel_rfl) pr_12_2_run

set_option maxRecDepth 1000000 in
theorem pr_12_3_run (off : Nat) (spot : Option Nat) : (funcK (envP 241 wildsP rulesK2) 300 11 [.string ⟨#[49, 32, 42, 42, 32, 50, 32, 33, 61, 32, 51]⟩, .string ⟨#[40, 49, 32, 42, 42, 32, 50, 41, 32, 33, 61, 32, 51]⟩, .slice none 0 0] (tabsE off spot) (Tryz.prog.globals.size + 1) fun u _ _ mw => u = .bool true ∧ Nat.ble (Tryz.prog.globals.size + 1) mw = true) = ((.bool true : Value) = .bool true ∧ true = true) := by kernel_rfl
theorem pr_12_3 {base : World} (A : AtP base) : TotP base 11 [.string ⟨#[49, 32, 42, 42, 32, 50, 32, 33, 61, 32, 51]⟩, .string ⟨#[40, 49, 32, 42, 42, 32, 50, 41, 32, 33, 61, 32, 51]⟩, .slice none 0 0] (.bool true) := tot_closed all_good A (rulesK2_ok A) Tryz.func11 (by kernel_rfl) (by kernel_rfl) (by kernel_rfl) pr_12_3_run

set_option maxRecDepth 1000000 in
theorem pr_12_4_run (off : Nat) (spot : Option Nat) : (funcK (envP 241 wildsP rulesK2) 300 11 [.string ⟨#[49, 32, 42, 42, 32, 50, 32, 60, 32, 51]⟩, .string ⟨#[40, 49, 32, 42, 42, 32, 50, 41, 32, 60, 32, 51]⟩, .slice none 0 0] (tabsE off spot) (Tryz.prog.globals.size + 1) fun u _ _ mw => u = .bool true ∧ Nat.ble (Tryz.prog.globals.size + 1) mw = true) = ((.bool true : Value) = .bool true ∧ true = true) := by kernel_rfl
theorem pr_12_4 {base : World} (A : AtP base) : TotP base 11 [.string ⟨#[49, 32, 42, 42, 32, 50, 32, 60, 32, 51]⟩, .string ⟨#[40, 49, 32, 42, 42, 32, 50, 41, 32, 60, 32, 51]⟩, .slice none 0 0] (.bool true) := tot_closed all_good A (rulesK2_ok A) Tryz.func11 (by kernel_rfl) (by kernel_rfl) (by kernel_rfl) pr_12_4_run

set_option maxRecDepth 1000000 in
theorem pr_12_5_run (off : Nat) (spot : Option Nat) : (funcK (envP 241 wildsP rulesK2) 300 11 [.string ⟨#[49, 32, 42, 42, 32, 50, 32, 60, 61, 32, 51]⟩, .string ⟨#[40, 49, 32, 42, 42, 32, 50, 41, 32, 60, 61, 32, 51]⟩, .slice none 0 0] (tabsE off spot) (Tryz.prog.globals.size + 1) fun u _ _ mw => u = .bool true ∧ Nat.ble (Tryz.prog.globals.size + 1) mw = true) = ((.bool true : Value) = .bool true ∧ true = true) := by kernel_rfl
theorem pr_12_5 {base : World} (A : AtP base) : TotP base 11 [.string ⟨#[49, 32, 42, 42, 32, 50, 32, 60, 61, 32, 51]⟩, .string ⟨#[40, 49, 32, 42, 42, 32, 50, 41, 32, 60, 61, 32, 51]⟩, .slice none 0 0] (.bool true) := tot_closed all_good A (rulesK2_ok A) Tryz.func11 (by kernel_rfl) (by kernel_rfl) (by kernel_rfl) pr_12_5_run

set_option maxRecDepth 1000000 in
theorem pr_12_6_run (off : Nat) (spot : Option Nat) : (funcK (envP 241 wildsP rulesK2) 300 11 [.string ⟨#[49, 32, 42, 42, 32, 50, 32, 62, 32, 51]⟩, .string ⟨#[40, 49, 32, 42, 42, 32, 50, 41, 32, 62, 32, 51]⟩, .slice none 0 0] (tabsE off spot) (Tryz.prog.globals.size + 1) fun u _ _ mw => u = .bool true ∧ Nat.ble (Tryz.prog.globals.size + 1) mw = true) = ((.bool true : Value) = .bool true ∧ true = true) := by kernel_rfl
theorem pr_12_6 {base : World} (A : AtP base) : TotP base 11 [.string ⟨#[49, 32, 42, 42, 32, 50, 32, 62, 32, 51]⟩, .string ⟨#[40, 49, 32, 42, 42, 32, 50, 41, 32, 62, 32, 51]⟩, .slice none 0 0] (.bool true) := tot_closed all_good A (rulesK2_ok A) Tryz.func11 (by kernel_rfl) (by kernel_rfl) (by kernel_rfl) pr_12_6_run

set_option maxRecDepth 1000000 in
theorem pr_12_7_run (off : Nat) (spot : Option Nat) : (funcK (envP 241 wildsP rulesK2) 300 11 [.string ⟨#[49, 32, 42, 42, 32, 50, 32, 62, 61, 32, 51]⟩, .string ⟨#[40, 49, 32, 42, 42, 32, 50, 41, 32, 62, 61, 32, 51]⟩, .slice none 0 0] (tabsE off spot) (Tryz.prog.globals.size + 1) fun u _ _ mw => u = .bool true ∧ Nat.ble (Tryz.prog.globals.size + 1) mw = true) = ((.bool true : Value) = .bool true ∧ true = true) := by kernel_rfl
theorem pr_12_7 {base : World} (A : AtP base) : TotP base 11 [.string ⟨#[49, 32, 42, 42, 32, 50, 32, 62, 61, 32, 51]⟩, .string ⟨#[40, 49, 32, 42, 42, 32, 50, 41, 32, 62, 61, 32, 51]⟩, .slice none 0 0] (.bool true) := tot_closed all_good A (rulesK2_ok A) Tryz.func11 (by kernel_rfl) (by kernel_rfl) (by kernel_rfl) pr_12_7_run

set_option maxRecDepth 1000000 in
theorem pr_12_8_run (off : Nat) (spot : Option Nat) : (funcK (envP 241 wildsP rulesK2) 300 11 [.string ⟨#[49, 32, 42, 42, 32, 50, 32, 43, 32, 51]⟩, .string ⟨#[40, 49, 32, 42, 42, 32, 50, 41, 32, 43, 32, 51]⟩, .slice none 0 0] (tabsE off spot) (Tryz.prog.globals.size + 1) fun u _ _ mw => u = .bool true ∧ Nat.ble (Tryz.prog.globals.size + 1) mw = true) = ((.bool true : Value) = .bool true ∧ true = true) := by kernel_rfl
theorem pr_12_8 {base : World} (A : AtP base) : TotP base 11 [.string ⟨#[49, 32, 42, 42, 32, 50, 32, 43, 32, 51]⟩, .string ⟨#[40, 49, 32, 42, 42, 32, 50, 41, 32, 43, 32, 51]⟩, .slice none 0 0] (.bool true) := tot_closed all_good A (rulesK2_ok A) Tryz.func11 (by kernel_rfl) (by kernel_rfl) (by kernel_rfl) pr_12_8_run

set_option maxRecDepth 1000000 in
theorem pr_12_9_run (off : Nat) (spot : Option Nat) : (funcK (envP 241 wildsP rulesK2) 300 11 [.string ⟨#[49, 32, 42, 42, 32, 50, 32, 45, 32, 51]⟩, .string ⟨#[40, 49, 32, 42, 42, 32, 50, 41, 32, 45, 32, 51]⟩, .slice none 0 0] (tabsE off spot) (Tryz.prog.globals.size + 1) fun u _ _ mw => u = .bool true ∧ Nat.ble (Tryz.prog.globals.size + 1) mw = true) = ((.bool true : Value) = .bool true ∧ true = true) := by kernel_rfl
theorem pr_12_9 {base : World} (A : AtP base) : TotP base 11 [.string ⟨#[49, 32, 42, 42, 32, 50, 32, 45, 32, 51]⟩, .string ⟨#[40, 49, 32, 42, 42, 32, 50, 41, 32, 45, 32, 51]⟩, .slice none 0 0] (.bool true) := tot_closed all_good A (rulesK2_ok A) Tryz.func11 (by kernel_rfl) (by kernel_rfl) (by kernel_rfl) pr_12_9_run

set_option maxRecDepth 1000000 in
theorem pr_12_10_run (off : Nat) (spot : Option Nat) : (funcK (envP 241 wildsP rulesK2) 300 11 [.string ⟨#[49, 32, 42, 42, 32, 50, 32, 42, 32, 51]⟩, .string ⟨#[40, 49, 32, 42, 42, 32, 50, 41, 32, 42, 32, 51]⟩, .slice none 0 0] (tabsE off spot) (Tryz.prog.globals.size + 1) fun u _ _ mw => u = .bool true ∧ Nat.ble (Tryz.prog.globals.size + 1) mw = true) = ((.bool true : Value) = .bool true ∧ true = true) := by kernel_rfl
theorem pr_12_10 {base : World} (A : AtP base) : TotP base 11 [.string ⟨#[49, 32, 42, 42, 32, 50, 32, 42, 32, 51]⟩, .string ⟨#[40, 49, 32, 42, 42, 32, 50, 41, 32, 42, 32, 51]⟩, .slice none 0 0] (.bool true) := tot_closed all_good A (rulesK2_ok A) Tryz.func11 (by kernel_rfl) (by kernel_rfl) (by kernel_rfl) pr_12_10_run

set_option maxRecDepth 1000000 in
theorem pr_12_11_run (off : Nat) (spot : Option Nat) : (funcK (envP 241 wildsP rulesK2) 300 11 [.string ⟨#[49, 32, 42, 42, 32, 50, 32, 47, 32, 51]⟩, .string ⟨#[40, 49, 32, 42, 42, 32, 50, 41, 32, 47, 32, 51]⟩, .slice none 0 0] (tabsE off spot) (Tryz.prog.globals.size + 1) fun u _ _ mw => u = .bool true ∧ Nat.ble (Tryz.prog.globals.size + 1) mw = true) = ((.bool true : Value) = .bool true ∧ true = true) := by kernel_rfl
theorem pr_12_11 {base : World} (A : AtP base) : TotP base 11 [.string ⟨#[49, 32, 42, 42, 32, 50, 32, 47, 32, 51]⟩, .string ⟨#[40, 49, 32, 42, 42, 32, 50, 41, 32, 47, 32, 51]⟩, .slice none 0 0] (.bool true) := tot_closed all_good A (rulesK2_ok A) Tryz.func11 (by kernel_rfl) (by kernel_rfl) (by kernel_rfl) pr_12_11_run

set_option maxRecDepth 1000000 in
theorem pr_12_12_run (off : Nat) (spot : Option Nat) : (funcK (envP 241 wildsP rulesK2) 300 11 [.string ⟨#[49, 32, 42, 42, 32, 50, 32, 42, 42, 32, 51]⟩, .string ⟨#[40, 49, 32, 42, 42, 32, 50, 41, 32, 42, 42, 32, 51]⟩, .slice none 0 0] (tabsE off spot) (Tryz.prog.globals.size + 1) fun u _ _ mw => u = .bool true ∧ Nat.ble (Tryz.prog.globals.size + 1) mw = true) = ((.bool true : Value) = .bool true ∧ true = true) := by kernel_rfl
theorem pr_12_12 {base : World} (A : AtP base) : TotP base 11 [.string ⟨#[49, 32, 42, 42, 32, 50, 32, 42, 42, 32, 51]⟩, .string ⟨#[40, 49, 32, 42, 42, 32, 50, 41, 32, 42, 42, 32, 51]⟩, .slice none 0 0] (.bool true) := tot_closed all_good A (rulesK2_ok A) Tryz.func11 (by kernel_rfl) (by kernel_rfl) (by kernel_rfl) pr_12_12_run

set_option maxRecDepth 1000000 in
theorem c1_0_run (off : Nat) (spot : Option Nat) : (funcK (envP 241 wildsP rulesK2) 300 11 [.string ⟨#[45, 49, 32, 111, 114, 32, 45, 50]⟩, .string ⟨#[40, 45, 49, 41, 32, 111, 114, 32, 40, 45, 50, 41]⟩, .slice none 0 0] (tabsE off spot) (Tryz.prog.globals.size + 1) fun u _ _ mw => u = .bool true ∧ Nat.ble (Tryz.prog.globals.size + 1) mw = true) = ((.bool true : Value) = .bool true ∧ true = true) := by kernel_rfl
theorem c1_0 {base : World} (A : AtP base) : TotP base 11 [.string ⟨#[45, 49, 32, 111, 114, 32, 45, 50]⟩, .string ⟨#[40, 45, 49, 41, 32, 111, 114, 32, 40, 45, 50, 41]⟩, .slice none 0 0] (.bool true) := tot_closed all_good A (rulesK2_ok A) Tryz.func11 (by kernel_rfl) (by kernel_rfl) (by kernel_rfl) c1_0_run

set_option maxRecDepth 1000000 in
theorem c2_0_run (off : Nat) (spot : Option Nat) : (funcK (envP 241 wildsP rulesK2) 300 11 [.string ⟨#[102, 40, 49, 32, 111, 114, 32, 50, 41]⟩, .string ⟨#[40, 102, 41, 40, 49, 32, 111, 114, 32, 50, 41]⟩, .slice none 0 0] (tabsE off spot) (Tryz.prog.globals.size + 1) fun u _ _ mw => u = .bool true ∧ Nat.ble (Tryz.prog.globals.size + 1) mw = true) = ((.bool true : Value) = .bool true ∧ true = true) := by kernel_rfl
theorem c2_0 {base : World} (A : AtP base) : TotP base 11 [.string ⟨#[102, 40, 49, 32, 111, 114, 32, 50, 41]⟩, .string ⟨#[40, 102, 41, 40, 49, 32, 111, 114, 32, 50, 41]⟩, .slice none 0 0] (.bool true) := tot_closed all_good A (rulesK2_ok A) Tryz.func11 (by kernel_rfl) (by kernel_rfl) (by kernel_rfl) c2_0_run

set_option maxRecDepth 1000000 in
theorem c3_0_run (off : Nat) (spot : Option Nat) : (funcK (envP 241 wildsP rulesK2) 300 11 [.string ⟨#[91, 49, 32, 111, 114, 32, 50, 44, 32, 51, 93]⟩, .string ⟨#[91, 49, 32, 111, 114, 32, 50, 44, 32, 51, 93]⟩, .slice none 0 0] (tabsE off spot) (Tryz.prog.globals.size + 1) fun u _ _ mw => u = .bool true ∧ Nat.ble (Tryz.prog.globals.size + 1) mw = true) = ((.bool true : Value) = .bool true ∧ true = true) := by kernel_rfl
theorem c3_0 {base : World} (A : AtP base) : TotP base 11 [.string ⟨#[91, 49, 32, 111, 114, 32, 50, 44, 32, 51, 93]⟩, .string ⟨#[91, 49, 32, 111, 114, 32, 50, 44, 32, 51, 93]⟩, .slice none 0 0] (.bool true) := tot_closed all_good A (rulesK2_ok A) Tryz.func11 (by kernel_rfl) (by kernel_rfl) (by kernel_rfl) c3_0_run

set_option maxRecDepth 1000000 in
theorem c1_1_run (off : Nat) (spot : Option Nat) : (funcK (envP 241 wildsP rulesK2) 300 11 [.string ⟨#[45, 49, 32, 97, 110, 100, 32, 45, 50]⟩, .string ⟨#[40, 45, 49, 41, 32, 97, 110, 100, 32, 40, 45, 50, 41]⟩, .slice none 0 0] (tabsE off spot) (Tryz.prog.globals.size + 1) fun u _ _ mw => u = .bool true ∧ Nat.ble (Tryz.prog.globals.size + 1) mw = true) = ((.bool true : Value) = .bool true ∧ true = true) := by kernel_rfl
theorem c1_1 {base : World} (A : AtP base) : TotP base 11 [.string ⟨#[45, 49, 32, 97, 110, 100, 32, 45, 50]⟩, .string ⟨#[40, 45, 49, 41, 32, 97, 110, 100, 32, 40, 45, 50, 41]⟩, .slice none 0 0] (.bool true) := tot_closed all_good A (rulesK2_ok A) Tryz.func11 (by kernel_rfl) (by kernel_rfl) (by kernel_rfl) c1_1_run

set_option maxRecDepth 1000000 in
theorem c2_1_run (off : Nat) (spot : Option Nat) : (funcK (envP 241 wildsP rulesK2) 300 11 [.string ⟨#[102, 40, 49, 32, 97, 110, 100, 32, 50, 41]⟩, .string ⟨#[40, 102, 41, 40, 49, 32, 97, 110, 100, 32, 50, 41]⟩, .slice none 0 0] (tabsE off spot) (Tryz.prog.globals.size + 1) fun u _ _ mw => u = .bool true ∧ Nat.ble (Tryz.prog.globals.size + 1) mw = true) = ((.bool true : Value) = .bool true ∧ true = true) := by kernel_rfl
theorem c2_1 {base : World} (A : AtP base) : TotP base 11 [.string ⟨#[102, 40, 49, 32, 97, 110, 100, 32, 50, 41]⟩, .string ⟨#[40, 102, 41, 40, 49, 32, 97, 110, 100, 32, 50, 41]⟩, .slice none 0 0] (.bool true) := tot_closed all_good A (rulesK2_ok A) Tryz.func11 (by kernel_rfl) (by kernel_rfl) (by kernel_rfl) c2_1_run

set_option maxRecDepth 1000000 in
theorem c3_1_run (off : Nat) (spot : Option Nat) : (funcK (envP 241 wildsP rulesK2) 300 11 [.string ⟨#[91, 49, 32, 97, 110, 100, 32, 50, 44, 32, 51, 93]⟩, .string ⟨#[91, 49, 32, 97, 110, 100, 32, 50, 44, 32, 51, 93]⟩, .slice none 0 0] (tabsE off spot) (Tryz.prog.globals.size + 1) fun u _ _ mw => u = .bool true ∧ Nat.ble (Tryz.prog.globals.size + 1) mw = true) = ((.bool true : Value) = .bool true ∧ true = true) := by kernel_rfl
theorem c3_1 {base : World} (A : AtP base) : TotP base 11 [.string ⟨#[91, 49, 32, 97, 110, 100, 32, 50, 44, 32, 51, 93]⟩, .string ⟨#[91, 49, 32, 97, 110, 100, 32, 50, 44, 32, 51, 93]⟩, .slice none 0 0] (.bool true) := tot_closed all_good A (rulesK2_ok A) Tryz.func11 (by kernel_rfl) (by kernel_rfl) (by kernel_rfl) c3_1_run

end Go.Proofs.YtapmcocefoccdaaGreatDoor
