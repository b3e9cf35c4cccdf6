/-
  Closed runs of the reader: operators, part 0.
-/
import Derived.Test.YtapmcocefoccdaaGreatDoorKb
namespace Go.Proofs.YtapmcocefoccdaaGreatDoor
open Go Go.Pe Go.RowKit

set_option maxRecDepth 1000000 in
theorem pr_0_0_run (off : Nat) (spot : Option Nat) : (funcK (envP 241 wildsP rulesK2) 300 11 [.string ⟨#[49, 32, 111, 114, 32, 50, 32, 111, 114, 32, 51]⟩, .string ⟨#[40, 49, 32, 111, 114, 32, 50, 41, 32, 111, 114, 32, 51]⟩, .slice none 0 0] (tabsE off spot) (Tryz.prog.globals.size + 1) fun u _ _ mw => u = .bool true ∧ Nat.ble (Tryz.prog.globals.size + 1) mw = true) = ((.bool true : Value) = .bool true ∧ true = true) := by kernel_rfl
theorem pr_0_0 {base : World} (A : AtP base) : TotP base 11 [.string ⟨#[49, 32, 111, 114, 32, 50, 32, 111, 114, 32, 51]⟩, .string ⟨#[40, 49, 32, 111, 114, 32, 50, 41, 32, 111, 114, 32, 51]⟩, .slice none 0 0] (.bool true) := tot_closed all_good A (rulesK2_ok A) Tryz.func11 (by kernel_rfl) (by kernel_rfl) (by kernel_rfl) pr_0_0_run

set_option maxRecDepth 1000000 in
theorem pr_0_1_run (off : Nat) (spot : Option Nat) : (funcK (envP 241 wildsP rulesK2) 300 11 [.string ⟨#[49, 32, 111, 114, 32, 50, 32, 97, 110, 100, 32, 51]⟩, .string ⟨#[49, 32, 111, 114, 32, 40, 50, 32, 97, 110, 100, 32, 51, 41]⟩, .slice none 0 0] (tabsE off spot) (Tryz.prog.globals.size + 1) fun u _ _ mw => u = .bool true ∧ Nat.ble (Tryz.prog.globals.size + 1) mw = true) = ((.bool true : Value) = .bool true ∧ true = true) := by kernel_rfl
theorem pr_0_1 {base : World} (A : AtP base) : TotP base 11 [.string ⟨#[49, 32, 111, 114, 32, 50, 32, 97, 110, 100, 32, 51]⟩, .string ⟨#[49, 32, 111, 114, 32, 40, 50, 32, 97, 110, 100, 32, 51, 41]⟩, .slice none 0 0] (.bool true) := tot_closed all_good A (rulesK2_ok A) Tryz.func11 (by kernel_rfl) (by kernel_rfl) (by kernel_rfl) pr_0_1_run

set_option maxRecDepth 1000000 in
theorem pr_0_2_run (off : Nat) (spot : Option Nat) : (funcK (envP 241 wildsP rulesK2) 300 11 [.string ⟨#[49, 32, 111, 114, 32, 50, 32, 61, 32, 51]⟩, .string ⟨#[49, 32, 111, 114, 32, 40, 50, 32, 61, 32, 51, 41]⟩, .slice none 0 0] (tabsE off spot) (Tryz.prog.globals.size + 1) fun u _ _ mw => u = .bool true ∧ Nat.ble (Tryz.prog.globals.size + 1) mw = true) = ((.bool true : Value) = .bool true ∧ true = true) := by kernel_rfl
theorem pr_0_2 {base : World} (A : AtP base) : TotP base 11 [.string ⟨#[49, 32, 111, 114, 32, 50, 32, 61, 32, 51]⟩, .string ⟨#[49, 32, 111, 114, 32, 40, 50, 32, 61, 32, 51, 41]⟩, .slice none 0 0] (.bool true) := tot_closed all_good A (rulesK2_ok A) Tryz.func11 (by kernel_rfl) (by kernel_rfl) (by kernel_rfl) pr_0_2_run

set_option maxRecDepth 1000000 in
theorem pr_0_3_run (off : Nat) (spot : Option Nat) : (funcK (envP 241 wildsP rulesK2) 300 11 [.string ⟨#[49, 32, 111, 114, 32, 50, 32, 33, 61, 32, 51]⟩, .string ⟨#[49, 32, 111, 114, 32, 40, 50, 32, 33, 61, 32, 51, 41]⟩, .slice none 0 0] (tabsE off spot) (Tryz.prog.globals.size + 1) fun u _ _ mw => u = .bool true ∧ Nat.ble (Tryz.prog.globals.size + 1) mw = true) = ((.bool true : Value) = .bool true ∧ true = true) := by kernel_rfl
theorem pr_0_3 {base : World} (A : AtP base) : TotP base 11 [.string ⟨#[49, 32, 111, 114, 32, 50, 32, 33, 61, 32, 51]⟩, .string ⟨#[49, 32, 111, 114, 32, 40, 50, 32, 33, 61, 32, 51, 41]⟩, .slice none 0 0] (.bool true) := tot_closed all_good A (rulesK2_ok A) Tryz.func11 (by kernel_rfl) (by kernel_rfl) (by kernel_rfl) pr_0_3_run

set_option maxRecDepth 1000000 in
theorem pr_0_4_run (off : Nat) (spot : Option Nat) : (funcK (envP 241 wildsP rulesK2) 300 11 [.string ⟨#[49, 32, 111, 114, 32, 50, 32, 60, 32, 51]⟩, .string ⟨#[49, 32, 111, 114, 32, 40, 50, 32, 60, 32, 51, 41]⟩, .slice none 0 0] (tabsE off spot) (Tryz.prog.globals.size + 1) fun u _ _ mw => u = .bool true ∧ Nat.ble (Tryz.prog.globals.size + 1) mw = true) = ((.bool true : Value) = .bool true ∧ true = true) := by kernel_rfl
theorem pr_0_4 {base : World} (A : AtP base) : TotP base 11 [.string ⟨#[49, 32, 111, 114, 32, 50, 32, 60, 32, 51]⟩, .string ⟨#[49, 32, 111, 114, 32, 40, 50, 32, 60, 32, 51, 41]⟩, .slice none 0 0] (.bool true) := tot_closed all_good A (rulesK2_ok A) Tryz.func11 (by kernel_rfl) (by kernel_rfl) (by kernel_rfl) pr_0_4_run

set_option maxRecDepth 1000000 in
theorem pr_0_5_run (off : Nat) (spot : Option Nat) : (funcK (envP 241 wildsP rulesK2) 300 11 [.string ⟨#[49, 32, 111, 114, 32, 50, 32, 60, 61, 32, 51]⟩, .string ⟨#[49, 32, 111, 114, 32, 40, 50, 32, 60, 61, 32, 51, 41]⟩, .slice none 0 0] (tabsE off spot) (Tryz.prog.globals.size + 1) fun u _ _ mw => u = .bool true ∧ Nat.ble (Tryz.prog.globals.size + 1) mw = true) = ((.bool true : Value) = .bool true ∧ true = true) := by kernel_rfl
theorem pr_0_5 {base : World} (A : AtP base) : TotP base 11 [.string ⟨#[49, 32, 111, 114, 32, 50, 32, 60, 61, 32, 51]⟩, .string ⟨#[49, 32, 111, 114, 32, 40, 50, 32, 60, 61, 32, 51, 41]⟩, .slice none 0 0] (.bool true) := tot_closed all_good A (rulesK2_ok A) Tryz.func11 (by kernel_rfl) (by kernel_rfl) (by kernel_rfl) pr_0_5_run

set_option maxRecDepth 1000000 in
theorem pr_0_6_run (off : Nat) (spot : Option Nat) : (funcK (envP 241 wildsP rulesK2) 300 11 [.string ⟨#[49, 32, 111, 114, 32, 50, 32, 62, 32, 51]⟩, .string ⟨#[49, 32, 111, 114, 32, 40, 50, 32, 62, 32, 51, 41]⟩, .slice none 0 0] (tabsE off spot) (Tryz.prog.globals.size + 1) fun u _ _ mw => u = .bool true ∧ Nat.ble (Tryz.prog.globals.size + 1) mw = true) = ((.bool true : Value) = .bool true ∧ true = true) := by kernel_rfl
theorem pr_0_6 {base : World} (A : AtP base) : TotP base 11 [.string ⟨#[49, 32, 111, 114, 32, 50, 32, 62, 32, 51]⟩, .string ⟨#[49, 32, 111, 114, 32, 40, 50, 32, 62, 32, 51, 41]⟩, .slice none 0 0] (.bool true) := tot_closed all_good A (rulesK2_ok A) Tryz.func11 (by kernel_rfl) (by kernel_rfl) (by kernel_rfl) pr_0_6_run

set_option maxRecDepth 1000000 in
theorem pr_0_7_run (off : Nat) (spot : Option Nat) : (funcK (envP 241 wildsP rulesK2) 300 11 [.string ⟨#[49, 32, 111, 114, 32, 50, 32, 62, 61, 32, 51]⟩, .string ⟨#[49, 32, 111, 114, 32, 40, 50, 32, 62, 61, 32, 51, 41]⟩, .slice none 0 0] (tabsE off spot) (Tryz.prog.globals.size + 1) fun u _ _ mw => u = .bool true ∧ Nat.ble (Tryz.prog.globals.size + 1) mw = true) = ((.bool true : Value) = .bool true ∧ true = true) := by kernel_rfl
theorem pr_0_7 {base : World} (A : AtP base) : TotP base 11 [.string ⟨#[49, 32, 111, 114, 32, 50, 32, 62, 61, 32, 51]⟩, .string ⟨#[49, 32, 111, 114, 32, 40, 50, 32, 62, 61, 32, 51, 41]⟩, .slice none 0 0] (.bool true) := tot_closed all_good A (rulesK2_ok A) Tryz.func11 (by kernel_rfl) (by kernel_rfl) (by kernel_rfl) pr_0_7_run

set_option maxRecDepth 1000000 in
theorem pr_0_8_run (off : Nat) (spot : Option Nat) : (funcK (envP 241 wildsP rulesK2) 300 11 [.string ⟨#[49, 32, 111, 114, 32, 50, 32, 43, 32, 51]⟩, .string ⟨#[49, 32, 111, 114, 32, 40, 50, 32, 43, 32, 51, 41]⟩, .slice none 0 0] (tabsE off spot) (Tryz.prog.globals.size + 1) fun u _ _ mw => u = .bool true ∧ Nat.ble (Tryz.prog.globals.size + 1) mw = true) = ((.bool true : Value) = .bool true ∧ true = true) := by kernel_rfl
theorem pr_0_8 {base : World} (A : AtP base) : TotP base 11 [.string ⟨#[49, 32, 111, 114, 32, 50, 32, 43, 32, 51]⟩, .string ⟨#[49, 32, 111, 114, 32, 40, 50, 32, 43, 32, 51, 41]⟩, .slice none 0 0] (.bool true) := tot_closed all_good A (rulesK2_ok A) Tryz.func11 (by kernel_rfl) (by kernel_rfl) (by kernel_rfl) pr_0_8_run

set_option maxRecDepth 1000000 in
theorem pr_0_9_run (off : Nat) (spot : Option Nat) : (funcK (envP 241 wildsP rulesK2) 300 11 [.string ⟨#[49, 32, 111, 114, 32, 50, 32, 45, 32, 51]⟩, .string ⟨#[49, 32, 111, 114, 32, 40, 50, 32, 45, 32, 51, 41]⟩, .slice none 0 0] (tabsE off spot) (Tryz.prog.globals.size + 1) fun u _ _ mw => u = .bool true ∧ Nat.ble (Tryz.prog.globals.size + 1) mw = true) = ((.bool true : Value) = .bool true ∧ true = true) := by kernel_rfl
theorem pr_0_9 {base : World} (A : AtP base) : TotP base 11 [.string ⟨#[49, 32, 111, 114, 32, 50, 32, 45, 32, 51]⟩, .string ⟨#[49, 32, 111, 114, 32, 40, 50, 32, 45, 32, 51, 41]⟩, .slice none 0 0] (.bool true) := tot_closed all_good A (rulesK2_ok A) Tryz.func11 (by kernel_rfl) (by kernel_rfl) (by kernel_rfl) pr_0_9_run

set_option maxRecDepth 1000000 in
theorem pr_0_10_run (off : Nat) (spot : Option Nat) : (funcK (envP 241 wildsP rulesK2) 300 11 [.string ⟨#[49, 32, 111, 114, 32, 50, 32, 42, 32, 51]⟩, .string ⟨#[49, 32, 111, 114, 32, 40, 50, 32, 42, 32, 51, 41]⟩, .slice none 0 0] (tabsE off spot) (Tryz.prog.globals.size + 1) fun u _ _ mw => u = .bool true ∧ Nat.ble (Tryz.prog.globals.size + 1) mw = true) = ((.bool true : Value) = .bool true ∧ true = true) := by kernel_rfl
theorem pr_0_10 {base : World} (A : AtP base) : TotP base 11 [.string ⟨#[49, 32, 111, 114, 32, 50, 32, 42, 32, 51]⟩, .string ⟨#[49, 32, 111, 114, 32, 40, 50, 32, 42, 32, 51, 41]⟩, .slice none 0 0] (.bool true) := tot_closed all_good A (rulesK2_ok A) Tryz.func11 (by kernel_rfl) (by kernel_rfl) (by kernel_rfl) pr_0_10_run

set_option maxRecDepth 1000000 in
theorem pr_0_11_run (off : Nat) (spot : Option Nat) : (funcK (envP 241 wildsP rulesK2) 300 11 [.string ⟨#[49, 32, 111, 114, 32, 50, 32, 47, 32, 51]⟩, .string ⟨#[49, 32, 111, 114, 32, 40, 50, 32, 47, 32, 51, 41]⟩, .slice none 0 0] (tabsE off spot) (Tryz.prog.globals.size + 1) fun u _ _ mw => u = .bool true ∧ Nat.ble (Tryz.prog.globals.size + 1) mw = true) = ((.bool true : Value) = .bool true ∧ true = true) := by kernel_rfl
theorem pr_0_11 {base : World} (A : AtP base) : TotP base 11 [.string ⟨#[49, 32, 111, 114, 32, 50, 32, 47, 32, 51]⟩, .string ⟨#[49, 32, 111, 114, 32, 40, 50, 32, 47, 32, 51, 41]⟩, .slice none 0 0] (.bool true) := tot_closed all_good A (rulesK2_ok A) Tryz.func11 (by kernel_rfl) (by kernel_rfl) (by kernel_rfl) pr_0_11_run

set_option maxRecDepth 1000000 in
theorem pr_0_12_run (off : Nat) (spot : Option Nat) : (funcK (envP 241 wildsP rulesK2) 300 11 [.string ⟨#[49, 32, 111, 114, 32, 50, 32, 42, 42, 32, 51]⟩, .string ⟨#[49, 32, 111, 114, 32, 40, 50, 32, 42, 42, 32, 51, 41]⟩, .slice none 0 0] (tabsE off spot) (Tryz.prog.globals.size + 1) fun u _ _ mw => u = .bool true ∧ Nat.ble (Tryz.prog.globals.size + 1) mw = true) = ((.bool true : Value) = .bool true ∧ true = true) := by kernel_rfl
theorem pr_0_12 {base : World} (A : AtP base) : TotP base 11 [.string ⟨#[49, 32, 111, 114, 32, 50, 32, 42, 42, 32, 51]⟩, .string ⟨#[49, 32, 111, 114, 32, 40, 50, 32, 42, 42, 32, 51, 41]⟩, .slice none 0 0] (.bool true) := tot_closed all_good A (rulesK2_ok A) Tryz.func11 (by kernel_rfl) (by kernel_rfl) (by kernel_rfl) pr_0_12_run

set_option maxRecDepth 1000000 in
theorem pr_1_0_run (off : Nat) (spot : Option Nat) : (funcK (envP 241 wildsP rulesK2) 300 11 [.string ⟨#[49, 32, 97, 110, 100, 32, 50, 32, 111, 114, 32, 51]⟩, .string ⟨#[40, 49, 32, 97, 110, 100, 32, 50, 41, 32, 111, 114, 32, 51]⟩, .slice none 0 0] (tabsE off spot) (Tryz.prog.globals.size + 1) fun u _ _ mw => u = .bool true ∧ Nat.ble (Tryz.prog.globals.size + 1) mw = true) = ((.bool true : Value) = .bool true ∧ true = true) := by kernel_rfl
theorem pr_1_0 {base : World} (A : AtP base) : TotP base 11 [.string ⟨#[49, 32, 97, 110, 100, 32, 50, 32, 111, 114, 32, 51]⟩, .string ⟨#[40, 49, 32, 97, 110, 100, 32, 50, 41, 32, 111, 114, 32, 51]⟩, .slice none 0 0] (.bool true) := tot_closed all_good A (rulesK2_ok A) Tryz.func11 (by kernel_rfl) (by kernel_rfl) (by kernel_rfl) pr_1_0_run

set_option maxRecDepth 1000000 in
theorem pr_1_1_run (off : Nat) (spot : Option Nat) : (funcK (envP 241 wildsP rulesK2) 300 11 [.string ⟨#[49, 32, 97, 110, 100, 32, 50, 32, 97, 110, 100, 32, 51]⟩, .string ⟨#[40, 49, 32, 97, 110, 100, 32, 50, 41, 32, 97, 110, 100, 32, 51]⟩, .slice none 0 0] (tabsE off spot) (Tryz.prog.globals.size + 1) fun u _ _ mw => u = .bool true ∧ Nat.ble (Tryz.prog.globals.size + 1) mw = true) = ((.bool true : Value) = .bool true ∧ true = true) := by kernel_rfl
theorem pr_1_1 {base : World} (A : AtP base) : TotP base 11 [.string ⟨#[49, 32, 97, 110, 100, 32, 50, 32, 97, 110, 100, 32, 51]⟩, .string ⟨#[40, 49, 32, 97, 110, 100, 32, 50, 41, 32, 97, 110, 100, 32, 51]⟩, .slice none 0 0] (.bool true) := tot_closed all_good A (rulesK2_ok A) Tryz.func11 (by kernel_rfl) (by kernel_rfl) (by kernel_rfl) pr_1_1_run

set_option maxRecDepth 1000000 in
theorem pr_1_2_run (off : Nat) (spot : Option Nat) : (funcK (envP 241 wildsP rulesK2) 300 11 [.string ⟨#[49, 32, 97, 110, 100, 32, 50, 32, 61, 32, 51]⟩, .string ⟨#[49, 32, 97, 110, 100, 32, 40, 50, 32, 61, 32, 51, 41]⟩, .slice none 0 0] (tabsE off spot) (Tryz.prog.globals.size + 1) fun u _ _ mw => u = .bool true ∧ Nat.ble (Tryz.prog.globals.size + 1) mw = true) = ((.bool true : Value) = .bool true ∧ true = true) := by kernel_rfl
theorem pr_1_2 {base : World} (A : AtP base) : TotP base 11 [.string ⟨#[49, 32, 97, 110, 100, 32, 50, 32, 61, 32, 51]⟩, .string ⟨#[49, 32, 97, 110, 100, 32, 40, 50, 32, 61, 32, 51, 41]⟩, .slice none 0 0] (.bool true) := tot_closed all_good A (rulesK2_ok A) Tryz.func11 (by kernel_rfl) (by kernel_rfl) (by kernel_rfl) pr_1_2_run

set_option maxRecDepth 1000000 in
theorem pr_1_3_run (off : Nat) (spot : Option Nat) : (funcK (envP 241 wildsP rulesK2) 300 11 [.string ⟨#[49, 32, 97, 110, 100, 32, 50, 32, 33, 61, 32, 51]⟩, .string ⟨#[49, 32, 97, 110, 100, 32, 40, 50, 32, 33, 61, 32, 51, 41]⟩, .slice none 0 0] (tabsE off spot) (Tryz.prog.globals.size + 1) fun u _ _ mw => u = .bool true ∧ Nat.ble (Tryz.prog.globals.size + 1) mw = true) = ((.bool true : Value) = .bool true ∧ true = true) := by kernel_rfl
theorem pr_1_3 {base : World} (A : AtP base) : TotP base 11 [.string ⟨#[49, 32, 97, 110, 100, 32, 50, 32, 33, 61, 32, 51]⟩, .string ⟨#[49, 32, 97, 110, 100, 32, 40, 50, 32, 33, 61, 32, 51, 41]⟩, .slice none 0 0] (.bool true) := tot_closed all_good A (rulesK2_ok A) Tryz.func11 (by kernel_rfl) (by kernel_rfl) (by kernel_rfl) pr_1_3_run

set_option maxRecDepth 1000000 in
theorem pr_1_4_run (off : Nat) (spot : Option Nat) : (funcK (envP 241 wildsP rulesK2) 300 11 [.string ⟨#[49, 32, 97, 110, 100, 32, 50, 32, 60, 32, 51]⟩, .string ⟨#[49, 32, 97, 110, 100, 32, 40, 50, 32, 60, 32, 51, 41]⟩, .slice none 0 0] (tabsE off spot) (Tryz.prog.globals.size + 1) fun u _ _ mw => u = .bool true ∧ Nat.ble (Tryz.prog.globals.size + 1) mw = true) = ((.bool true : Value) = .bool true ∧ true = true) := by kernel_rfl
theorem pr_1_4 {base : World} (A : AtP base) : TotP base 11 [.string ⟨#[49, 32, 97, 110, 100, 32, 50, 32, 60, 32, 51]⟩, .string ⟨#[49, 32, 97, 110, 100, 32, 40, 50, 32, 60, 32, 51, 41]⟩, .slice none 0 0] (.bool true) := tot_closed all_good A (rulesK2_ok A) Tryz.func11 (by kernel_rfl) (by kernel_rfl) (by kernel_rfl) pr_1_4_run

set_option maxRecDepth 1000000 in
theorem pr_1_5_run (off : Nat) (spot : Option Nat) : (funcK (envP 241 wildsP rulesK2) 300 11 [.string ⟨#[49, 32, 97, 110, 100, 32, 50, 32, 60, 61, 32, 51]⟩, .string ⟨#[49, 32, 97, 110, 100, 32, 40, 50, 32, 60, 61, 32, 51, 41]⟩, .slice none 0 0] (tabsE off spot) (Tryz.prog.globals.size + 1) fun u _ _ mw => u = .bool true ∧ Nat.ble (Tryz.prog.globals.size + 1) mw = true) = ((.bool true : Value) = .bool true ∧ true = true) := by kernel_rfl
theorem pr_1_5 {base : World} (A : AtP base) : TotP base 11 [.string ⟨#[49, 32, 97, 110, 100, 32, 50, 32, 60, 61, 32, 51]⟩, .string ⟨#[49, 32, 97, 110, 100, 32, 40, 50, 32, 60, 61, 32, 51, 41]⟩, .slice none 0 0] (.bool true) := tot_closed all_good A (rulesK2_ok A) Tryz.func11 (by kernel_rfl) (by kernel_rfl) (by kernel_rfl) pr_1_5_run

set_option maxRecDepth 1000000 in
theorem pr_1_6_run (off : Nat) (spot : Option Nat) : (funcK (envP 241 wildsP rulesK2) 300 11 [.string ⟨#[49, 32, 97, 110, 100, 32, 50, 32, 62, 32, 51]⟩, .string ⟨#[49, 32, 97, 110, 100, 32, 40, 50, 32, 62, 32, 51, 41]⟩, .slice none 0 0] (tabsE off spot) (Tryz.prog.globals.size + 1) fun u _ _ mw => u = .bool true ∧ Nat.ble (Tryz.prog.globals.size + 1) mw = true) = ((.bool true : Value) = .bool true ∧ true = true) := by kernel_rfl
theorem pr_1_6 {base : World} (A : AtP base) : TotP base 11 [.string ⟨#[49, 32, 97, 110, 100, 32, 50, 32, 62, 32, 51]⟩, .string ⟨#[49, 32, 97, 110, 100, 32, 40, 50, 32, 62, 32, 51, 41]⟩, .slice none 0 0] (.bool true) := tot_closed all_good A (rulesK2_ok A) Tryz.func11 (by kernel_rfl) (by kernel_rfl) (by kernel_rfl) pr_1_6_run

set_option maxRecDepth 1000000 in
theorem pr_1_7_run (off : Nat) (spot : Option Nat) : (funcK (envP 241 wildsP rulesK2) 300 11 [.string ⟨#[49, 32, 97, 110, 100, 32, 50, 32, 62, 61, 32, 51]⟩, .string ⟨#[49, 32, 97, 110, 100, 32, 40, 50, 32, 62, 61, 32, 51, 41]⟩, .slice none 0 0] (tabsE off spot) (Tryz.prog.globals.size + 1) fun u _ _ mw => u = .bool true ∧ Nat.ble (Tryz.prog.globals.size + 1) mw = true) = ((.bool true : Value) = .bool true ∧ true = true) := by kernel_rfl
theorem pr_1_7 {base : World} (A : AtP base) : TotP base 11 [.string ⟨#[49, 32, 97, 110, 100, 32, 50, 32, 62, 61, 32, 51]⟩, .string ⟨#[49, 32, 97, 110, 100, 32, 40, 50, 32, 62, 61, 32, 51, 41]⟩, .slice none 0 0] (.bool true) := tot_closed all_good A (rulesK2_ok A) Tryz.func11 (by kernel_rfl) (by kernel_rfl) (by kernel_rfl) pr_1_7_run

set_option maxRecDepth 1000000 in
theorem pr_1_8_run (off : Nat) (spot : Option Nat) : (funcK (envP 241 wildsP rulesK2) 300 11 [.string ⟨#[49, 32, 97, 110, 100, 32, 50, 32, 43, 32, 51]⟩, .string ⟨#[49, 32, 97, 110, 100, 32, 40, 50, 32, 43, 32, 51, 41]⟩, .slice none 0 0] (tabsE off spot) (Tryz.prog.globals.size + 1) fun u _ _ mw => u = .bool true ∧ Nat.ble (Tryz.prog.globals.size + 1) mw = true) = ((.bool true : Value) = .bool true ∧ true = true) := by kernel_rfl
theorem pr_1_8 {base : World} (A : AtP base) : TotP base 11 [.string ⟨#[49, 32, 97, 110, 100, 32, 50, 32, 43, 32, 51]⟩, .string ⟨#[49, 32, 97, 110, 100, 32, 40, 50, 32, 43, 32, 51, 41]⟩, .slice none 0 0] (.bool true) := tot_closed all_good A (rulesK2_ok A) Tryz.func11 (by kernel_rfl) (by kernel_rfl) (by kernel_rfl) pr_1_8_run

set_option maxRecDepth 1000000 in
theorem pr_1_9_run (off : Nat) (spot : Option Nat) : (funcK (envP 241 wildsP rulesK2) 300 11 [.string ⟨#[49, 32, 97, 110, 100, 32, 50, 32, 45, 32, 51]⟩, .string ⟨#[49, 32, 97, 110, 100, 32, 40, 50, 32, 45, 32, 51, 41]⟩, .slice none 0 0] (tabsE off spot) (Tryz.prog.globals.size + 1) fun u _ _ mw => u = .bool true ∧ Nat.ble (Tryz.prog.globals.size + 1) mw = true) = ((.bool true : Value) = .bool true ∧ true = true) := by kernel_rfl
theorem pr_1_9 {base : World} (A : AtP base) : TotP base 11 [.string ⟨#[49, 32, 97, 110, 100, 32, 50, 32, 45, 32, 51]⟩, .string ⟨#[49, 32, 97, 110, 100, 32, 40, 50, 32, 45, 32, 51, 41]⟩, .slice none 0 0] (.bool true) := tot_closed all_good A (rulesK2_ok A) Tryz.func11 (by kernel_rfl) (by kernel_rfl) (by kernel_rfl) pr_1_9_run

set_option maxRecDepth 1000000 in
theorem pr_1_10_run (off : Nat) (spot : Option Nat) : (funcK (envP 241 wildsP rulesK2) 300 11 [.string ⟨#[49, 32, 97, 110, 100, 32, 50, 32, 42, 32, 51]⟩, .string ⟨#[49, 32, 97, 110, 100, 32, 40, 50, 32, 42, 32, 51, 41]⟩, .slice none 0 0] (tabsE off spot) (Tryz.prog.globals.size + 1) fun u _ _ mw => u = .bool true ∧ Nat.ble (Tryz.prog.globals.size + 1) mw = true) = ((.bool true : Value) = .bool true ∧ true = true) := by kernel_rfl
theorem pr_1_10 {base : World} (A : AtP base) : TotP base 11 [.string ⟨#[49, 32, 97, 110, 100, 32, 50, 32, 42, 32, 51]⟩, .string ⟨#[49, 32, 97, 110, 100, 32, 40, 50, 32, 42, 32, 51, 41]⟩, .slice none 0 0] (.bool true) := tot_closed all_good A (rulesK2_ok A) Tryz.func11 (by kernel_rfl) (by kernel_rfl) (by kernel_rfl) pr_1_10_run

set_option maxRecDepth 1000000 in
theorem pr_1_11_run (off : Nat) (spot : Option Nat) : (funcK (envP 241 wildsP rulesK2) 300 11 [.string ⟨#[49, 32, 97, 110, 100, 32, 50, 32, 47, 32, 51]⟩, .string ⟨#[49, 32, 97, 110, 100, 32, 40, 50, 32, 47, 32, 51, 41]⟩, .slice none 0 0] (tabsE off spot) (Tryz.prog.globals.size + 1) fun u _ _ mw => u = .bool true ∧ Nat.ble (Tryz.prog.globals.size + 1) mw = true) = ((.bool true : Value) = .bool true ∧ true = true) := by kernel_rfl
theorem pr_1_11 {base : World} (A : AtP base) : TotP base 11 [.string ⟨#[49, 32, 97, 110, 100, 32, 50, 32, 47, 32, 51]⟩, .string ⟨#[49, 32, 97, 110, 100, 32, 40, 50, 32, 47, 32, 51, 41]⟩, .slice none 0 0] (.bool true) := tot_closed all_good A (rulesK2_ok A) Tryz.func11 (by kernel_rfl) (by kernel_rfl) (by kernel_rfl) pr_1_11_run

set_option maxRecDepth 1000000 in
theorem pr_1_12_run (off : Nat) (spot : Option Nat) : (funcK (envP 241 wildsP rulesK2) 300 11 [.string ⟨#[49, 32, 97, 110, 100, 32, 50, 32, 42, 42, 32, 51]⟩, .string ⟨#[49, 32, 97, 110, 100, 32, 40, 50, 32, 42, 42, 32, 51, 41]⟩, .slice none 0 0] (tabsE off spot) (Tryz.prog.globals.size + 1) fun u _ _ mw => u = .bool true ∧ Nat.ble (Tryz.prog.globals.size + 1) mw = true) = ((.bool true : Value) = .bool true ∧ true = true) := by kernel_rfl
theorem pr_1_12 {base : World} (A : AtP base) : TotP base 11 [.string ⟨#[49, 32, 97, 110, 100, 32, 50, 32, 42, 42, 32, 51]⟩, .string ⟨#[49, 32, 97, 110, 100, 32, 40, 50, 32, 42, 42, 32, 51, 41]⟩, .slice none 0 0] (.bool true) := tot_closed all_good A (rulesK2_ok A) Tryz.func11 (by kernel_rfl) (by kernel_rfl) (by kernel_rfl) pr_1_12_run

set_option maxRecDepth 1000000 in
theorem pr_2_0_run (off : Nat) (spot : Option Nat) : (funcK (envP 241 wildsP rulesK2) 300 11 [.string ⟨#[49, 32, 61, 32, 50, 32, 111, 114, 32, 51]⟩, .string ⟨#[40, 49, 32, 61, 32, 50, 41, 32, 111, 114, 32, 51]⟩, .slice none 0 0] (tabsE off spot) (Tryz.prog.globals.size + 1) fun u _ _ mw => u = .bool true ∧ Nat.ble (Tryz.prog.globals.size + 1) mw = true) = ((.bool true : Value) = .bool true ∧ true = true) := by kernel_rfl
theorem pr_2_0 {base : World} (A : AtP base) : TotP base 11 [.string ⟨#[49, 32, 61, 32, 50, 32, 111, 114, 32, 51]⟩, .string ⟨#[40, 49, 32, 61, 32, 50, 41, 32, 111, 114, 32, 51]⟩, .slice none 0 0] (.bool true) := tot_closed all_good A (rulesK2_ok A) Tryz.func11 (by kernel_rfl) (by kernel_rfl) (by kernel_rfl) pr_2_0_run

set_option maxRecDepth 1000000 in
theorem pr_2_1_run (off : Nat) (spot : Option Nat) : (funcK (envP 241 wildsP rulesK2) 300 11 [.string ⟨#[49, 32, 61, 32, 50, 32, 97, 110, 100, 32, 51]⟩, .string ⟨#[40, 49, 32, 61, 32, 50, 41, 32, 97, 110, 100, 32, 51]⟩, .slice none 0 0] (tabsE off spot) (Tryz.prog.globals.size + 1) fun u _ _ mw => u = .bool true ∧ Nat.ble (Tryz.prog.globals.size + 1) mw = true) = ((.bool true : Value) = .bool true ∧ true = true) := by kernel_rfl
theorem pr_2_1 {base : World} (A : AtP base) : TotP base 11 [.string ⟨#[49, 32, 61, 32, 50, 32, 97, 110, 100, 32, 51]⟩, .string ⟨#[40, 49, 32, 61, 32, 50, 41, 32, 97, 110, 100, 32, 51]⟩, .slice none 0 0] (.bool true) := tot_closed all_good A (rulesK2_ok A) Tryz.func11 (by kernel_rfl) (by kernel_rfl) (by kernel_rfl) pr_2_1_run

set_option maxRecDepth 1000000 in
theorem pr_2_2_run (off : Nat) (spot : Option Nat) : (funcK (envP 241 wildsP rulesK2) 300 10 [.string ⟨#[49, 32, 61, 32, 50, 32, 61, 32, 51]⟩, .slice none 0 0] (tabsE off spot) (Tryz.prog.globals.size + 1) fun u _ _ mw => u = failV ∧ Nat.ble (Tryz.prog.globals.size + 1) mw = true) = ((failV : Value) = failV ∧ true = true) := by kernel_rfl
theorem pr_2_2 {base : World} (A : AtP base) : TotP base 10 [.string ⟨#[49, 32, 61, 32, 50, 32, 61, 32, 51]⟩, .slice none 0 0] (failV) := tot_closed all_good A (rulesK2_ok A) Tryz.func10 (by kernel_rfl) (by kernel_rfl) (by kernel_rfl) pr_2_2_run

set_option maxRecDepth 1000000 in
theorem pr_2_3_run (off : Nat) (spot : Option Nat) : (funcK (envP 241 wildsP rulesK2) 300 10 [.string ⟨#[49, 32, 61, 32, 50, 32, 33, 61, 32, 51]⟩, .slice none 0 0] (tabsE off spot) (Tryz.prog.globals.size + 1) fun u _ _ mw => u = failV ∧ Nat.ble (Tryz.prog.globals.size + 1) mw = true) = ((failV : Value) = failV ∧ true = true) := by kernel_rfl
theorem pr_2_3 {base : World} (A : AtP base) : TotP base 10 [.string ⟨#[49, 32, 61, 32, 50, 32, 33, 61, 32, 51]⟩, .slice none 0 0] (failV) := tot_closed all_good A (rulesK2_ok A) Tryz.func10 (by kernel_rfl) (by kernel_rfl) (by kernel_rfl) pr_2_3_run

set_option maxRecDepth 1000000 in
theorem pr_2_4_run (off : Nat) (spot : Option Nat) : (funcK (envP 241 wildsP rulesK2) 300 10 [.string ⟨#[49, 32, 61, 32, 50, 32, 60, 32, 51]⟩, .slice none 0 0] (tabsE off spot) (Tryz.prog.globals.size + 1) fun u _ _ mw => u = failV ∧ Nat.ble (Tryz.prog.globals.size + 1) mw = true) = ((failV : Value) = failV ∧ true = true) := by kernel_rfl
theorem pr_2_4 {base : World} (A : AtP base) : TotP base 10 [.string ⟨#[49, 32, 61, 32, 50, 32, 60, 32, 51]⟩, .slice none 0 0] (failV) := tot_closed all_good A (rulesK2_ok A) Tryz.func10 (by kernel_rfl) (by kernel_rfl) (by kernel_rfl) pr_2_4_run

set_option maxRecDepth 1000000 in
theorem pr_2_5_run (off : Nat) (spot : Option Nat) : (funcK (envP 241 wildsP rulesK2) 300 10 [.string ⟨#[49, 32, 61, 32, 50, 32, 60, 61, 32, 51]⟩, .slice none 0 0] (tabsE off spot) (Tryz.prog.globals.size + 1) fun u _ _ mw => u = failV ∧ Nat.ble (Tryz.prog.globals.size + 1) mw = true) = ((failV : Value) = failV ∧ true = true) := by kernel_rfl
theorem pr_2_5 {base : World} (A : AtP base) : TotP base 10 [.string ⟨#[49, 32, 61, 32, 50, 32, 60, 61, 32, 51]⟩, .slice none 0 0] (failV) := tot_closed all_good A (rulesK2_ok A) Tryz.func10 (by kernel_rfl) (by kernel_rfl) (by kernel_rfl) pr_2_5_run

set_option maxRecDepth 1000000 in
theorem pr_2_6_run (off : Nat) (spot : Option Nat) : (funcK (envP 241 wildsP rulesK2) 300 10 [.string ⟨#[49, 32, 61, 32, 50, 32, 62, 32, 51]⟩, .slice none 0 0] (tabsE off spot) (Tryz.prog.globals.size + 1) fun u _ _ mw => u = failV ∧ Nat.ble (Tryz.prog.globals.size + 1) mw = true) = ((failV : Value) = failV ∧ true = true) := by kernel_rfl
theorem pr_2_6 {base : World} (A : AtP base) : TotP base 10 [.string ⟨#[49, 32, 61, 32, 50, 32, 62, 32, 51]⟩, .slice none 0 0] (failV) := tot_closed all_good A (rulesK2_ok A) Tryz.func10 (by kernel_rfl) (by kernel_rfl) (by kernel_rfl) pr_2_6_run

set_option maxRecDepth 1000000 in
theorem pr_2_7_run (off : Nat) (spot : Option Nat) : (funcK (envP 241 wildsP rulesK2) 300 10 [.string ⟨#[49, 32, 61, 32, 50, 32, 62, 61, 32, 51]⟩, .slice none 0 0] (tabsE off spot) (Tryz.prog.globals.size + 1) fun u _ _ mw => u = failV ∧ Nat.ble (Tryz.prog.globals.size + 1) mw = true) = ((failV : Value) = failV ∧ true = true) := by kernel_rfl
theorem pr_2_7 {base : World} (A : AtP base) : TotP base 10 [.string ⟨#[49, 32, 61, 32, 50, 32, 62, 61, 32, 51]⟩, .slice none 0 0] (failV) := tot_closed all_good A (rulesK2_ok A) Tryz.func10 (by kernel_rfl) (by kernel_rfl) (by kernel_rfl) pr_2_7_run

set_option maxRecDepth 1000000 in
theorem pr_2_8_run (off : Nat) (spot : Option Nat) : (funcK (envP 241 wildsP rulesK2) 300 11 [.string ⟨#[49, 32, 61, 32, 50, 32, 43, 32, 51]⟩, .string ⟨#[49, 32, 61, 32, 40, 50, 32, 43, 32, 51, 41]⟩, .slice none 0 0] (tabsE off spot) (Tryz.prog.globals.size + 1) fun u _ _ mw => u = .bool true ∧ Nat.ble (Tryz.prog.globals.size + 1) mw = true) = ((.bool true : Value) = .bool true ∧ true = true) := by kernel_rfl
theorem pr_2_8 {base : World} (A : AtP base) : TotP base 11 [.string ⟨#[49, 32, 61, 32, 50, 32, 43, 32, 51]⟩, .string ⟨#[49, 32, 61, 32, 40, 50, 32, 43, 32, 51, 41]⟩, .slice none 0 0] (.bool true) := tot_closed all_good A (rulesK2_ok A) Tryz.func11 (by kernel_rfl) (by kernel_rfl) (by kernel_rfl) pr_2_8_run

end Go.Proofs.YtapmcocefoccdaaGreatDoor
