/-
  Closed runs of the reader: operators, part 3.
-/
import Derived.Test.YtapmcocefoccdaaGreatDoorKb
namespace Go.Proofs.YtapmcocefoccdaaGreatDoor
open Go Go.Pe Go.RowKit

set_option maxRecDepth 1000000 in
theorem pr_8_1_run (off : Nat) (spot : Option Nat) : (funcK (envP 241 wildsP rulesK2) 300 11 [.string ⟨#[49, 32, 43, 32, 50, 32, 97, 110, 100, 32, 51]⟩, .string ⟨#[40, 49, 32, 43, 32, 50, 41, 32, 97, 110, 100, 32, 51]⟩, .slice none 0 0] (tabsE off spot) (Tryz.prog.globals.size + 1) fun u _ _ mw => u = .bool true ∧ Nat.ble (Tryz.prog.globals.size + 1) mw = true) = ((.bool true : Value) = .bool true ∧ true = true) := by kernel_rfl
theorem pr_8_1 {base : World} (A : AtP base) : TotP base 11 [.string ⟨#[49, 32, 43, 32, 50, 32, 97, 110, 100, 32, 51]⟩, .string ⟨#[40, 49, 32, 43, 32, 50, 41, 32, 97, 110, 100, 32, 51]⟩, .slice none 0 0] (.bool true) := tot_closed all_good A (rulesK2_ok A) Tryz.func11 (by kernel_rfl) (by kernel_rfl) (by kernel_rfl) pr_8_1_run

set_option maxRecDepth 1000000 in
theorem pr_8_2_run (off : Nat) (spot : Option Nat) : (funcK (envP 241 wildsP rulesK2) 300 11 [.string ⟨#[49, 32, 43, 32, 50, 32, 61, 32, 51]⟩, .string ⟨#[40, 49, 32, 43, 32, 50, 41, 32, 61, 32, 51]⟩, .slice none 0 0] (tabsE off spot) (Tryz.prog.globals.size + 1) fun u _ _ mw => u = .bool true ∧ Nat.ble (Tryz.prog.globals.size + 1) mw = true) = ((.bool true : Value) = .bool true ∧ true = true) := by kernel_rfl
theorem pr_8_2 {base : World} (A : AtP base) : TotP base 11 [.string ⟨#[49, 32, 43, 32, 50, 32, 61, 32, 51]⟩, .string ⟨#[40, 49, 32, 43, 32, 50, 41, 32, 61, 32, 51]⟩, .slice none 0 0] (.bool true) := tot_closed all_good A (rulesK2_ok A) Tryz.func11 (by kernel_rfl) (by kernel_rfl) (by kernel_rfl) pr_8_2_run

set_option maxRecDepth 1000000 in
theorem pr_8_3_run (off : Nat) (spot : Option Nat) : (funcK (envP 241 wildsP rulesK2) 300 11 [.string ⟨#[49, 32, 43, 32, 50, 32, 33, 61, 32, 51]⟩, .string ⟨#[40, 49, 32, 43, 32, 50, 41, 32, 33, 61, 32, 51]⟩, .slice none 0 0] (tabsE off spot) (Tryz.prog.globals.size + 1) fun u _ _ mw => u = .bool true ∧ Nat.ble (Tryz.prog.globals.size + 1) mw = true) = ((.bool true : Value) = .bool true ∧ true = true) := by kernel_rfl
theorem pr_8_3 {base : World} (A : AtP base) : TotP base 11 [.string ⟨#[49, 32, 43, 32, 50, 32, 33, 61, 32, 51]⟩, .string ⟨#[40, 49, 32, 43, 32, 50, 41, 32, 33, 61, 32, 51]⟩, .slice none 0 0] (.bool true) := tot_closed all_good A (rulesK2_ok A) Tryz.func11 (by kernel_rfl) (by kernel_rfl) (by kernel_rfl) pr_8_3_run

set_option maxRecDepth 1000000 in
theorem pr_8_4_run (off : Nat) (spot : Option Nat) : (funcK (envP 241 wildsP rulesK2) 300 11 [.string ⟨#[49, 32, 43, 32, 50, 32, 60, 32, 51]⟩, .string ⟨#[40, 49, 32, 43, 32, 50, 41, 32, 60, 32, 51]⟩, .slice none 0 0] (tabsE off spot) (Tryz.prog.globals.size + 1) fun u _ _ mw => u = .bool true ∧ Nat.ble (Tryz.prog.globals.size + 1) mw = true) = ((.bool true : Value) = .bool true ∧ true = true) := by kernel_rfl
theorem pr_8_4 {base : World} (A : AtP base) : TotP base 11 [.string ⟨#[49, 32, 43, 32, 50, 32, 60, 32, 51]⟩, .string ⟨#[40, 49, 32, 43, 32, 50, 41, 32, 60, 32, 51]⟩, .slice none 0 0] (.bool true) := tot_closed all_good A (rulesK2_ok A) Tryz.func11 (by kernel_rfl) (by kernel_rfl) (by kernel_rfl) pr_8_4_run

set_option maxRecDepth 1000000 in
theorem pr_8_5_run (off : Nat) (spot : Option Nat) : (funcK (envP 241 wildsP rulesK2) 300 11 [.string ⟨#[49, 32, 43, 32, 50, 32, 60, 61, 32, 51]⟩, .string ⟨#[40, 49, 32, 43, 32, 50, 41, 32, 60, 61, 32, 51]⟩, .slice none 0 0] (tabsE off spot) (Tryz.prog.globals.size + 1) fun u _ _ mw => u = .bool true ∧ Nat.ble (Tryz.prog.globals.size + 1) mw = true) = ((.bool true : Value) = .bool true ∧ true = true) := by kernel_rfl
theorem pr_8_5 {base : World} (A : AtP base) : TotP base 11 [.string ⟨#[49, 32, 43, 32, 50, 32, 60, 61, 32, 51]⟩, .string ⟨#[40, 49, 32, 43, 32, 50, 41, 32, 60, 61, 32, 51]⟩, .slice none 0 0] (.bool true) := tot_closed all_good A (rulesK2_ok A) Tryz.func11 (by kernel_rfl) (by kernel_rfl) (by kernel_rfl) pr_8_5_run

set_option maxRecDepth 1000000 in
theorem pr_8_6_run (off : Nat) (spot : Option Nat) : (funcK (envP 241 wildsP rulesK2) 300 11 [.string ⟨#[49, 32, 43, 32, 50, 32, 62, 32, 51]⟩, .string ⟨#[40, 49, 32, 43, 32, 50, 41, 32, 62, 32, 51]⟩, .slice none 0 0] (tabsE off spot) (Tryz.prog.globals.size + 1) fun u _ _ mw => u = .bool true ∧ Nat.ble (Tryz.prog.globals.size + 1) mw = true) = ((.bool true : Value) = .bool true ∧ true = true) := by kernel_rfl
theorem pr_8_6 {base : World} (A : AtP base) : TotP base 11 [.string ⟨#[49, 32, 43, 32, 50, 32, 62, 32, 51]⟩, .string ⟨#[40, 49, 32, 43, 32, 50, 41, 32, 62, 32, 51]⟩, .slice none 0 0] (.bool true) := tot_closed all_good A (rulesK2_ok A) Tryz.func11 (by kernel_rfl) (by kernel_rfl) (by kernel_rfl) pr_8_6_run

set_option maxRecDepth 1000000 in
theorem pr_8_7_run (off : Nat) (spot : Option Nat) : (funcK (envP 241 wildsP rulesK2) 300 11 [.string ⟨#[49, 32, 43, 32, 50, 32, 62, 61, 32, 51]⟩, .string ⟨#[40, 49, 32, 43, 32, 50, 41, 32, 62, 61, 32, 51]⟩, .slice none 0 0] (tabsE off spot) (Tryz.prog.globals.size + 1) fun u _ _ mw => u = .bool true ∧ Nat.ble (Tryz.prog.globals.size + 1) mw = true) = ((.bool true : Value) = .bool true ∧ true = true) := by kernel_rfl
theorem pr_8_7 {base : World} (A : AtP base) : TotP base 11 [.string ⟨#[49, 32, 43, 32, 50, 32, 62, 61, 32, 51]⟩, .string ⟨#[40, 49, 32, 43, 32, 50, 41, 32, 62, 61, 32, 51]⟩, .slice none 0 0] (.bool true) := tot_closed all_good A (rulesK2_ok A) Tryz.func11 (by kernel_rfl) (by kernel_rfl) (by kernel_rfl) pr_8_7_run

set_option maxRecDepth 1000000 in
theorem pr_8_8_run (off : Nat) (spot : Option Nat) : (funcK (envP 241 wildsP rulesK2) 300 11 [.string ⟨#[49, 32, 43, 32, 50, 32, 43, 32, 51]⟩, .string ⟨#[40, 49, 32, 43, 32, 50, 41, 32, 43, 32, 51]⟩, .slice none 0 0] (tabsE off spot) (Tryz.prog.globals.size + 1) fun u _ _ mw => u = .bool true ∧ Nat.ble (Tryz.prog.globals.size + 1) mw = true) = ((.bool true : Value) = .bool true ∧ true = true) := by kernel_rfl
theorem pr_8_8 {base : World} (A : AtP base) : TotP base 11 [.string ⟨#[49, 32, 43, 32, 50, 32, 43, 32, 51]⟩, .string ⟨#[40, 49, 32, 43, 32, 50, 41, 32, 43, 32, 51]⟩, .slice none 0 0] (.bool true) := tot_closed all_good A (rulesK2_ok A) Tryz.func11 (by kernel_rfl) (by kernel_rfl) (by kernel_rfl) pr_8_8_run

set_option maxRecDepth 1000000 in
theorem pr_8_9_run (off : Nat) (spot : Option Nat) : (funcK (envP 241 wildsP rulesK2) 300 11 [.string ⟨#[49, 32, 43, 32, 50, 32, 45, 32, 51]⟩, .string ⟨#[40, 49, 32, 43, 32, 50, 41, 32, 45, 32, 51]⟩, .slice none 0 0] (tabsE off spot) (Tryz.prog.globals.size + 1) fun u _ _ mw => u = .bool true ∧ Nat.ble (Tryz.prog.globals.size + 1) mw = true) = ((.bool true : Value) = .bool true ∧ true = true) := by kernel_rfl
theorem pr_8_9 {base : World} (A : AtP base) : TotP base 11 [.string ⟨#[49, 32, 43, 32, 50, 32, 45, 32, 51]⟩, .string ⟨#[40, 49, 32, 43, 32, 50, 41, 32, 45, 32, 51]⟩, .slice none 0 0] (.bool true) := tot_closed all_good A (rulesK2_ok A) Tryz.func11 (by kernel_rfl) (by kernel_rfl) (by kernel_rfl) pr_8_9_run

set_option maxRecDepth 1000000 in
theorem pr_8_10_run (off : Nat) (spot : Option Nat) : (funcK (envP 241 wildsP rulesK2) 300 11 [.string ⟨#[49, 32, 43, 32, 50, 32, 42, 32, 51]⟩, .string ⟨#[49, 32, 43, 32, 40, 50, 32, 42, 32, 51, 41]⟩, .slice none 0 0] (tabsE off spot) (Tryz.prog.globals.size + 1) fun u _ _ mw => u = .bool true ∧ Nat.ble (Tryz.prog.globals.size + 1) mw = true) = ((.bool true : Value) = .bool true ∧ true = true) := by kernel_rfl
theorem pr_8_10 {base : World} (A : AtP base) : TotP base 11 [.string ⟨#[49, 32, 43, 32, 50, 32, 42, 32, 51]⟩, .string ⟨#[49, 32, 43, 32, 40, 50, 32, 42, 32, 51, 41]⟩, .slice none 0 0] (.bool true) := tot_closed all_good A (rulesK2_ok A) Tryz.func11 (by kernel_rfl) (by kernel_rfl) (by kernel_rfl) pr_8_10_run

set_option maxRecDepth 1000000 in
theorem pr_8_11_run (off : Nat) (spot : Option Nat) : (funcK (envP 241 wildsP rulesK2) 300 11 [.string ⟨#[49, 32, 43, 32, 50, 32, 47, 32, 51]⟩, .string ⟨#[49, 32, 43, 32, 40, 50, 32, 47, 32, 51, 41]⟩, .slice none 0 0] (tabsE off spot) (Tryz.prog.globals.size + 1) fun u _ _ mw => u = .bool true ∧ Nat.ble (Tryz.prog.globals.size + 1) mw = true) = ((.bool true : Value) = .bool true ∧ true = true) := by kernel_rfl
theorem pr_8_11 {base : World} (A : AtP base) : TotP base 11 [.string ⟨#[49, 32, 43, 32, 50, 32, 47, 32, 51]⟩, .string ⟨#[49, 32, 43, 32, 40, 50, 32, 47, 32, 51, 41]⟩, .slice none 0 0] (.bool true) := tot_closed all_good A (rulesK2_ok A) Tryz.func11 (by kernel_rfl) (by kernel_rfl) (by kernel_rfl) pr_8_11_run

set_option maxRecDepth 1000000 in
theorem pr_8_12_run (off : Nat) (spot : Option Nat) : (funcK (envP 241 wildsP rulesK2) 300 11 [.string ⟨#[49, 32, 43, 32, 50, 32, 42, 42, 32, 51]⟩, .string ⟨#[49, 32, 43, 32, 40, 50, 32, 42, 42, 32, 51, 41]⟩, .slice none 0 0] (tabsE off spot) (Tryz.prog.globals.size + 1) fun u _ _ mw => u = .bool true ∧ Nat.ble (Tryz.prog.globals.size + 1) mw = true) = ((.bool true : Value) = .bool true ∧ true = true) := by kernel_rfl
theorem pr_8_12 {base : World} (A : AtP base) : TotP base 11 [.string ⟨#[49, 32, 43, 32, 50, 32, 42, 42, 32, 51]⟩, .string ⟨#[49, 32, 43, 32, 40, 50, 32, 42, 42, 32, 51, 41]⟩, .slice none 0 0] (.bool true) := tot_closed all_good A (rulesK2_ok A) Tryz.func11 (by kernel_rfl) (by kernel_rfl) (by kernel_rfl) pr_8_12_run

set_option maxRecDepth 1000000 in
theorem pr_9_0_run (off : Nat) (spot : Option Nat) : (funcK (envP 241 wildsP rulesK2) 300 11 [.string ⟨#[49, 32, 45, 32, 50, 32, 111, 114, 32, 51]⟩, .string ⟨#[40, 49, 32, 45, 32, 50, 41, 32, 111, 114, 32, 51]⟩, .slice none 0 0] (tabsE off spot) (Tryz.prog.globals.size + 1) fun u _ _ mw => u = .bool true ∧ Nat.ble (Tryz.prog.globals.size + 1) mw = true) = ((.bool true : Value) = .bool true ∧ true = true) := by kernel_rfl
theorem pr_9_0 {base : World} (A : AtP base) : TotP base 11 [.string ⟨#[49, 32, 45, 32, 50, 32, 111, 114, 32, 51]⟩, .string ⟨#[40, 49, 32, 45, 32, 50, 41, 32, 111, 114, 32, 51]⟩, .slice none 0 0] (.bool true) := tot_closed all_good A (rulesK2_ok A) Tryz.func11 (by kernel_rfl) (by kernel_rfl) (by kernel_rfl) pr_9_0_run

set_option maxRecDepth 1000000 in
theorem pr_9_1_run (off : Nat) (spot : Option Nat) : (funcK (envP 241 wildsP rulesK2) 300 11 [.string ⟨#[49, 32, 45, 32, 50, 32, 97, 110, 100, 32, 51]⟩, .string ⟨#[40, 49, 32, 45, 32, 50, 41, 32, 97, 110, 100, 32, 51]⟩, .slice none 0 0] (tabsE off spot) (Tryz.prog.globals.size + 1) fun u _ _ mw => u = .bool true ∧ Nat.ble (Tryz.prog.globals.size + 1) mw = true) = ((.bool true : Value) = .bool true ∧ true = true) := by kernel_rfl
theorem pr_9_1 {base : World} (A : AtP base) : TotP base 11 [.string ⟨#[49, 32, 45, 32, 50, 32, 97, 110, 100, 32, 51]⟩, .string ⟨#[40, 49, 32, 45, 32, 50, 41, 32, 97, 110, 100, 32, 51]⟩, .slice none 0 0] (.bool true) := tot_closed all_good A (rulesK2_ok A) Tryz.func11 (by kernel_rfl) (by kernel_rfl) (by kernel_rfl) pr_9_1_run

set_option maxRecDepth 1000000 in
theorem pr_9_2_run (off : Nat) (spot : Option Nat) : (funcK (envP 241 wildsP rulesK2) 300 11 [.string ⟨#[49, 32, 45, 32, 50, 32, 61, 32, 51]⟩, .string ⟨#[40, 49, 32, 45, 32, 50, 41, 32, 61, 32, 51]⟩, .slice none 0 0] (tabsE off spot) (Tryz.prog.globals.size + 1) fun u _ _ mw => u = .bool true ∧ Nat.ble (Tryz.prog.globals.size + 1) mw = true) = ((.bool true : Value) = .bool true ∧ true = true) := by kernel_rfl
theorem pr_9_2 {base : World} (A : AtP base) : TotP base 11 [.string ⟨#[49, 32, 45, 32, 50, 32, 61, 32, 51]⟩, .string ⟨#[40, 49, 32, 45, 32, 50, 41, 32, 61, 32, 51]⟩, .slice none 0 0] (.bool true) := tot_closed all_good A (rulesK2_ok A) Tryz.func11 (by kernel_rfl) (by kernel_rfl) (by kernel_rfl) pr_9_2_run

set_option maxRecDepth 1000000 in
theorem pr_9_3_run (off : Nat) (spot : Option Nat) : (funcK (envP 241 wildsP rulesK2) 300 11 [.string ⟨#[49, 32, 45, 32, 50, 32, 33, 61, 32, 51]⟩, .string ⟨#[40, 49, 32, 45, 32, 50, 41, 32, 33, 61, 32, 51]⟩, .slice none 0 0] (tabsE off spot) (Tryz.prog.globals.size + 1) fun u _ _ mw => u = .bool true ∧ Nat.ble (Tryz.prog.globals.size + 1) mw = true) = ((.bool true : Value) = .bool true ∧ true = true) := by kernel_rfl
theorem pr_9_3 {base : World} (A : AtP base) : TotP base 11 [.string ⟨#[49, 32, 45, 32, 50, 32, 33, 61, 32, 51]⟩, .string ⟨#[40, 49, 32, 45, 32, 50, 41, 32, 33, 61, 32, 51]⟩, .slice none 0 0] (.bool true) := tot_closed all_good A (rulesK2_ok A) Tryz.func11 (by kernel_rfl) (by kernel_rfl) (by kernel_rfl) pr_9_3_run

set_option maxRecDepth 1000000 in
theorem pr_9_4_run (off : Nat) (spot : Option Nat) : (funcK (envP 241 wildsP rulesK2) 300 11 [.string ⟨#[49, 32, 45, 32, 50, 32, 60, 32, 51]⟩, .string ⟨#[40, 49, 32, 45, 32, 50, 41, 32, 60, 32, 51]⟩, .slice none 0 0] (tabsE off spot) (Tryz.prog.globals.size + 1) fun u _ _ mw => u = .bool true ∧ Nat.ble (Tryz.prog.globals.size + 1) mw = true) = ((.bool true : Value) = .bool true ∧ true = true) := by kernel_rfl
theorem pr_9_4 {base : World} (A : AtP base) : TotP base 11 [.string ⟨#[49, 32, 45, 32, 50, 32, 60, 32, 51]⟩, .string ⟨#[40, 49, 32, 45, 32, 50, 41, 32, 60, 32, 51]⟩, .slice none 0 0] (.bool true) := tot_closed all_good A (rulesK2_ok A) Tryz.func11 (by kernel_rfl) (by kernel_rfl) (by kernel_rfl) pr_9_4_run

set_option maxRecDepth 1000000 in
theorem pr_9_5_run (off : Nat) (spot : Option Nat) : (funcK (envP 241 wildsP rulesK2) 300 11 [.string ⟨#[49, 32, 45, 32, 50, 32, 60, 61, 32, 51]⟩, .string ⟨#[40, 49, 32, 45, 32, 50, 41, 32, 60, 61, 32, 51]⟩, .slice none 0 0] (tabsE off spot) (Tryz.prog.globals.size + 1) fun u _ _ mw => u = .bool true ∧ Nat.ble (Tryz.prog.globals.size + 1) mw = true) = ((.bool true : Value) = .bool true ∧ true = true) := by kernel_rfl
theorem pr_9_5 {base : World} (A : AtP base) : TotP base 11 [.string ⟨#[49, 32, 45, 32, 50, 32, 60, 61, 32, 51]⟩, .string ⟨#[40, 49, 32, 45, 32, 50, 41, 32, 60, 61, 32, 51]⟩, .slice none 0 0] (.bool true) := tot_closed all_good A (rulesK2_ok A) Tryz.func11 (by kernel_rfl) (by kernel_rfl) (by kernel_rfl) pr_9_5_run

set_option maxRecDepth 1000000 in
theorem pr_9_6_run (off : Nat) (spot : Option Nat) : (funcK (envP 241 wildsP rulesK2) 300 11 [.string ⟨#[49, 32, 45, 32, 50, 32, 62, 32, 51]⟩, .string ⟨#[40, 49, 32, 45, 32, 50, 41, 32, 62, 32, 51]⟩, .slice none 0 0] (tabsE off spot) (Tryz.prog.globals.size + 1) fun u _ _ mw => u = .bool true ∧ Nat.ble (Tryz.prog.globals.size + 1) mw = true) = ((.bool true : Value) = .bool true ∧ true = true) := by kernel_rfl
theorem pr_9_6 {base : World} (A : AtP base) : TotP base 11 [.string ⟨#[49, 32, 45, 32, 50, 32, 62, 32, 51]⟩, .string ⟨#[40, 49, 32, 45, 32, 50, 41, 32, 62, 32, 51]⟩, .slice none 0 0] (.bool true) := tot_closed all_good A (rulesK2_ok A) Tryz.func11 (by kernel_rfl) (by kernel_rfl) (by kernel_rfl) pr_9_6_run

set_option maxRecDepth 1000000 in
theorem pr_9_7_run (off : Nat) (spot : Option Nat) : (funcK (envP 241 wildsP rulesK2) 300 11 [.string ⟨#[49, 32, 45, 32, 50, 32, 62, 61, 32, 51]⟩, .string ⟨#[40, 49, 32, 45, 32, 50, 41, 32, 62, 61, 32, 51]⟩, .slice none 0 0] (tabsE off spot) (Tryz.prog.globals.size + 1) fun u _ _ mw => u = .bool true ∧ Nat.ble (Tryz.prog.globals.size + 1) mw = true) = ((.bool true : Value) = .bool true ∧ true = true) := by kernel_rfl
theorem pr_9_7 {base : World} (A : AtP base) : TotP base 11 [.string ⟨#[49, 32, 45, 32, 50, 32, 62, 61, 32, 51]⟩, .string ⟨#[40, 49, 32, 45, 32, 50, 41, 32, 62, 61, 32, 51]⟩, .slice none 0 0] (.bool true) := tot_closed all_good A (rulesK2_ok A) Tryz.func11 (by kernel_rfl) (by kernel_rfl) (by kernel_rfl) pr_9_7_run

set_option maxRecDepth 1000000 in
theorem pr_9_8_run (off : Nat) (spot : Option Nat) : (funcK (envP 241 wildsP rulesK2) 300 11 [.string ⟨#[49, 32, 45, 32, 50, 32, 43, 32, 51]⟩, .string ⟨#[40, 49, 32, 45, 32, 50, 41, 32, 43, 32, 51]⟩, .slice none 0 0] (tabsE off spot) (Tryz.prog.globals.size + 1) fun u _ _ mw => u = .bool true ∧ Nat.ble (Tryz.prog.globals.size + 1) mw = true) = ((.bool true : Value) = .bool true ∧ true = true) := by kernel_rfl
theorem pr_9_8 {base : World} (A : AtP base) : TotP base 11 [.string ⟨#[49, 32, 45, 32, 50, 32, 43, 32, 51]⟩, .string ⟨#[40, 49, 32, 45, 32, 50, 41, 32, 43, 32, 51]⟩, .slice none 0 0] (.bool true) := tot_closed all_good A (rulesK2_ok A) Tryz.func11 (by kernel_rfl) (by kernel_rfl) (by kernel_rfl) pr_9_8_run

set_option maxRecDepth 1000000 in
theorem pr_9_9_run (off : Nat) (spot : Option Nat) : (funcK (envP 241 wildsP rulesK2) 300 11 [.string ⟨#[49, 32, 45, 32, 50, 32, 45, 32, 51]⟩, .string ⟨#[40, 49, 32, 45, 32, 50, 41, 32, 45, 32, 51]⟩, .slice none 0 0] (tabsE off spot) (Tryz.prog.globals.size + 1) fun u _ _ mw => u = .bool true ∧ Nat.ble (Tryz.prog.globals.size + 1) mw = true) = ((.bool true : Value) = .bool true ∧ true = true) := by kernel_rfl
theorem pr_9_9 {base : World} (A : AtP base) : TotP base 11 [.string ⟨#[49, 32, 45, 32, 50, 32, 45, 32, 51]⟩, .string ⟨#[40, 49, 32, 45, 32, 50, 41, 32, 45, 32, 51]⟩, .slice none 0 0] (.bool true) := tot_closed all_good A (rulesK2_ok A) Tryz.func11 (by kernel_rfl) (by kernel_rfl) (by kernel_rfl) pr_9_9_run

set_option maxRecDepth 1000000 in
theorem pr_9_10_run (off : Nat) (spot : Option Nat) : (funcK (envP 241 wildsP rulesK2) 300 11 [.string ⟨#[49, 32, 45, 32, 50, 32, 42, 32, 51]⟩, .string ⟨#[49, 32, 45, 32, 40, 50, 32, 42, 32, 51, 41]⟩, .slice none 0 0] (tabsE off spot) (Tryz.prog.globals.size + 1) fun u _ _ mw => u = .bool true ∧ Nat.ble (Tryz.prog.globals.size + 1) mw = true) = ((.bool true : Value) = .bool true ∧ true = true) := by kernel_rfl
theorem pr_9_10 {base : World} (A : AtP base) : TotP base 11 [.string ⟨#[49, 32, 45, 32, 50, 32, 42, 32, 51]⟩, .string ⟨#[49, 32, 45, 32, 40, 50, 32, 42, 32, 51, 41]⟩, .slice none 0 0] (.bool true) := tot_closed all_good A (rulesK2_ok A) Tryz.func11 (by kernel_rfl) (by kernel_rfl) (by kernel_rfl) pr_9_10_run

set_option maxRecDepth 1000000 in
theorem pr_9_11_run (off : Nat) (spot : Option Nat) : (funcK (envP 241 wildsP rulesK2) 300 11 [.string ⟨#[49, 32, 45, 32, 50, 32, 47, 32, 51]⟩, .string ⟨#[49, 32, 45, 32, 40, 50, 32, 47, 32, 51, 41]⟩, .slice none 0 0] (tabsE off spot) (Tryz.prog.globals.size + 1) fun u _ _ mw => u = .bool true ∧ Nat.ble (Tryz.prog.globals.size + 1) mw = true) = ((.bool true : Value) = .bool true ∧ true = true) := by kernel_rfl
theorem pr_9_11 {base : World} (A : AtP base) : TotP base 11 [.string ⟨#[49, 32, 45, 32, 50, 32, 47, 32, 51]⟩, .string ⟨#[49, 32, 45, 32, 40, 50, 32, 47, 32, 51, 41]⟩, .slice none 0 0] (.bool true) := tot_closed all_good A (rulesK2_ok A) Tryz.func11 (by kernel_rfl) (by kernel_rfl) (by kernel_rfl) pr_9_11_run

set_option maxRecDepth 1000000 in
theorem pr_9_12_run (off : Nat) (spot : Option Nat) : (funcK (envP 241 wildsP rulesK2) 300 11 [.string ⟨#[49, 32, 45, 32, 50, 32, 42, 42, 32, 51]⟩, .string ⟨#[49, 32, 45, 32, 40, 50, 32, 42, 42, 32, 51, 41]⟩, .slice none 0 0] (tabsE off spot) (Tryz.prog.globals.size + 1) fun u _ _ mw => u = .bool true ∧ Nat.ble (Tryz.prog.globals.size + 1) mw = true) = ((.bool true : Value) = .bool true ∧ true = true) := by kernel_rfl
theorem pr_9_12 {base : World} (A : AtP base) : TotP base 11 [.string ⟨#[49, 32, 45, 32, 50, 32, 42, 42, 32, 51]⟩, .string ⟨#[49, 32, 45, 32, 40, 50, 32, 42, 42, 32, 51, 41]⟩, .slice none 0 0] (.bool true) := tot_closed all_good A (rulesK2_ok A) Tryz.func11 (by kernel_rfl) (by kernel_rfl) (by kernel_rfl) pr_9_12_run

set_option maxRecDepth 1000000 in
theorem pr_10_0_run (off : Nat) (spot : Option Nat) : (funcK (envP 241 wildsP rulesK2) 300 11 [.string ⟨#[49, 32, 42, 32, 50, 32, 111, 114, 32, 51]⟩, .string ⟨#[40, 49, 32, 42, 32, 50, 41, 32, 111, 114, 32, 51]⟩, .slice none 0 0] (tabsE off spot) (Tryz.prog.globals.size + 1) fun u _ _ mw => u = .bool true ∧ Nat.ble (Tryz.prog.globals.size + 1) mw = true) = ((.bool true : Value) = .bool true ∧ true = true) := by kernel_rfl
theorem pr_10_0 {base : World} (A : AtP base) : TotP base 11 [.string ⟨#[49, 32, 42, 32, 50, 32, 111, 114, 32, 51]⟩, .string ⟨#[40, 49, 32, 42, 32, 50, 41, 32, 111, 114, 32, 51]⟩, .slice none 0 0] (.bool true) := tot_closed all_good A (rulesK2_ok A) Tryz.func11 (by kernel_rfl) (by kernel_rfl) (by kernel_rfl) pr_10_0_run

set_option maxRecDepth 1000000 in
theorem pr_10_1_run (off : Nat) (spot : Option Nat) : (funcK (envP 241 wildsP rulesK2) 300 11 [.string ⟨#[49, 32, 42, 32, 50, 32, 97, 110, 100, 32, 51]⟩, .string ⟨#[40, 49, 32, 42, 32, 50, 41, 32, 97, 110, 100, 32, 51]⟩, .slice none 0 0] (tabsE off spot) (Tryz.prog.globals.size + 1) fun u _ _ mw => u = .bool true ∧ Nat.ble (Tryz.prog.globals.size + 1) mw = true) = ((.bool true : Value) = .bool true ∧ true = true) := by kernel_rfl
theorem pr_10_1 {base : World} (A : AtP base) : TotP base 11 [.string ⟨#[49, 32, 42, 32, 50, 32, 97, 110, 100, 32, 51]⟩, .string ⟨#[40, 49, 32, 42, 32, 50, 41, 32, 97, 110, 100, 32, 51]⟩, .slice none 0 0] (.bool true) := tot_closed all_good A (rulesK2_ok A) Tryz.func11 (by kernel_rfl) (by kernel_rfl) (by kernel_rfl) pr_10_1_run

set_option maxRecDepth 1000000 in
theorem pr_10_2_run (off : Nat) (spot : Option Nat) : (funcK (envP 241 wildsP rulesK2) 300 11 [.string ⟨#[49, 32, 42, 32, 50, 32, 61, 32, 51]⟩, .string ⟨#[40, 49, 32, 42, 32, 50, 41, 32, 61, 32, 51]⟩, .slice none 0 0] (tabsE off spot) (Tryz.prog.globals.size + 1) fun u _ _ mw => u = .bool true ∧ Nat.ble (Tryz.prog.globals.size + 1) mw = true) = ((.bool true : Value) = .bool true ∧ true = true) := by kernel_rfl
theorem pr_10_2 {base : World} (A : AtP base) : TotP base 11 [.string ⟨#[49, 32, 42, 32, 50, 32, 61, 32, 51]⟩, .string ⟨#[40, 49, 32, 42, 32, 50, 41, 32, 61, 32, 51]⟩, .slice none 0 0] (.bool true) := tot_closed all_good A (rulesK2_ok A) Tryz.func11 (by kernel_rfl) (by kernel_rfl) (by kernel_rfl) pr_10_2_run

set_option maxRecDepth 1000000 in
theorem pr_10_3_run (off : Nat) (spot : Option Nat) : (funcK (envP 241 wildsP rulesK2) 300 11 [.string ⟨#[49, 32, 42, 32, 50, 32, 33, 61, 32, 51]⟩, .string ⟨#[40, 49, 32, 42, 32, 50, 41, 32, 33, 61, 32, 51]⟩, .slice none 0 0] (tabsE off spot) (Tryz.prog.globals.size + 1) fun u _ _ mw => u = .bool true ∧ Nat.ble (Tryz.prog.globals.size + 1) mw = true) = ((.bool true : Value) = .bool true ∧ true = true) := by kernel_rfl
theorem pr_10_3 {base : World} (A : AtP base) : TotP base 11 [.string ⟨#[49, 32, 42, 32, 50, 32, 33, 61, 32, 51]⟩, .string ⟨#[40, 49, 32, 42, 32, 50, 41, 32, 33, 61, 32, 51]⟩, .slice none 0 0] (.bool true) := tot_closed all_good A (rulesK2_ok A) Tryz.func11 (by kernel_rfl) (by kernel_rfl) (by kernel_rfl) pr_10_3_run

set_option maxRecDepth 1000000 in
theorem pr_10_4_run (off : Nat) (spot : Option Nat) : (funcK (envP 241 wildsP rulesK2) 300 11 [.string ⟨#[49, 32, 42, 32, 50, 32, 60, 32, 51]⟩, .string ⟨#[40, 49, 32, 42, 32, 50, 41, 32, 60, 32, 51]⟩, .slice none 0 0] (tabsE off spot) (Tryz.prog.globals.size + 1) fun u _ _ mw => u = .bool true ∧ Nat.ble (Tryz.prog.globals.size + 1) mw = true) = ((.bool true : Value) = .bool true ∧ true = true) := by kernel_rfl
theorem pr_10_4 {base : World} (A : AtP base) : TotP base 11 [.string ⟨#[49, 32, 42, 32, 50, 32, 60, 32, 51]⟩, .string ⟨#[40, 49, 32, 42, 32, 50, 41, 32, 60, 32, 51]⟩, .slice none 0 0] (.bool true) := tot_closed all_good A (rulesK2_ok A) Tryz.func11 (by kernel_rfl) (by kernel_rfl) (by kernel_rfl) pr_10_4_run

set_option maxRecDepth 1000000 in
theorem pr_10_5_run (off : Nat) (spot : Option Nat) : (funcK (envP 241 wildsP rulesK2) 300 11 [.string ⟨#[49, 32, 42, 32, 50, 32, 60, 61, 32, 51]⟩, .string ⟨#[40, 49, 32, 42, 32, 50, 41, 32, 60, 61, 32, 51]⟩, .slice none 0 0] (tabsE off spot) (Tryz.prog.globals.size + 1) fun u _ _ mw => u = .bool true ∧ Nat.ble (Tryz.prog.globals.size + 1) mw = true) = ((.bool true : Value) = .bool true ∧ true = true) := by kernel_rfl
theorem pr_10_5 {base : World} (A : AtP base) : TotP base 11 [.string ⟨#[49, 32, 42, 32, 50, 32, 60, 61, 32, 51]⟩, .string ⟨#[40, 49, 32, 42, 32, 50, 41, 32, 60, 61, 32, 51]⟩, .slice none 0 0] (.bool true) := tot_closed all_good A (rulesK2_ok A) Tryz.func11 (by kernel_rfl) (by kernel_rfl) (by kernel_rfl) pr_10_5_run

set_option maxRecDepth 1000000 in
theorem pr_10_6_run (off : Nat) (spot : Option Nat) : (funcK (envP 241 wildsP rulesK2) 300 11 [.string ⟨#[49, 32, 42, 32, 50, 32, 62, 32, 51]⟩, .string ⟨#[40, 49, 32, 42, 32, 50, 41, 32, 62, 32, 51]⟩, .slice none 0 0] (tabsE off spot) (Tryz.prog.globals.size + 1) fun u _ _ mw => u = .bool true ∧ Nat.ble (Tryz.prog.globals.size + 1) mw = true) = ((.bool true : Value) = .bool true ∧ true = true) := by kernel_rfl
theorem pr_10_6 {base : World} (A : AtP base) : TotP base 11 [.string ⟨#[49, 32, 42, 32, 50, 32, 62, 32, 51]⟩, .string ⟨#[40, 49, 32, 42, 32, 50, 41, 32, 62, 32, 51]⟩, .slice none 0 0] (.bool true) := tot_closed all_good A (rulesK2_ok A) Tryz.func11 (by kernel_rfl) (by kernel_rfl) (by kernel_rfl) pr_10_6_run

set_option maxRecDepth 1000000 in
theorem pr_10_7_run (off : Nat) (spot : Option Nat) : (funcK (envP 241 wildsP rulesK2) 300 11 [.string ⟨#[49, 32, 42, 32, 50, 32, 62, 61, 32, 51]⟩, .string ⟨#[40, 49, 32, 42, 32, 50, 41, 32, 62, 61, 32, 51]⟩, .slice none 0 0] (tabsE off spot) (Tryz.prog.globals.size + 1) fun u _ _ mw => u = .bool true ∧ Nat.ble (Tryz.prog.globals.size + 1) mw = true) = ((.bool true : Value) = .bool true ∧ true = true) := by kernel_rfl
theorem pr_10_7 {base : World} (A : AtP base) : TotP base 11 [.string ⟨#[49, 32, 42, 32, 50, 32, 62, 61, 32, 51]⟩, .string ⟨#[40, 49, 32, 42, 32, 50, 41, 32, 62, 61, 32, 51]⟩, .slice none 0 0] (.bool true) := tot_closed all_good A (rulesK2_ok A) Tryz.func11 (by kernel_rfl) (by kernel_rfl) (by kernel_rfl) pr_10_7_run

set_option maxRecDepth 1000000 in
theorem pr_10_8_run (off : Nat) (spot : Option Nat) : (funcK (envP 241 wildsP rulesK2) 300 11 [.string ⟨#[49, 32, 42, 32, 50, 32, 43, 32, 51]⟩, .string ⟨#[40, 49, 32, 42, 32, 50, 41, 32, 43, 32, 51]⟩, .slice none 0 0] (tabsE off spot) (Tryz.prog.globals.size + 1) fun u _ _ mw => u = .bool true ∧ Nat.ble (Tryz.prog.globals.size + 1) mw = true) = ((.bool true : Value) = .bool true ∧ true = true) := by kernel_rfl
theorem pr_10_8 {base : World} (A : AtP base) : TotP base 11 [.string ⟨#[49, 32, 42, 32, 50, 32, 43, 32, 51]⟩, .string ⟨#[40, 49, 32, 42, 32, 50, 41, 32, 43, 32, 51]⟩, .slice none 0 0] (.bool true) := tot_closed all_good A (rulesK2_ok A) Tryz.func11 (by kernel_rfl) (by kernel_rfl) (by kernel_rfl) pr_10_8_run

set_option maxRecDepth 1000000 in
theorem pr_10_9_run (off : Nat) (spot : Option Nat) : (funcK (envP 241 wildsP rulesK2) 300 11 [.string ⟨#[49, 32, 42, 32, 50, 32, 45, 32, 51]⟩, .string ⟨#[40, 49, 32, 42, 32, 50, 41, 32, 45, 32, 51]⟩, .slice none 0 0] (tabsE off spot) (Tryz.prog.globals.size + 1) fun u _ _ mw => u = .bool true ∧ Nat.ble (Tryz.prog.globals.size + 1) mw = true) = ((.bool true : Value) = .bool true ∧ true = true) := by kernel_rfl
theorem pr_10_9 {base : World} (A : AtP base) : TotP base 11 [.string ⟨#[49, 32, 42, 32, 50, 32, 45, 32, 51]⟩, .string ⟨#[40, 49, 32, 42, 32, 50, 41, 32, 45, 32, 51]⟩, .slice none 0 0] (.bool true) := tot_closed all_good A (rulesK2_ok A) Tryz.func11 (by kernel_rfl) (by kernel_rfl) (by kernel_rfl) pr_10_9_run

end Go.Proofs.YtapmcocefoccdaaGreatDoor
