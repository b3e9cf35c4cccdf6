/-
  Closed runs of the reader: operators, part 1.
-/
import Derived.Test.YtapmcocefoccdaaGreatDoorKb
namespace Go.Proofs.YtapmcocefoccdaaGreatDoor
open Go Go.Pe Go.RowKit

set_option maxRecDepth 1000000 in
theorem pr_2_9_run (off : Nat) (spot : Option Nat) : (funcK (envP 241 wildsP rulesK2) 300 11 [.string ⟨#[49, 32, 61, 32, 50, 32, 45, 32, 51]⟩, .string ⟨#[49, 32, 61, 32, 40, 50, 32, 45, 32, 51, 41]⟩, .slice none 0 0] (tabsE off spot) (Tryz.prog.globals.size + 1) fun u _ _ mw => u = .bool true ∧ Nat.ble (Tryz.prog.globals.size + 1) mw = true) = ((.bool true : Value) = .bool true ∧ true = true) := by kernel_rfl
theorem pr_2_9 {base : World} (A : AtP base) : TotP base 11 [.string ⟨#[49, 32, 61, 32, 50, 32, 45, 32, 51]⟩, .string ⟨#[49, 32, 61, 32, 40, 50, 32, 45, 32, 51, 41]⟩, .slice none 0 0] (.bool true) := tot_closed all_good A (rulesK2_ok A) Tryz.func11 (by kernel_rfl) (by kernel_rfl) (by kernel_rfl) pr_2_9_run

set_option maxRecDepth 1000000 in
theorem pr_2_10_run (off : Nat) (spot : Option Nat) : (funcK (envP 241 wildsP rulesK2) 300 11 [.string ⟨#[49, 32, 61, 32, 50, 32, 42, 32, 51]⟩, .string ⟨#[49, 32, 61, 32, 40, 50, 32, 42, 32, 51, 41]⟩, .slice none 0 0] (tabsE off spot) (Tryz.prog.globals.size + 1) fun u _ _ mw => u = .bool true ∧ Nat.ble (Tryz.prog.globals.size + 1) mw = true) = ((.bool true : Value) = .bool true ∧ true = true) := by kernel_rfl
theorem pr_2_10 {base : World} (A : AtP base) : TotP base 11 [.string ⟨#[49, 32, 61, 32, 50, 32, 42, 32, 51]⟩, .string ⟨#[49, 32, 61, 32, 40, 50, 32, 42, 32, 51, 41]⟩, .slice none 0 0] (.bool true) := tot_closed all_good A (rulesK2_ok A) Tryz.func11 (by kernel_rfl) (by kernel_rfl) (by kernel_rfl) pr_2_10_run

set_option maxRecDepth 1000000 in
theorem pr_2_11_run (off : Nat) (spot : Option Nat) : (funcK (envP 241 wildsP rulesK2) 300 11 [.string ⟨#[49, 32, 61, 32, 50, 32, 47, 32, 51]⟩, .string ⟨#[49, 32, 61, 32, 40, 50, 32, 47, 32, 51, 41]⟩, .slice none 0 0] (tabsE off spot) (Tryz.prog.globals.size + 1) fun u _ _ mw => u = .bool true ∧ Nat.ble (Tryz.prog.globals.size + 1) mw = true) = ((.bool true : Value) = .bool true ∧ true = true) := by kernel_rfl
theorem pr_2_11 {base : World} (A : AtP base) : TotP base 11 [.string ⟨#[49, 32, 61, 32, 50, 32, 47, 32, 51]⟩, .string ⟨#[49, 32, 61, 32, 40, 50, 32, 47, 32, 51, 41]⟩, .slice none 0 0] (.bool true) := tot_closed all_good A (rulesK2_ok A) Tryz.func11 (by kernel_rfl) (by kernel_rfl) (by kernel_rfl) pr_2_11_run

set_option maxRecDepth 1000000 in
theorem pr_2_12_run (off : Nat) (spot : Option Nat) : (funcK (envP 241 wildsP rulesK2) 300 11 [.string ⟨#[49, 32, 61, 32, 50, 32, 42, 42, 32, 51]⟩, .string ⟨#[49, 32, 61, 32, 40, 50, 32, 42, 42, 32, 51, 41]⟩, .slice none 0 0] (tabsE off spot) (Tryz.prog.globals.size + 1) fun u _ _ mw => u = .bool true ∧ Nat.ble (Tryz.prog.globals.size + 1) mw = true) = ((.bool true : Value) = .bool true ∧ true = true) := by kernel_rfl
theorem pr_2_12 {base : World} (A : AtP base) : TotP base 11 [.string ⟨#[49, 32, 61, 32, 50, 32, 42, 42, 32, 51]⟩, .string ⟨#[49, 32, 61, 32, 40, 50, 32, 42, 42, 32, 51, 41]⟩, .slice none 0 0] (.bool true) := tot_closed all_good A (rulesK2_ok A) Tryz.func11 (by kernel_rfl) (by kernel_rfl) (by kernel_rfl) pr_2_12_run

set_option maxRecDepth 1000000 in
theorem pr_3_0_run (off : Nat) (spot : Option Nat) : (funcK (envP 241 wildsP rulesK2) 300 11 [.string ⟨#[49, 32, 33, 61, 32, 50, 32, 111, 114, 32, 51]⟩, .string ⟨#[40, 49, 32, 33, 61, 32, 50, 41, 32, 111, 114, 32, 51]⟩, .slice none 0 0] (tabsE off spot) (Tryz.prog.globals.size + 1) fun u _ _ mw => u = .bool true ∧ Nat.ble (Tryz.prog.globals.size + 1) mw = true) = ((.bool true : Value) = .bool true ∧ true = true) := by kernel_rfl
theorem pr_3_0 {base : World} (A : AtP base) : TotP base 11 [.string ⟨#[49, 32, 33, 61, 32, 50, 32, 111, 114, 32, 51]⟩, .string ⟨#[40, 49, 32, 33, 61, 32, 50, 41, 32, 111, 114, 32, 51]⟩, .slice none 0 0] (.bool true) := tot_closed all_good A (rulesK2_ok A) Tryz.func11 (by kernel_rfl) (by kernel_rfl) (by kernel_rfl) pr_3_0_run

set_option maxRecDepth 1000000 in
theorem pr_3_1_run (off : Nat) (spot : Option Nat) : (funcK (envP 241 wildsP rulesK2) 300 11 [.string ⟨#[49, 32, 33, 61, 32, 50, 32, 97, 110, 100, 32, 51]⟩, .string ⟨#[40, 49, 32, 33, 61, 32, 50, 41, 32, 97, 110, 100, 32, 51]⟩, .slice none 0 0] (tabsE off spot) (Tryz.prog.globals.size + 1) fun u _ _ mw => u = .bool true ∧ Nat.ble (Tryz.prog.globals.size + 1) mw = true) = ((.bool true : Value) = .bool true ∧ true = true) := by kernel_rfl
theorem pr_3_1 {base : World} (A : AtP base) : TotP base 11 [.string ⟨#[49, 32, 33, 61, 32, 50, 32, 97, 110, 100, 32, 51]⟩, .string ⟨#[40, 49, 32, 33, 61, 32, 50, 41, 32, 97, 110, 100, 32, 51]⟩, .slice none 0 0] (.bool true) := tot_closed all_good A (rulesK2_ok A) Tryz.func11 (by kernel_rfl) (by kernel_rfl) (by kernel_rfl) pr_3_1_run

set_option maxRecDepth 1000000 in
theorem pr_3_2_run (off : Nat) (spot : Option Nat) : (funcK (envP 241 wildsP rulesK2) 300 10 [.string ⟨#[49, 32, 33, 61, 32, 50, 32, 61, 32, 51]⟩, .slice none 0 0] (tabsE off spot) (Tryz.prog.globals.size + 1) fun u _ _ mw => u = failV ∧ Nat.ble (Tryz.prog.globals.size + 1) mw = true) = ((failV : Value) = failV ∧ true = true) := by kernel_rfl
theorem pr_3_2 {base : World} (A : AtP base) : TotP base 10 [.string ⟨#[49, 32, 33, 61, 32, 50, 32, 61, 32, 51]⟩, .slice none 0 0] (failV) := tot_closed all_good A (rulesK2_ok A) Tryz.func10 (by kernel_rfl) (by kernel_rfl) (by kernel_rfl) pr_3_2_run

set_option maxRecDepth 1000000 in
theorem pr_3_3_run (off : Nat) (spot : Option Nat) : (funcK (envP 241 wildsP rulesK2) 300 10 [.string ⟨#[49, 32, 33, 61, 32, 50, 32, 33, 61, 32, 51]⟩, .slice none 0 0] (tabsE off spot) (Tryz.prog.globals.size + 1) fun u _ _ mw => u = failV ∧ Nat.ble (Tryz.prog.globals.size + 1) mw = true) = ((failV : Value) = failV ∧ true = true) := by kernel_rfl
theorem pr_3_3 {base : World} (A : AtP base) : TotP base 10 [.string ⟨#[49, 32, 33, 61, 32, 50, 32, 33, 61, 32, 51]⟩, .slice none 0 0] (failV) := tot_closed all_good A (rulesK2_ok A) Tryz.func10 (by kernel_rfl) (by kernel_rfl) (by kernel_rfl) pr_3_3_run

set_option maxRecDepth 1000000 in
theorem pr_3_4_run (off : Nat) (spot : Option Nat) : (funcK (envP 241 wildsP rulesK2) 300 10 [.string ⟨#[49, 32, 33, 61, 32, 50, 32, 60, 32, 51]⟩, .slice none 0 0] (tabsE off spot) (Tryz.prog.globals.size + 1) fun u _ _ mw => u = failV ∧ Nat.ble (Tryz.prog.globals.size + 1) mw = true) = ((failV : Value) = failV ∧ true = true) := by kernel_rfl
theorem pr_3_4 {base : World} (A : AtP base) : TotP base 10 [.string ⟨#[49, 32, 33, 61, 32, 50, 32, 60, 32, 51]⟩, .slice none 0 0] (failV) := tot_closed all_good A (rulesK2_ok A) Tryz.func10 (by kernel_rfl) (by kernel_rfl) (by kernel_rfl) pr_3_4_run

set_option maxRecDepth 1000000 in
theorem pr_3_5_run (off : Nat) (spot : Option Nat) : (funcK (envP 241 wildsP rulesK2) 300 10 [.string ⟨#[49, 32, 33, 61, 32, 50, 32, 60, 61, 32, 51]⟩, .slice none 0 0] (tabsE off spot) (Tryz.prog.globals.size + 1) fun u _ _ mw => u = failV ∧ Nat.ble (Tryz.prog.globals.size + 1) mw = true) = ((failV : Value) = failV ∧ true = true) := by kernel_rfl
theorem pr_3_5 {base : World} (A : AtP base) : TotP base 10 [.string ⟨#[49, 32, 33, 61, 32, 50, 32, 60, 61, 32, 51]⟩, .slice none 0 0] (failV) := tot_closed all_good A (rulesK2_ok A) Tryz.func10 (by kernel_rfl) (by kernel_rfl) (by kernel_rfl) pr_3_5_run

set_option maxRecDepth 1000000 in
theorem pr_3_6_run (off : Nat) (spot : Option Nat) : (funcK (envP 241 wildsP rulesK2) 300 10 [.string ⟨#[49, 32, 33, 61, 32, 50, 32, 62, 32, 51]⟩, .slice none 0 0] (tabsE off spot) (Tryz.prog.globals.size + 1) fun u _ _ mw => u = failV ∧ Nat.ble (Tryz.prog.globals.size + 1) mw = true) = ((failV : Value) = failV ∧ true = true) := by kernel_rfl
theorem pr_3_6 {base : World} (A : AtP base) : TotP base 10 [.string ⟨#[49, 32, 33, 61, 32, 50, 32, 62, 32, 51]⟩, .slice none 0 0] (failV) := tot_closed all_good A (rulesK2_ok A) Tryz.func10 (by kernel_rfl) (by kernel_rfl) (by kernel_rfl) pr_3_6_run

set_option maxRecDepth 1000000 in
theorem pr_3_7_run (off : Nat) (spot : Option Nat) : (funcK (envP 241 wildsP rulesK2) 300 10 [.string ⟨#[49, 32, 33, 61, 32, 50, 32, 62, 61, 32, 51]⟩, .slice none 0 0] (tabsE off spot) (Tryz.prog.globals.size + 1) fun u _ _ mw => u = failV ∧ Nat.ble (Tryz.prog.globals.size + 1) mw = true) = ((failV : Value) = failV ∧ true = true) := by kernel_rfl
theorem pr_3_7 {base : World} (A : AtP base) : TotP base 10 [.string ⟨#[49, 32, 33, 61, 32, 50, 32, 62, 61, 32, 51]⟩, .slice none 0 0] (failV) := tot_closed all_good A (rulesK2_ok A) Tryz.func10 (by kernel_rfl) (by kernel_rfl) (by kernel_rfl) pr_3_7_run

set_option maxRecDepth 1000000 in
theorem pr_3_8_run (off : Nat) (spot : Option Nat) : (funcK (envP 241 wildsP rulesK2) 300 11 [.string ⟨#[49, 32, 33, 61, 32, 50, 32, 43, 32, 51]⟩, .string ⟨#[49, 32, 33, 61, 32, 40, 50, 32, 43, 32, 51, 41]⟩, .slice none 0 0] (tabsE off spot) (Tryz.prog.globals.size + 1) fun u _ _ mw => u = .bool true ∧ Nat.ble (Tryz.prog.globals.size + 1) mw = true) = ((.bool true : Value) = .bool true ∧ true = true) := by kernel_rfl
theorem pr_3_8 {base : World} (A : AtP base) : TotP base 11 [.string ⟨#[49, 32, 33, 61, 32, 50, 32, 43, 32, 51]⟩, .string ⟨#[49, 32, 33, 61, 32, 40, 50, 32, 43, 32, 51, 41]⟩, .slice none 0 0] (.bool true) := tot_closed all_good A (rulesK2_ok A) Tryz.func11 (by kernel_rfl) (by kernel_rfl) (by kernel_rfl) pr_3_8_run

set_option maxRecDepth 1000000 in
theorem pr_3_9_run (off : Nat) (spot : Option Nat) : (funcK (envP 241 wildsP rulesK2) 300 11 [.string ⟨#[49, 32, 33, 61, 32, 50, 32, 45, 32, 51]⟩, .string ⟨#[49, 32, 33, 61, 32, 40, 50, 32, 45, 32, 51, 41]⟩, .slice none 0 0] (tabsE off spot) (Tryz.prog.globals.size + 1) fun u _ _ mw => u = .bool true ∧ Nat.ble (Tryz.prog.globals.size + 1) mw = true) = ((.bool true : Value) = .bool true ∧ true = true) := by kernel_rfl
theorem pr_3_9 {base : World} (A : AtP base) : TotP base 11 [.string ⟨#[49, 32, 33, 61, 32, 50, 32, 45, 32, 51]⟩, .string ⟨#[49, 32, 33, 61, 32, 40, 50, 32, 45, 32, 51, 41]⟩, .slice none 0 0] (.bool true) := tot_closed all_good A (rulesK2_ok A) Tryz.func11 (by kernel_rfl) (by kernel_rfl) (by kernel_rfl) pr_3_9_run

set_option maxRecDepth 1000000 in
theorem pr_3_10_run (off : Nat) (spot : Option Nat) : (funcK (envP 241 wildsP rulesK2) 300 11 [.string ⟨#[49, 32, 33, 61, 32, 50, 32, 42, 32, 51]⟩, .string ⟨#[49, 32, 33, 61, 32, 40, 50, 32, 42, 32, 51, 41]⟩, .slice none 0 0] (tabsE off spot) (Tryz.prog.globals.size + 1) fun u _ _ mw => u = .bool true ∧ Nat.ble (Tryz.prog.globals.size + 1) mw = true) = ((.bool true : Value) = .bool true ∧ true = true) := by kernel_rfl
theorem pr_3_10 {base : World} (A : AtP base) : TotP base 11 [.string ⟨#[49, 32, 33, 61, 32, 50, 32, 42, 32, 51]⟩, .string ⟨#[49, 32, 33, 61, 32, 40, 50, 32, 42, 32, 51, 41]⟩, .slice none 0 0] (.bool true) := tot_closed all_good A (rulesK2_ok A) Tryz.func11 (by kernel_rfl) (by kernel_rfl) (by kernel_rfl) pr_3_10_run

set_option maxRecDepth 1000000 in
theorem pr_3_11_run (off : Nat) (spot : Option Nat) : (funcK (envP 241 wildsP rulesK2) 300 11 [.string ⟨#[49, 32, 33, 61, 32, 50, 32, 47, 32, 51]⟩, .string ⟨#[49, 32, 33, 61, 32, 40, 50, 32, 47, 32, 51, 41]⟩, .slice none 0 0] (tabsE off spot) (Tryz.prog.globals.size + 1) fun u _ _ mw => u = .bool true ∧ Nat.ble (Tryz.prog.globals.size + 1) mw = true) = ((.bool true : Value) = .bool true ∧ true = true) := by kernel_rfl
theorem pr_3_11 {base : World} (A : AtP base) : TotP base 11 [.string ⟨#[49, 32, 33, 61, 32, 50, 32, 47, 32, 51]⟩, .string ⟨#[49, 32, 33, 61, 32, 40, 50, 32, 47, 32, 51, 41]⟩, .slice none 0 0] (.bool true) := tot_closed all_good A (rulesK2_ok A) Tryz.func11 (by kernel_rfl) (by kernel_rfl) (by kernel_rfl) pr_3_11_run

set_option maxRecDepth 1000000 in
theorem pr_3_12_run (off : Nat) (spot : Option Nat) : (funcK (envP 241 wildsP rulesK2) 300 11 [.string ⟨#[49, 32, 33, 61, 32, 50, 32, 42, 42, 32, 51]⟩, .string ⟨#[49, 32, 33, 61, 32, 40, 50, 32, 42, 42, 32, 51, 41]⟩, .slice none 0 0] (tabsE off spot) (Tryz.prog.globals.size + 1) fun u _ _ mw => u = .bool true ∧ Nat.ble (Tryz.prog.globals.size + 1) mw = true) = ((.bool true : Value) = .bool true ∧ true = true) := by kernel_rfl
theorem pr_3_12 {base : World} (A : AtP base) : TotP base 11 [.string ⟨#[49, 32, 33, 61, 32, 50, 32, 42, 42, 32, 51]⟩, .string ⟨#[49, 32, 33, 61, 32, 40, 50, 32, 42, 42, 32, 51, 41]⟩, .slice none 0 0] (.bool true) := tot_closed all_good A (rulesK2_ok A) Tryz.func11 (by kernel_rfl) (by kernel_rfl) (by kernel_rfl) pr_3_12_run

set_option maxRecDepth 1000000 in
theorem pr_4_0_run (off : Nat) (spot : Option Nat) : (funcK (envP 241 wildsP rulesK2) 300 11 [.string ⟨#[49, 32, 60, 32, 50, 32, 111, 114, 32, 51]⟩, .string ⟨#[40, 49, 32, 60, 32, 50, 41, 32, 111, 114, 32, 51]⟩, .slice none 0 0] (tabsE off spot) (Tryz.prog.globals.size + 1) fun u _ _ mw => u = .bool true ∧ Nat.ble (Tryz.prog.globals.size + 1) mw = true) = ((.bool true : Value) = .bool true ∧ true = true) := by kernel_rfl
theorem pr_4_0 {base : World} (A : AtP base) : TotP base 11 [.string ⟨#[49, 32, 60, 32, 50, 32, 111, 114, 32, 51]⟩, .string ⟨#[40, 49, 32, 60, 32, 50, 41, 32, 111, 114, 32, 51]⟩, .slice none 0 0] (.bool true) := tot_closed all_good A (rulesK2_ok A) Tryz.func11 (by kernel_rfl) (by kernel_rfl) (by kernel_rfl) pr_4_0_run

set_option maxRecDepth 1000000 in
theorem pr_4_1_run (off : Nat) (spot : Option Nat) : (funcK (envP 241 wildsP rulesK2) 300 11 [.string ⟨#[49, 32, 60, 32, 50, 32, 97, 110, 100, 32, 51]⟩, .string ⟨#[40, 49, 32, 60, 32, 50, 41, 32, 97, 110, 100, 32, 51]⟩, .slice none 0 0] (tabsE off spot) (Tryz.prog.globals.size + 1) fun u _ _ mw => u = .bool true ∧ Nat.ble (Tryz.prog.globals.size + 1) mw = true) = ((.bool true : Value) = .bool true ∧ true = true) := by kernel_rfl
theorem pr_4_1 {base : World} (A : AtP base) : TotP base 11 [.string ⟨#[49, 32, 60, 32, 50, 32, 97, 110, 100, 32, 51]⟩, .string ⟨#[40, 49, 32, 60, 32, 50, 41, 32, 97, 110, 100, 32, 51]⟩, .slice none 0 0] (.bool true) := tot_closed all_good A (rulesK2_ok A) Tryz.func11 (by kernel_rfl) (by kernel_rfl) (by kernel_rfl) pr_4_1_run

set_option maxRecDepth 1000000 in
theorem pr_4_2_run (off : Nat) (spot : Option Nat) : (funcK (envP 241 wildsP rulesK2) 300 10 [.string ⟨#[49, 32, 60, 32, 50, 32, 61, 32, 51]⟩, .slice none 0 0] (tabsE off spot) (Tryz.prog.globals.size + 1) fun u _ _ mw => u = failV ∧ Nat.ble (Tryz.prog.globals.size + 1) mw = true) = ((failV : Value) = failV ∧ true = true) := by kernel_rfl
theorem pr_4_2 {base : World} (A : AtP base) : TotP base 10 [.string ⟨#[49, 32, 60, 32, 50, 32, 61, 32, 51]⟩, .slice none 0 0] (failV) := tot_closed all_good A (rulesK2_ok A) Tryz.func10 (by kernel_rfl) (by kernel_rfl) (by kernel_rfl) pr_4_2_run

set_option maxRecDepth 1000000 in
theorem pr_4_3_run (off : Nat) (spot : Option Nat) : (funcK (envP 241 wildsP rulesK2) 300 10 [.string ⟨#[49, 32, 60, 32, 50, 32, 33, 61, 32, 51]⟩, .slice none 0 0] (tabsE off spot) (Tryz.prog.globals.size + 1) fun u _ _ mw => u = failV ∧ Nat.ble (Tryz.prog.globals.size + 1) mw = true) = ((failV : Value) = failV ∧ true = true) := by kernel_rfl
theorem pr_4_3 {base : World} (A : AtP base) : TotP base 10 [.string ⟨#[49, 32, 60, 32, 50, 32, 33, 61, 32, 51]⟩, .slice none 0 0] (failV) := tot_closed all_good A (rulesK2_ok A) Tryz.func10 (by kernel_rfl) (by kernel_rfl) (by kernel_rfl) pr_4_3_run

set_option maxRecDepth 1000000 in
theorem pr_4_4_run (off : Nat) (spot : Option Nat) : (funcK (envP 241 wildsP rulesK2) 300 10 [.string ⟨#[49, 32, 60, 32, 50, 32, 60, 32, 51]⟩, .slice none 0 0] (tabsE off spot) (Tryz.prog.globals.size + 1) fun u _ _ mw => u = failV ∧ Nat.ble (Tryz.prog.globals.size + 1) mw = true) = ((failV : Value) = failV ∧ true = true) := by kernel_rfl
theorem pr_4_4 {base : World} (A : AtP base) : TotP base 10 [.string ⟨#[49, 32, 60, 32, 50, 32, 60, 32, 51]⟩, .slice none 0 0] (failV) := tot_closed all_good A (rulesK2_ok A) Tryz.func10 (by kernel_rfl) (by kernel_rfl) (by kernel_rfl) pr_4_4_run

set_option maxRecDepth 1000000 in
theorem pr_4_5_run (off : Nat) (spot : Option Nat) : (funcK (envP 241 wildsP rulesK2) 300 10 [.string ⟨#[49, 32, 60, 32, 50, 32, 60, 61, 32, 51]⟩, .slice none 0 0] (tabsE off spot) (Tryz.prog.globals.size + 1) fun u _ _ mw => u = failV ∧ Nat.ble (Tryz.prog.globals.size + 1) mw = true) = ((failV : Value) = failV ∧ true = true) := by kernel_rfl
theorem pr_4_5 {base : World} (A : AtP base) : TotP base 10 [.string ⟨#[49, 32, 60, 32, 50, 32, 60, 61, 32, 51]⟩, .slice none 0 0] (failV) := tot_closed all_good A (rulesK2_ok A) Tryz.func10 (by kernel_rfl) (by kernel_rfl) (by kernel_rfl) pr_4_5_run

set_option maxRecDepth 1000000 in
theorem pr_4_6_run (off : Nat) (spot : Option Nat) : (funcK (envP 241 wildsP rulesK2) 300 10 [.string ⟨#[49, 32, 60, 32, 50, 32, 62, 32, 51]⟩, .slice none 0 0] (tabsE off spot) (Tryz.prog.globals.size + 1) fun u _ _ mw => u = failV ∧ Nat.ble (Tryz.prog.globals.size + 1) mw = true) = ((failV : Value) = failV ∧ true = true) := by kernel_rfl
theorem pr_4_6 {base : World} (A : AtP base) : TotP base 10 [.string ⟨#[49, 32, 60, 32, 50, 32, 62, 32, 51]⟩, .slice none 0 0] (failV) := tot_closed all_good A (rulesK2_ok A) Tryz.func10 (by kernel_rfl) (by kernel_rfl) (by kernel_rfl) pr_4_6_run

set_option maxRecDepth 1000000 in
theorem pr_4_7_run (off : Nat) (spot : Option Nat) : (funcK (envP 241 wildsP rulesK2) 300 10 [.string ⟨#[49, 32, 60, 32, 50, 32, 62, 61, 32, 51]⟩, .slice none 0 0] (tabsE off spot) (Tryz.prog.globals.size + 1) fun u _ _ mw => u = failV ∧ Nat.ble (Tryz.prog.globals.size + 1) mw = true) = ((failV : Value) = failV ∧ true = true) := by kernel_rfl
theorem pr_4_7 {base : World} (A : AtP base) : TotP base 10 [.string ⟨#[49, 32, 60, 32, 50, 32, 62, 61, 32, 51]⟩, .slice none 0 0] (failV) := tot_closed all_good A (rulesK2_ok A) Tryz.func10 (by kernel_rfl) (by kernel_rfl) (by kernel_rfl) pr_4_7_run

set_option maxRecDepth 1000000 in
theorem pr_4_8_run (off : Nat) (spot : Option Nat) : (funcK (envP 241 wildsP rulesK2) 300 11 [.string ⟨#[49, 32, 60, 32, 50, 32, 43, 32, 51]⟩, .string ⟨#[49, 32, 60, 32, 40, 50, 32, 43, 32, 51, 41]⟩, .slice none 0 0] (tabsE off spot) (Tryz.prog.globals.size + 1) fun u _ _ mw => u = .bool true ∧ Nat.ble (Tryz.prog.globals.size + 1) mw = true) = ((.bool true : Value) = .bool true ∧ true = true) := by kernel_rfl
theorem pr_4_8 {base : World} (A : AtP base) : TotP base 11 [.string ⟨#[49, 32, 60, 32, 50, 32, 43, 32, 51]⟩, .string ⟨#[49, 32, 60, 32, 40, 50, 32, 43, 32, 51, 41]⟩, .slice none 0 0] (.bool true) := tot_closed all_good A (rulesK2_ok A) Tryz.func11 (by kernel_rfl) (by kernel_rfl) (by kernel_rfl) pr_4_8_run

set_option maxRecDepth 1000000 in
theorem pr_4_9_run (off : Nat) (spot : Option Nat) : (funcK (envP 241 wildsP rulesK2) 300 11 [.string ⟨#[49, 32, 60, 32, 50, 32, 45, 32, 51]⟩, .string ⟨#[49, 32, 60, 32, 40, 50, 32, 45, 32, 51, 41]⟩, .slice none 0 0] (tabsE off spot) (Tryz.prog.globals.size + 1) fun u _ _ mw => u = .bool true ∧ Nat.ble (Tryz.prog.globals.size + 1) mw = true) = ((.bool true : Value) = .bool true ∧ true = true) := by kernel_rfl
theorem pr_4_9 {base : World} (A : AtP base) : TotP base 11 [.string ⟨#[49, 32, 60, 32, 50, 32, 45, 32, 51]⟩, .string ⟨#[49, 32, 60, 32, 40, 50, 32, 45, 32, 51, 41]⟩, .slice none 0 0] (.bool true) := tot_closed all_good A (rulesK2_ok A) Tryz.func11 (by kernel_rfl) (by kernel_rfl) (by kernel_rfl) pr_4_9_run

set_option maxRecDepth 1000000 in
theorem pr_4_10_run (off : Nat) (spot : Option Nat) : (funcK (envP 241 wildsP rulesK2) 300 11 [.string ⟨#[49, 32, 60, 32, 50, 32, 42, 32, 51]⟩, .string ⟨#[49, 32, 60, 32, 40, 50, 32, 42, 32, 51, 41]⟩, .slice none 0 0] (tabsE off spot) (Tryz.prog.globals.size + 1) fun u _ _ mw => u = .bool true ∧ Nat.ble (Tryz.prog.globals.size + 1) mw = true) = ((.bool true : Value) = .bool true ∧ true = true) := by kernel_rfl
theorem pr_4_10 {base : World} (A : AtP base) : TotP base 11 [.string ⟨#[49, 32, 60, 32, 50, 32, 42, 32, 51]⟩, .string ⟨#[49, 32, 60, 32, 40, 50, 32, 42, 32, 51, 41]⟩, .slice none 0 0] (.bool true) := tot_closed all_good A (rulesK2_ok A) Tryz.func11 (by kernel_rfl) (by kernel_rfl) (by kernel_rfl) pr_4_10_run

set_option maxRecDepth 1000000 in
theorem pr_4_11_run (off : Nat) (spot : Option Nat) : (funcK (envP 241 wildsP rulesK2) 300 11 [.string ⟨#[49, 32, 60, 32, 50, 32, 47, 32, 51]⟩, .string ⟨#[49, 32, 60, 32, 40, 50, 32, 47, 32, 51, 41]⟩, .slice none 0 0] (tabsE off spot) (Tryz.prog.globals.size + 1) fun u _ _ mw => u = .bool true ∧ Nat.ble (Tryz.prog.globals.size + 1) mw = true) = ((.bool true : Value) = .bool true ∧ true = true) := by kernel_rfl
theorem pr_4_11 {base : World} (A : AtP base) : TotP base 11 [.string ⟨#[49, 32, 60, 32, 50, 32, 47, 32, 51]⟩, .string ⟨#[49, 32, 60, 32, 40, 50, 32, 47, 32, 51, 41]⟩, .slice none 0 0] (.bool true) := tot_closed all_good A (rulesK2_ok A) Tryz.func11 (by kernel_rfl) (by kernel_rfl) (by kernel_rfl) pr_4_11_run

set_option maxRecDepth 1000000 in
theorem pr_4_12_run (off : Nat) (spot : Option Nat) : (funcK (envP 241 wildsP rulesK2) 300 11 [.string ⟨#[49, 32, 60, 32, 50, 32, 42, 42, 32, 51]⟩, .string ⟨#[49, 32, 60, 32, 40, 50, 32, 42, 42, 32, 51, 41]⟩, .slice none 0 0] (tabsE off spot) (Tryz.prog.globals.size + 1) fun u _ _ mw => u = .bool true ∧ Nat.ble (Tryz.prog.globals.size + 1) mw = true) = ((.bool true : Value) = .bool true ∧ true = true) := by kernel_rfl
theorem pr_4_12 {base : World} (A : AtP base) : TotP base 11 [.string ⟨#[49, 32, 60, 32, 50, 32, 42, 42, 32, 51]⟩, .string ⟨#[49, 32, 60, 32, 40, 50, 32, 42, 42, 32, 51, 41]⟩, .slice none 0 0] (.bool true) := tot_closed all_good A (rulesK2_ok A) Tryz.func11 (by kernel_rfl) (by kernel_rfl) (by kernel_rfl) pr_4_12_run

set_option maxRecDepth 1000000 in
theorem pr_5_0_run (off : Nat) (spot : Option Nat) : (funcK (envP 241 wildsP rulesK2) 300 11 [.string ⟨#[49, 32, 60, 61, 32, 50, 32, 111, 114, 32, 51]⟩, .string ⟨#[40, 49, 32, 60, 61, 32, 50, 41, 32, 111, 114, 32, 51]⟩, .slice none 0 0] (tabsE off spot) (Tryz.prog.globals.size + 1) fun u _ _ mw => u = .bool true ∧ Nat.ble (Tryz.prog.globals.size + 1) mw = true) = ((.bool true : Value) = .bool true ∧ true = true) := by kernel_rfl
theorem pr_5_0 {base : World} (A : AtP base) : TotP base 11 [.string ⟨#[49, 32, 60, 61, 32, 50, 32, 111, 114, 32, 51]⟩, .string ⟨#[40, 49, 32, 60, 61, 32, 50, 41, 32, 111, 114, 32, 51]⟩, .slice none 0 0] (.bool true) := tot_closed all_good A (rulesK2_ok A) Tryz.func11 (by kernel_rfl) (by kernel_rfl) (by kernel_rfl) pr_5_0_run

set_option maxRecDepth 1000000 in
theorem pr_5_1_run (off : Nat) (spot : Option Nat) : (funcK (envP 241 wildsP rulesK2) 300 11 [.string ⟨#[49, 32, 60, 61, 32, 50, 32, 97, 110, 100, 32, 51]⟩, .string ⟨#[40, 49, 32, 60, 61, 32, 50, 41, 32, 97, 110, 100, 32, 51]⟩, .slice none 0 0] (tabsE off spot) (Tryz.prog.globals.size + 1) fun u _ _ mw => u = .bool true ∧ Nat.ble (Tryz.prog.globals.size + 1) mw = true) = ((.bool true : Value) = .bool true ∧ true = true) := by kernel_rfl
theorem pr_5_1 {base : World} (A : AtP base) : TotP base 11 [.string ⟨#[49, 32, 60, 61, 32, 50, 32, 97, 110, 100, 32, 51]⟩, .string ⟨#[40, 49, 32, 60, 61, 32, 50, 41, 32, 97, 110, 100, 32, 51]⟩, .slice none 0 0] (.bool true) := tot_closed all_good A (rulesK2_ok A) Tryz.func11 (by kernel_rfl) (by kernel_rfl) (by kernel_rfl) pr_5_1_run

set_option maxRecDepth 1000000 in
theorem pr_5_2_run (off : Nat) (spot : Option Nat) : (funcK (envP 241 wildsP rulesK2) 300 10 [.string ⟨#[49, 32, 60, 61, 32, 50, 32, 61, 32, 51]⟩, .slice none 0 0] (tabsE off spot) (Tryz.prog.globals.size + 1) fun u _ _ mw => u = failV ∧ Nat.ble (Tryz.prog.globals.size + 1) mw = true) = ((failV : Value) = failV ∧ true = true) := by kernel_rfl
theorem pr_5_2 {base : World} (A : AtP base) : TotP base 10 [.string ⟨#[49, 32, 60, 61, 32, 50, 32, 61, 32, 51]⟩, .slice none 0 0] (failV) := tot_closed all_good A (rulesK2_ok A) Tryz.func10 (by kernel_rfl) (by kernel_rfl) (by kernel_rfl) pr_5_2_run

set_option maxRecDepth 1000000 in
theorem pr_5_3_run (off : Nat) (spot : Option Nat) : (funcK (envP 241 wildsP rulesK2) 300 10 [.string ⟨#[49, 32, 60, 61, 32, 50, 32, 33, 61, 32, 51]⟩, .slice none 0 0] (tabsE off spot) (Tryz.prog.globals.size + 1) fun u _ _ mw => u = failV ∧ Nat.ble (Tryz.prog.globals.size + 1) mw = true) = ((failV : Value) = failV ∧ true = true) := by kernel_rfl
theorem pr_5_3 {base : World} (A : AtP base) : TotP base 10 [.string ⟨#[49, 32, 60, 61, 32, 50, 32, 33, 61, 32, 51]⟩, .slice none 0 0] (failV) := tot_closed all_good A (rulesK2_ok A) Tryz.func10 (by kernel_rfl) (by kernel_rfl) (by kernel_rfl) pr_5_3_run

set_option maxRecDepth 1000000 in
theorem pr_5_4_run (off : Nat) (spot : Option Nat) : (funcK (envP 241 wildsP rulesK2) 300 10 [.string ⟨#[49, 32, 60, 61, 32, 50, 32, 60, 32, 51]⟩, .slice none 0 0] (tabsE off spot) (Tryz.prog.globals.size + 1) fun u _ _ mw => u = failV ∧ Nat.ble (Tryz.prog.globals.size + 1) mw = true) = ((failV : Value) = failV ∧ true = true) := by kernel_rfl
theorem pr_5_4 {base : World} (A : AtP base) : TotP base 10 [.string ⟨#[49, 32, 60, 61, 32, 50, 32, 60, 32, 51]⟩, .slice none 0 0] (failV) := tot_closed all_good A (rulesK2_ok A) Tryz.func10 (by kernel_rfl) (by kernel_rfl) (by kernel_rfl) pr_5_4_run

end Go.Proofs.YtapmcocefoccdaaGreatDoor
