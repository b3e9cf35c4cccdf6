/-
  Closed runs of the reader: operators, part 2.
-/
import Derived.Test.YtapmcocefoccdaaGreatDoorKb
namespace Go.Proofs.YtapmcocefoccdaaGreatDoor
open Go Go.Pe Go.RowKit

set_option maxRecDepth 1000000 in
theorem pr_5_5_run (off : Nat) (spot : Option Nat) : (funcK (envP 241 wildsP rulesK2) 300 10 [.string ⟨#[49, 32, 60, 61, 32, 50, 32, 60, 61, 32, 51]⟩, .slice none 0 0] (tabsE off spot) (Tryz.prog.globals.size + 1) fun u _ _ mw => u = failV ∧ Nat.ble (Tryz.prog.globals.size + 1) mw = true) = ((failV : Value) = failV ∧ true = true) := by kernel_rfl
theorem pr_5_5 {base : World} (A : AtP base) : TotP base 10 [.string ⟨#[49, 32, 60, 61, 32, 50, 32, 60, 61, 32, 51]⟩, .slice none 0 0] (failV) := tot_closed all_good A (rulesK2_ok A) Tryz.func10 (by kernel_rfl) (by kernel_rfl) (by kernel_rfl) pr_5_5_run

set_option maxRecDepth 1000000 in
theorem pr_5_6_run (off : Nat) (spot : Option Nat) : (funcK (envP 241 wildsP rulesK2) 300 10 [.string ⟨#[49, 32, 60, 61, 32, 50, 32, 62, 32, 51]⟩, .slice none 0 0] (tabsE off spot) (Tryz.prog.globals.size + 1) fun u _ _ mw => u = failV ∧ Nat.ble (Tryz.prog.globals.size + 1) mw = true) = ((failV : Value) = failV ∧ true = true) := by kernel_rfl
theorem pr_5_6 {base : World} (A : AtP base) : TotP base 10 [.string ⟨#[49, 32, 60, 61, 32, 50, 32, 62, 32, 51]⟩, .slice none 0 0] (failV) := tot_closed all_good A (rulesK2_ok A) Tryz.func10 (by kernel_rfl) (by kernel_rfl) (by kernel_rfl) pr_5_6_run

set_option maxRecDepth 1000000 in
theorem pr_5_7_run (off : Nat) (spot : Option Nat) : (funcK (envP 241 wildsP rulesK2) 300 10 [.string ⟨#[49, 32, 60, 61, 32, 50, 32, 62, 61, 32, 51]⟩, .slice none 0 0] (tabsE off spot) (Tryz.prog.globals.size + 1) fun u _ _ mw => u = failV ∧ Nat.ble (Tryz.prog.globals.size + 1) mw = true) = ((failV : Value) = failV ∧ true = true) := by kernel_rfl
theorem pr_5_7 {base : World} (A : AtP base) : TotP base 10 [.string ⟨#[49, 32, 60, 61, 32, 50, 32, 62, 61, 32, 51]⟩, .slice none 0 0] (failV) := tot_closed all_good A (rulesK2_ok A) Tryz.func10 (by kernel_rfl) (by kernel_rfl) (by kernel_rfl) pr_5_7_run

set_option maxRecDepth 1000000 in
theorem pr_5_8_run (off : Nat) (spot : Option Nat) : (funcK (envP 241 wildsP rulesK2) 300 11 [.string ⟨#[49, 32, 60, 61, 32, 50, 32, 43, 32, 51]⟩, .string ⟨#[49, 32, 60, 61, 32, 40, 50, 32, 43, 32, 51, 41]⟩, .slice none 0 0] (tabsE off spot) (Tryz.prog.globals.size + 1) fun u _ _ mw => u = .bool true ∧ Nat.ble (Tryz.prog.globals.size + 1) mw = true) = ((.bool true : Value) = .bool true ∧ true = true) := by kernel_rfl
theorem pr_5_8 {base : World} (A : AtP base) : TotP base 11 [.string ⟨#[49, 32, 60, 61, 32, 50, 32, 43, 32, 51]⟩, .string ⟨#[49, 32, 60, 61, 32, 40, 50, 32, 43, 32, 51, 41]⟩, .slice none 0 0] (.bool true) := tot_closed all_good A (rulesK2_ok A) Tryz.func11 (by kernel_rfl) (by kernel_rfl) (by kernel_rfl) pr_5_8_run

set_option maxRecDepth 1000000 in
theorem pr_5_9_run (off : Nat) (spot : Option Nat) : (funcK (envP 241 wildsP rulesK2) 300 11 [.string ⟨#[49, 32, 60, 61, 32, 50, 32, 45, 32, 51]⟩, .string ⟨#[49, 32, 60, 61, 32, 40, 50, 32, 45, 32, 51, 41]⟩, .slice none 0 0] (tabsE off spot) (Tryz.prog.globals.size + 1) fun u _ _ mw => u = .bool true ∧ Nat.ble (Tryz.prog.globals.size + 1) mw = true) = ((.bool true : Value) = .bool true ∧ true = true) := by kernel_rfl
theorem pr_5_9 {base : World} (A : AtP base) : TotP base 11 [.string ⟨#[49, 32, 60, 61, 32, 50, 32, 45, 32, 51]⟩, .string ⟨#[49, 32, 60, 61, 32, 40, 50, 32, 45, 32, 51, 41]⟩, .slice none 0 0] (.bool true) := tot_closed all_good A (rulesK2_ok A) Tryz.func11 (by kernel_rfl) (by kernel_rfl) (by kernel_rfl) pr_5_9_run

set_option maxRecDepth 1000000 in
theorem pr_5_10_run (off : Nat) (spot : Option Nat) : (funcK (envP 241 wildsP rulesK2) 300 11 [.string ⟨#[49, 32, 60, 61, 32, 50, 32, 42, 32, 51]⟩, .string ⟨#[49, 32, 60, 61, 32, 40, 50, 32, 42, 32, 51, 41]⟩, .slice none 0 0] (tabsE off spot) (Tryz.prog.globals.size + 1) fun u _ _ mw => u = .bool true ∧ Nat.ble (Tryz.prog.globals.size + 1) mw = true) = ((.bool true : Value) = .bool true ∧ true = true) := by kernel_rfl
theorem pr_5_10 {base : World} (A : AtP base) : TotP base 11 [.string ⟨#[49, 32, 60, 61, 32, 50, 32, 42, 32, 51]⟩, .string ⟨#[49, 32, 60, 61, 32, 40, 50, 32, 42, 32, 51, 41]⟩, .slice none 0 0] (.bool true) := tot_closed all_good A (rulesK2_ok A) Tryz.func11 (by kernel_rfl) (by kernel_rfl) (by kernel_rfl) pr_5_10_run

set_option maxRecDepth 1000000 in
theorem pr_5_11_run (off : Nat) (spot : Option Nat) : (funcK (envP 241 wildsP rulesK2) 300 11 [.string ⟨#[49, 32, 60, 61, 32, 50, 32, 47, 32, 51]⟩, .string ⟨#[49, 32, 60, 61, 32, 40, 50, 32, 47, 32, 51, 41]⟩, .slice none 0 0] (tabsE off spot) (Tryz.prog.globals.size + 1) fun u _ _ mw => u = .bool true ∧ Nat.ble (Tryz.prog.globals.size + 1) mw = true) = ((.bool true : Value) = .bool true ∧ true = true) := by kernel_rfl
theorem pr_5_11 {base : World} (A : AtP base) : TotP base 11 [.string ⟨#[49, 32, 60, 61, 32, 50, 32, 47, 32, 51]⟩, .string ⟨#[49, 32, 60, 61, 32, 40, 50, 32, 47, 32, 51, 41]⟩, .slice none 0 0] (.bool true) := tot_closed all_good A (rulesK2_ok A) Tryz.func11 (by kernel_rfl) (by kernel_rfl) (by kernel_rfl) pr_5_11_run

set_option maxRecDepth 1000000 in
theorem pr_5_12_run (off : Nat) (spot : Option Nat) : (funcK (envP 241 wildsP rulesK2) 300 11 [.string ⟨#[49, 32, 60, 61, 32, 50, 32, 42, 42, 32, 51]⟩, .string ⟨#[49, 32, 60, 61, 32, 40, 50, 32, 42, 42, 32, 51, 41]⟩, .slice none 0 0] (tabsE off spot) (Tryz.prog.globals.size + 1) fun u _ _ mw => u = .bool true ∧ Nat.ble (Tryz.prog.globals.size + 1) mw = true) = ((.bool true : Value) = .bool true ∧ true = true) := by kernel_rfl
theorem pr_5_12 {base : World} (A : AtP base) : TotP base 11 [.string ⟨#[49, 32, 60, 61, 32, 50, 32, 42, 42, 32, 51]⟩, .string ⟨#[49, 32, 60, 61, 32, 40, 50, 32, 42, 42, 32, 51, 41]⟩, .slice none 0 0] (.bool true) := tot_closed all_good A (rulesK2_ok A) Tryz.func11 (by kernel_rfl) (by kernel_rfl) (by kernel_rfl) pr_5_12_run

set_option maxRecDepth 1000000 in
theorem pr_6_0_run (off : Nat) (spot : Option Nat) : (funcK (envP 241 wildsP rulesK2) 300 11 [.string ⟨#[49, 32, 62, 32, 50, 32, 111, 114, 32, 51]⟩, .string ⟨#[40, 49, 32, 62, 32, 50, 41, 32, 111, 114, 32, 51]⟩, .slice none 0 0] (tabsE off spot) (Tryz.prog.globals.size + 1) fun u _ _ mw => u = .bool true ∧ Nat.ble (Tryz.prog.globals.size + 1) mw = true) = ((.bool true : Value) = .bool true ∧ true = true) := by kernel_rfl
theorem pr_6_0 {base : World} (A : AtP base) : TotP base 11 [.string ⟨#[49, 32, 62, 32, 50, 32, 111, 114, 32, 51]⟩, .string ⟨#[40, 49, 32, 62, 32, 50, 41, 32, 111, 114, 32, 51]⟩, .slice none 0 0] (.bool true) := tot_closed all_good A (rulesK2_ok A) Tryz.func11 (by kernel_rfl) (by kernel_rfl) (by kernel_rfl) pr_6_0_run

set_option maxRecDepth 1000000 in
theorem pr_6_1_run (off : Nat) (spot : Option Nat) : (funcK (envP 241 wildsP rulesK2) 300 11 [.string ⟨#[49, 32, 62, 32, 50, 32, 97, 110, 100, 32, 51]⟩, .string ⟨#[40, 49, 32, 62, 32, 50, 41, 32, 97, 110, 100, 32, 51]⟩, .slice none 0 0] (tabsE off spot) (Tryz.prog.globals.size + 1) fun u _ _ mw => u = .bool true ∧ Nat.ble (Tryz.prog.globals.size + 1) mw = true) = ((.bool true : Value) = .bool true ∧ true = true) := by kernel_rfl
theorem pr_6_1 {base : World} (A : AtP base) : TotP base 11 [.string ⟨#[49, 32, 62, 32, 50, 32, 97, 110, 100, 32, 51]⟩, .string ⟨#[40, 49, 32, 62, 32, 50, 41, 32, 97, 110, 100, 32, 51]⟩, .slice none 0 0] (.bool true) := tot_closed all_good A (rulesK2_ok A) Tryz.func11 (by kernel_rfl) (by kernel_rfl) (by kernel_rfl) pr_6_1_run

set_option maxRecDepth 1000000 in
theorem pr_6_2_run (off : Nat) (spot : Option Nat) : (funcK (envP 241 wildsP rulesK2) 300 10 [.string ⟨#[49, 32, 62, 32, 50, 32, 61, 32, 51]⟩, .slice none 0 0] (tabsE off spot) (Tryz.prog.globals.size + 1) fun u _ _ mw => u = failV ∧ Nat.ble (Tryz.prog.globals.size + 1) mw = true) = ((failV : Value) = failV ∧ true = true) := by kernel_rfl
theorem pr_6_2 {base : World} (A : AtP base) : TotP base 10 [.string ⟨#[49, 32, 62, 32, 50, 32, 61, 32, 51]⟩, .slice none 0 0] (failV) := tot_closed all_good A (rulesK2_ok A) Tryz.func10 (by kernel_rfl) (by kernel_rfl) (by kernel_rfl) pr_6_2_run

set_option maxRecDepth 1000000 in
theorem pr_6_3_run (off : Nat) (spot : Option Nat) : (funcK (envP 241 wildsP rulesK2) 300 10 [.string ⟨#[49, 32, 62, 32, 50, 32, 33, 61, 32, 51]⟩, .slice none 0 0] (tabsE off spot) (Tryz.prog.globals.size + 1) fun u _ _ mw => u = failV ∧ Nat.ble (Tryz.prog.globals.size + 1) mw = true) = ((failV : Value) = failV ∧ true = true) := by kernel_rfl
theorem pr_6_3 {base : World} (A : AtP base) : TotP base 10 [.string ⟨#[49, 32, 62, 32, 50, 32, 33, 61, 32, 51]⟩, .slice none 0 0] (failV) := tot_closed all_good A (rulesK2_ok A) Tryz.func10 (by kernel_rfl) (by kernel_rfl) (by kernel_rfl) pr_6_3_run

set_option maxRecDepth 1000000 in
theorem pr_6_4_run (off : Nat) (spot : Option Nat) : (funcK (envP 241 wildsP rulesK2) 300 10 [.string ⟨#[49, 32, 62, 32, 50, 32, 60, 32, 51]⟩, .slice none 0 0] (tabsE off spot) (Tryz.prog.globals.size + 1) fun u _ _ mw => u = failV ∧ Nat.ble (Tryz.prog.globals.size + 1) mw = true) = ((failV : Value) = failV ∧ true = true) := by kernel_rfl
theorem pr_6_4 {base : World} (A : AtP base) : TotP base 10 [.string ⟨#[49, 32, 62, 32, 50, 32, 60, 32, 51]⟩, .slice none 0 0] (failV) := tot_closed all_good A (rulesK2_ok A) Tryz.func10 (by kernel_rfl) (by kernel_rfl) (by kernel_rfl) pr_6_4_run

set_option maxRecDepth 1000000 in
theorem pr_6_5_run (off : Nat) (spot : Option Nat) : (funcK (envP 241 wildsP rulesK2) 300 10 [.string ⟨#[49, 32, 62, 32, 50, 32, 60, 61, 32, 51]⟩, .slice none 0 0] (tabsE off spot) (Tryz.prog.globals.size + 1) fun u _ _ mw => u = failV ∧ Nat.ble (Tryz.prog.globals.size + 1) mw = true) = ((failV : Value) = failV ∧ true = true) := by kernel_rfl
theorem pr_6_5 {base : World} (A : AtP base) : TotP base 10 [.string ⟨#[49, 32, 62, 32, 50, 32, 60, 61, 32, 51]⟩, .slice none 0 0] (failV) := tot_closed all_good A (rulesK2_ok A) Tryz.func10 (by kernel_rfl) (by kernel_rfl) (by kernel_rfl) pr_6_5_run

set_option maxRecDepth 1000000 in
theorem pr_6_6_run (off : Nat) (spot : Option Nat) : (funcK (envP 241 wildsP rulesK2) 300 10 [.string ⟨#[49, 32, 62, 32, 50, 32, 62, 32, 51]⟩, .slice none 0 0] (tabsE off spot) (Tryz.prog.globals.size + 1) fun u _ _ mw => u = failV ∧ Nat.ble (Tryz.prog.globals.size + 1) mw = true) = ((failV : Value) = failV ∧ true = true) := by kernel_rfl
theorem pr_6_6 {base : World} (A : AtP base) : TotP base 10 [.string ⟨#[49, 32, 62, 32, 50, 32, 62, 32, 51]⟩, .slice none 0 0] (failV) := tot_closed all_good A (rulesK2_ok A) Tryz.func10 (by kernel_rfl) (by kernel_rfl) (by kernel_rfl) pr_6_6_run

set_option maxRecDepth 1000000 in
theorem pr_6_7_run (off : Nat) (spot : Option Nat) : (funcK (envP 241 wildsP rulesK2) 300 10 [.string ⟨#[49, 32, 62, 32, 50, 32, 62, 61, 32, 51]⟩, .slice none 0 0] (tabsE off spot) (Tryz.prog.globals.size + 1) fun u _ _ mw => u = failV ∧ Nat.ble (Tryz.prog.globals.size + 1) mw = true) = ((failV : Value) = failV ∧ true = true) := by kernel_rfl
theorem pr_6_7 {base : World} (A : AtP base) : TotP base 10 [.string ⟨#[49, 32, 62, 32, 50, 32, 62, 61, 32, 51]⟩, .slice none 0 0] (failV) := tot_closed all_good A (rulesK2_ok A) Tryz.func10 (by kernel_rfl) (by kernel_rfl) (by kernel_rfl) pr_6_7_run

set_option maxRecDepth 1000000 in
theorem pr_6_8_run (off : Nat) (spot : Option Nat) : (funcK (envP 241 wildsP rulesK2) 300 11 [.string ⟨#[49, 32, 62, 32, 50, 32, 43, 32, 51]⟩, .string ⟨#[49, 32, 62, 32, 40, 50, 32, 43, 32, 51, 41]⟩, .slice none 0 0] (tabsE off spot) (Tryz.prog.globals.size + 1) fun u _ _ mw => u = .bool true ∧ Nat.ble (Tryz.prog.globals.size + 1) mw = true) = ((.bool true : Value) = .bool true ∧ true = true) := by kernel_rfl
theorem pr_6_8 {base : World} (A : AtP base) : TotP base 11 [.string ⟨#[49, 32, 62, 32, 50, 32, 43, 32, 51]⟩, .string ⟨#[49, 32, 62, 32, 40, 50, 32, 43, 32, 51, 41]⟩, .slice none 0 0] (.bool true) := tot_closed all_good A (rulesK2_ok A) Tryz.func11 (by kernel_rfl) (by kernel_rfl) (by kernel_rfl) pr_6_8_run

set_option maxRecDepth 1000000 in
theorem pr_6_9_run (off : Nat) (spot : Option Nat) : (funcK (envP 241 wildsP rulesK2) 300 11 [.string ⟨#[49, 32, 62, 32, 50, 32, 45, 32, 51]⟩, .string ⟨#[49, 32, 62, 32, 40, 50, 32, 45, 32, 51, 41]⟩, .slice none 0 0] (tabsE off spot) (Tryz.prog.globals.size + 1) fun u _ _ mw => u = .bool true ∧ Nat.ble (Tryz.prog.globals.size + 1) mw = true) = ((.bool true : Value) = .bool true ∧ true = true) := by kernel_rfl
theorem pr_6_9 {base : World} (A : AtP base) : TotP base 11 [.string ⟨#[49, 32, 62, 32, 50, 32, 45, 32, 51]⟩, .string ⟨#[49, 32, 62, 32, 40, 50, 32, 45, 32, 51, 41]⟩, .slice none 0 0] (.bool true) := tot_closed all_good A (rulesK2_ok A) Tryz.func11 (by kernel_rfl) (by kernel_rfl) (by kernel_rfl) pr_6_9_run

set_option maxRecDepth 1000000 in
theorem pr_6_10_run (off : Nat) (spot : Option Nat) : (funcK (envP 241 wildsP rulesK2) 300 11 [.string ⟨#[49, 32, 62, 32, 50, 32, 42, 32, 51]⟩, .string ⟨#[49, 32, 62, 32, 40, 50, 32, 42, 32, 51, 41]⟩, .slice none 0 0] (tabsE off spot) (Tryz.prog.globals.size + 1) fun u _ _ mw => u = .bool true ∧ Nat.ble (Tryz.prog.globals.size + 1) mw = true) = ((.bool true : Value) = .bool true ∧ true = true) := by kernel_rfl
theorem pr_6_10 {base : World} (A : AtP base) : TotP base 11 [.string ⟨#[49, 32, 62, 32, 50, 32, 42, 32, 51]⟩, .string ⟨#[49, 32, 62, 32, 40, 50, 32, 42, 32, 51, 41]⟩, .slice none 0 0] (.bool true) := tot_closed all_good A (rulesK2_ok A) Tryz.func11 (by kernel_rfl) (by kernel_rfl) (by kernel_rfl) pr_6_10_run

set_option maxRecDepth 1000000 in
theorem pr_6_11_run (off : Nat) (spot : Option Nat) : (funcK (envP 241 wildsP rulesK2) 300 11 [.string ⟨#[49, 32, 62, 32, 50, 32, 47, 32, 51]⟩, .string ⟨#[49, 32, 62, 32, 40, 50, 32, 47, 32, 51, 41]⟩, .slice none 0 0] (tabsE off spot) (Tryz.prog.globals.size + 1) fun u _ _ mw => u = .bool true ∧ Nat.ble (Tryz.prog.globals.size + 1) mw = true) = ((.bool true : Value) = .bool true ∧ true = true) := by kernel_rfl
theorem pr_6_11 {base : World} (A : AtP base) : TotP base 11 [.string ⟨#[49, 32, 62, 32, 50, 32, 47, 32, 51]⟩, .string ⟨#[49, 32, 62, 32, 40, 50, 32, 47, 32, 51, 41]⟩, .slice none 0 0] (.bool true) := tot_closed all_good A (rulesK2_ok A) Tryz.func11 (by kernel_rfl) (by kernel_rfl) (by kernel_rfl) pr_6_11_run

set_option maxRecDepth 1000000 in
theorem pr_6_12_run (off : Nat) (spot : Option Nat) : (funcK (envP 241 wildsP rulesK2) 300 11 [.string ⟨#[49, 32, 62, 32, 50, 32, 42, 42, 32, 51]⟩, .string ⟨#[49, 32, 62, 32, 40, 50, 32, 42, 42, 32, 51, 41]⟩, .slice none 0 0] (tabsE off spot) (Tryz.prog.globals.size + 1) fun u _ _ mw => u = .bool true ∧ Nat.ble (Tryz.prog.globals.size + 1) mw = true) = ((.bool true : Value) = .bool true ∧ true = true) := by kernel_rfl
theorem pr_6_12 {base : World} (A : AtP base) : TotP base 11 [.string ⟨#[49, 32, 62, 32, 50, 32, 42, 42, 32, 51]⟩, .string ⟨#[49, 32, 62, 32, 40, 50, 32, 42, 42, 32, 51, 41]⟩, .slice none 0 0] (.bool true) := tot_closed all_good A (rulesK2_ok A) Tryz.func11 (by kernel_rfl) (by kernel_rfl) (by kernel_rfl) pr_6_12_run

set_option maxRecDepth 1000000 in
theorem pr_7_0_run (off : Nat) (spot : Option Nat) : (funcK (envP 241 wildsP rulesK2) 300 11 [.string ⟨#[49, 32, 62, 61, 32, 50, 32, 111, 114, 32, 51]⟩, .string ⟨#[40, 49, 32, 62, 61, 32, 50, 41, 32, 111, 114, 32, 51]⟩, .slice none 0 0] (tabsE off spot) (Tryz.prog.globals.size + 1) fun u _ _ mw => u = .bool true ∧ Nat.ble (Tryz.prog.globals.size + 1) mw = true) = ((.bool true : Value) = .bool true ∧ true = true) := by kernel_rfl
theorem pr_7_0 {base : World} (A : AtP base) : TotP base 11 [.string ⟨#[49, 32, 62, 61, 32, 50, 32, 111, 114, 32, 51]⟩, .string ⟨#[40, 49, 32, 62, 61, 32, 50, 41, 32, 111, 114, 32, 51]⟩, .slice none 0 0] (.bool true) := tot_closed all_good A (rulesK2_ok A) Tryz.func11 (by kernel_rfl) (by kernel_rfl) (by kernel_rfl) pr_7_0_run

set_option maxRecDepth 1000000 in
theorem pr_7_1_run (off : Nat) (spot : Option Nat) : (funcK (envP 241 wildsP rulesK2) 300 11 [.string ⟨#[49, 32, 62, 61, 32, 50, 32, 97, 110, 100, 32, 51]⟩, .string ⟨#[40, 49, 32, 62, 61, 32, 50, 41, 32, 97, 110, 100, 32, 51]⟩, .slice none 0 0] (tabsE off spot) (Tryz.prog.globals.size + 1) fun u _ _ mw => u = .bool true ∧ Nat.ble (Tryz.prog.globals.size + 1) mw = true) = ((.bool true : Value) = .bool true ∧ true = true) := by kernel_rfl
theorem pr_7_1 {base : World} (A : AtP base) : TotP base 11 [.string ⟨#[49, 32, 62, 61, 32, 50, 32, 97, 110, 100, 32, 51]⟩, .string ⟨#[40, 49, 32, 62, 61, 32, 50, 41, 32, 97, 110, 100, 32, 51]⟩, .slice none 0 0] (.bool true) := tot_closed all_good A (rulesK2_ok A) Tryz.func11 (by kernel_rfl) (by kernel_rfl) (by kernel_rfl) pr_7_1_run

set_option maxRecDepth 1000000 in
theorem pr_7_2_run (off : Nat) (spot : Option Nat) : (funcK (envP 241 wildsP rulesK2) 300 10 [.string ⟨#[49, 32, 62, 61, 32, 50, 32, 61, 32, 51]⟩, .slice none 0 0] (tabsE off spot) (Tryz.prog.globals.size + 1) fun u _ _ mw => u = failV ∧ Nat.ble (Tryz.prog.globals.size + 1) mw = true) = ((failV : Value) = failV ∧ true = true) := by kernel_rfl
theorem pr_7_2 {base : World} (A : AtP base) : TotP base 10 [.string ⟨#[49, 32, 62, 61, 32, 50, 32, 61, 32, 51]⟩, .slice none 0 0] (failV) := tot_closed all_good A (rulesK2_ok A) Tryz.func10 (by kernel_rfl) (by kernel_rfl) (by kernel_rfl) pr_7_2_run

set_option maxRecDepth 1000000 in
theorem pr_7_3_run (off : Nat) (spot : Option Nat) : (funcK (envP 241 wildsP rulesK2) 300 10 [.string ⟨#[49, 32, 62, 61, 32, 50, 32, 33, 61, 32, 51]⟩, .slice none 0 0] (tabsE off spot) (Tryz.prog.globals.size + 1) fun u _ _ mw => u = failV ∧ Nat.ble (Tryz.prog.globals.size + 1) mw = true) = ((failV : Value) = failV ∧ true = true) := by kernel_rfl
theorem pr_7_3 {base : World} (A : AtP base) : TotP base 10 [.string ⟨#[49, 32, 62, 61, 32, 50, 32, 33, 61, 32, 51]⟩, .slice none 0 0] (failV) := tot_closed all_good A (rulesK2_ok A) Tryz.func10 (by kernel_rfl) (by kernel_rfl) (by kernel_rfl) pr_7_3_run

set_option maxRecDepth 1000000 in
theorem pr_7_4_run (off : Nat) (spot : Option Nat) : (funcK (envP 241 wildsP rulesK2) 300 10 [.string ⟨#[49, 32, 62, 61, 32, 50, 32, 60, 32, 51]⟩, .slice none 0 0] (tabsE off spot) (Tryz.prog.globals.size + 1) fun u _ _ mw => u = failV ∧ Nat.ble (Tryz.prog.globals.size + 1) mw = true) = ((failV : Value) = failV ∧ true = true) := by kernel_rfl
theorem pr_7_4 {base : World} (A : AtP base) : TotP base 10 [.string ⟨#[49, 32, 62, 61, 32, 50, 32, 60, 32, 51]⟩, .slice none 0 0] (failV) := tot_closed all_good A (rulesK2_ok A) Tryz.func10 (by kernel_rfl) (by kernel_rfl) (by kernel_rfl) pr_7_4_run

set_option maxRecDepth 1000000 in
theorem pr_7_5_run (off : Nat) (spot : Option Nat) : (funcK (envP 241 wildsP rulesK2) 300 10 [.string ⟨#[49, 32, 62, 61, 32, 50, 32, 60, 61, 32, 51]⟩, .slice none 0 0] (tabsE off spot) (Tryz.prog.globals.size + 1) fun u _ _ mw => u = failV ∧ Nat.ble (Tryz.prog.globals.size + 1) mw = true) = ((failV : Value) = failV ∧ true = true) := by kernel_rfl
theorem pr_7_5 {base : World} (A : AtP base) : TotP base 10 [.string ⟨#[49, 32, 62, 61, 32, 50, 32, 60, 61, 32, 51]⟩, .slice none 0 0] (failV) := tot_closed all_good A (rulesK2_ok A) Tryz.func10 (by kernel_rfl) (by kernel_rfl) (by kernel_rfl) pr_7_5_run

set_option maxRecDepth 1000000 in
theorem pr_7_6_run (off : Nat) (spot : Option Nat) : (funcK (envP 241 wildsP rulesK2) 300 10 [.string ⟨#[49, 32, 62, 61, 32, 50, 32, 62, 32, 51]⟩, .slice none 0 0] (tabsE off spot) (Tryz.prog.globals.size + 1) fun u _ _ mw => u = failV ∧ Nat.ble (Tryz.prog.globals.size + 1) mw = true) = ((failV : Value) = failV ∧ true = true) := by kernel_rfl
theorem pr_7_6 {base : World} (A : AtP base) : TotP base 10 [.string ⟨#[49, 32, 62, 61, 32, 50, 32, 62, 32, 51]⟩, .slice none 0 0] (failV) := tot_closed all_good A (rulesK2_ok A) Tryz.func10 (by kernel_rfl) (by kernel_rfl) (by kernel_rfl) pr_7_6_run

set_option maxRecDepth 1000000 in
theorem pr_7_7_run (off : Nat) (spot : Option Nat) : (funcK (envP 241 wildsP rulesK2) 300 10 [.string ⟨#[49, 32, 62, 61, 32, 50, 32, 62, 61, 32, 51]⟩, .slice none 0 0] (tabsE off spot) (Tryz.prog.globals.size + 1) fun u _ _ mw => u = failV ∧ Nat.ble (Tryz.prog.globals.size + 1) mw = true) = ((failV : Value) = failV ∧ true = true) := by kernel_rfl
theorem pr_7_7 {base : World} (A : AtP base) : TotP base 10 [.string ⟨#[49, 32, 62, 61, 32, 50, 32, 62, 61, 32, 51]⟩, .slice none 0 0] (failV) := tot_closed all_good A (rulesK2_ok A) Tryz.func10 (by kernel_rfl) (by kernel_rfl) (by kernel_rfl) pr_7_7_run

set_option maxRecDepth 1000000 in
theorem pr_7_8_run (off : Nat) (spot : Option Nat) : (funcK (envP 241 wildsP rulesK2) 300 11 [.string ⟨#[49, 32, 62, 61, 32, 50, 32, 43, 32, 51]⟩, .string ⟨#[49, 32, 62, 61, 32, 40, 50, 32, 43, 32, 51, 41]⟩, .slice none 0 0] (tabsE off spot) (Tryz.prog.globals.size + 1) fun u _ _ mw => u = .bool true ∧ Nat.ble (Tryz.prog.globals.size + 1) mw = true) = ((.bool true : Value) = .bool true ∧ true = true) := by kernel_rfl
theorem pr_7_8 {base : World} (A : AtP base) : TotP base 11 [.string ⟨#[49, 32, 62, 61, 32, 50, 32, 43, 32, 51]⟩, .string ⟨#[49, 32, 62, 61, 32, 40, 50, 32, 43, 32, 51, 41]⟩, .slice none 0 0] (.bool true) := tot_closed all_good A (rulesK2_ok A) Tryz.func11 (by kernel_rfl) (by kernel_rfl) (by kernel_rfl) pr_7_8_run

set_option maxRecDepth 1000000 in
theorem pr_7_9_run (off : Nat) (spot : Option Nat) : (funcK (envP 241 wildsP rulesK2) 300 11 [.string ⟨#[49, 32, 62, 61, 32, 50, 32, 45, 32, 51]⟩, .string ⟨#[49, 32, 62, 61, 32, 40, 50, 32, 45, 32, 51, 41]⟩, .slice none 0 0] (tabsE off spot) (Tryz.prog.globals.size + 1) fun u _ _ mw => u = .bool true ∧ Nat.ble (Tryz.prog.globals.size + 1) mw = true) = ((.bool true : Value) = .bool true ∧ true = true) := by kernel_rfl
theorem pr_7_9 {base : World} (A : AtP base) : TotP base 11 [.string ⟨#[49, 32, 62, 61, 32, 50, 32, 45, 32, 51]⟩, .string ⟨#[49, 32, 62, 61, 32, 40, 50, 32, 45, 32, 51, 41]⟩, .slice none 0 0] (.bool true) := tot_closed all_good A (rulesK2_ok A) Tryz.func11 (by kernel_rfl) (by kernel_rfl) (by kernel_rfl) pr_7_9_run

set_option maxRecDepth 1000000 in
theorem pr_7_10_run (off : Nat) (spot : Option Nat) : (funcK (envP 241 wildsP rulesK2) 300 11 [.string ⟨#[49, 32, 62, 61, 32, 50, 32, 42, 32, 51]⟩, .string ⟨#[49, 32, 62, 61, 32, 40, 50, 32, 42, 32, 51, 41]⟩, .slice none 0 0] (tabsE off spot) (Tryz.prog.globals.size + 1) fun u _ _ mw => u = .bool true ∧ Nat.ble (Tryz.prog.globals.size + 1) mw = true) = ((.bool true : Value) = .bool true ∧ true = true) := by kernel_rfl
theorem pr_7_10 {base : World} (A : AtP base) : TotP base 11 [.string ⟨#[49, 32, 62, 61, 32, 50, 32, 42, 32, 51]⟩, .string ⟨#[49, 32, 62, 61, 32, 40, 50, 32, 42, 32, 51, 41]⟩, .slice none 0 0] (.bool true) := tot_closed all_good A (rulesK2_ok A) Tryz.func11 (by kernel_rfl) (by kernel_rfl) (by kernel_rfl) pr_7_10_run

set_option maxRecDepth 1000000 in
theorem pr_7_11_run (off : Nat) (spot : Option Nat) : (funcK (envP 241 wildsP rulesK2) 300 11 [.string ⟨#[49, 32, 62, 61, 32, 50, 32, 47, 32, 51]⟩, .string ⟨#[49, 32, 62, 61, 32, 40, 50, 32, 47, 32, 51, 41]⟩, .slice none 0 0] (tabsE off spot) (Tryz.prog.globals.size + 1) fun u _ _ mw => u = .bool true ∧ Nat.ble (Tryz.prog.globals.size + 1) mw = true) = ((.bool true : Value) = .bool true ∧ true = true) := by kernel_rfl
theorem pr_7_11 {base : World} (A : AtP base) : TotP base 11 [.string ⟨#[49, 32, 62, 61, 32, 50, 32, 47, 32, 51]⟩, .string ⟨#[49, 32, 62, 61, 32, 40, 50, 32, 47, 32, 51, 41]⟩, .slice none 0 0] (.bool true) := tot_closed all_good A (rulesK2_ok A) Tryz.func11 (by kernel_rfl) (by kernel_rfl) (by kernel_rfl) pr_7_11_run

set_option maxRecDepth 1000000 in
theorem pr_7_12_run (off : Nat) (spot : Option Nat) : (funcK (envP 241 wildsP rulesK2) 300 11 [.string ⟨#[49, 32, 62, 61, 32, 50, 32, 42, 42, 32, 51]⟩, .string ⟨#[49, 32, 62, 61, 32, 40, 50, 32, 42, 42, 32, 51, 41]⟩, .slice none 0 0] (tabsE off spot) (Tryz.prog.globals.size + 1) fun u _ _ mw => u = .bool true ∧ Nat.ble (Tryz.prog.globals.size + 1) mw = true) = ((.bool true : Value) = .bool true ∧ true = true) := by kernel_rfl
theorem pr_7_12 {base : World} (A : AtP base) : TotP base 11 [.string ⟨#[49, 32, 62, 61, 32, 50, 32, 42, 42, 32, 51]⟩, .string ⟨#[49, 32, 62, 61, 32, 40, 50, 32, 42, 42, 32, 51, 41]⟩, .slice none 0 0] (.bool true) := tot_closed all_good A (rulesK2_ok A) Tryz.func11 (by kernel_rfl) (by kernel_rfl) (by kernel_rfl) pr_7_12_run

set_option maxRecDepth 1000000 in
theorem pr_8_0_run (off : Nat) (spot : Option Nat) : (funcK (envP 241 wildsP rulesK2) 300 11 [.string ⟨#[49, 32, 43, 32, 50, 32, 111, 114, 32, 51]⟩, .string ⟨#[40, 49, 32, 43, 32, 50, 41, 32, 111, 114, 32, 51]⟩, .slice none 0 0] (tabsE off spot) (Tryz.prog.globals.size + 1) fun u _ _ mw => u = .bool true ∧ Nat.ble (Tryz.prog.globals.size + 1) mw = true) = ((.bool true : Value) = .bool true ∧ true = true) := by kernel_rfl
theorem pr_8_0 {base : World} (A : AtP base) : TotP base 11 [.string ⟨#[49, 32, 43, 32, 50, 32, 111, 114, 32, 51]⟩, .string ⟨#[40, 49, 32, 43, 32, 50, 41, 32, 111, 114, 32, 51]⟩, .slice none 0 0] (.bool true) := tot_closed all_good A (rulesK2_ok A) Tryz.func11 (by kernel_rfl) (by kernel_rfl) (by kernel_rfl) pr_8_0_run

end Go.Proofs.YtapmcocefoccdaaGreatDoor
