/-
  Closed runs of the reader: operators, part 5.
-/
import Derived.Test.YtapmcocefoccdaaGreatDoorKb
namespace Go.Proofs.YtapmcocefoccdaaGreatDoor
open Go Go.Pe Go.RowKit

set_option maxRecDepth 1000000 in
theorem c1_2_run (off : Nat) (spot : Option Nat) : (funcK (envP 241 wildsP rulesK2) 300 11 [.string ⟨#[45, 49, 32, 61, 32, 45, 50]⟩, .string ⟨#[40, 45, 49, 41, 32, 61, 32, 40, 45, 50, 41]⟩, .slice none 0 0] (tabsE off spot) (Tryz.prog.globals.size + 1) fun u _ _ mw => u = .bool true ∧ Nat.ble (Tryz.prog.globals.size + 1) mw = true) = ((.bool true : Value) = .bool true ∧ true = true) := by kernel_rfl
theorem c1_2 {base : World} (A : AtP base) : TotP base 11 [.string ⟨#[45, 49, 32, 61, 32, 45, 50]⟩, .string ⟨#[40, 45, 49, 41, 32, 61, 32, 40, 45, 50, 41]⟩, .slice none 0 0] (.bool true) := tot_closed all_good A (rulesK2_ok A) Tryz.func11 (by kernel_rfl) (by kernel_rfl) (by kernel_rfl) c1_2_run

set_option maxRecDepth 1000000 in
theorem c2_2_run (off : Nat) (spot : Option Nat) : (funcK (envP 241 wildsP rulesK2) 300 11 [.string ⟨#[102, 40, 49, 32, 61, 32, 50, 41]⟩, .string ⟨#[40, 102, 41, 40, 49, 32, 61, 32, 50, 41]⟩, .slice none 0 0] (tabsE off spot) (Tryz.prog.globals.size + 1) fun u _ _ mw => u = .bool true ∧ Nat.ble (Tryz.prog.globals.size + 1) mw = true) = ((.bool true : Value) = .bool true ∧ true = true) := by kernel_rfl
theorem c2_2 {base : World} (A : AtP base) : TotP base 11 [.string ⟨#[102, 40, 49, 32, 61, 32, 50, 41]⟩, .string ⟨#[40, 102, 41, 40, 49, 32, 61, 32, 50, 41]⟩, .slice none 0 0] (.bool true) := tot_closed all_good A (rulesK2_ok A) Tryz.func11 (by kernel_rfl) (by kernel_rfl) (by kernel_rfl) c2_2_run

set_option maxRecDepth 1000000 in
theorem c3_2_run (off : Nat) (spot : Option Nat) : (funcK (envP 241 wildsP rulesK2) 300 11 [.string ⟨#[91, 49, 32, 61, 32, 50, 44, 32, 51, 93]⟩, .string ⟨#[91, 49, 32, 61, 32, 50, 44, 32, 51, 93]⟩, .slice none 0 0] (tabsE off spot) (Tryz.prog.globals.size + 1) fun u _ _ mw => u = .bool true ∧ Nat.ble (Tryz.prog.globals.size + 1) mw = true) = ((.bool true : Value) = .bool true ∧ true = true) := by kernel_rfl
theorem c3_2 {base : World} (A : AtP base) : TotP base 11 [.string ⟨#[91, 49, 32, 61, 32, 50, 44, 32, 51, 93]⟩, .string ⟨#[91, 49, 32, 61, 32, 50, 44, 32, 51, 93]⟩, .slice none 0 0] (.bool true) := tot_closed all_good A (rulesK2_ok A) Tryz.func11 (by kernel_rfl) (by kernel_rfl) (by kernel_rfl) c3_2_run

set_option maxRecDepth 1000000 in
theorem c1_3_run (off : Nat) (spot : Option Nat) : (funcK (envP 241 wildsP rulesK2) 300 11 [.string ⟨#[45, 49, 32, 33, 61, 32, 45, 50]⟩, .string ⟨#[40, 45, 49, 41, 32, 33, 61, 32, 40, 45, 50, 41]⟩, .slice none 0 0] (tabsE off spot) (Tryz.prog.globals.size + 1) fun u _ _ mw => u = .bool true ∧ Nat.ble (Tryz.prog.globals.size + 1) mw = true) = ((.bool true : Value) = .bool true ∧ true = true) := by kernel_rfl
theorem c1_3 {base : World} (A : AtP base) : TotP base 11 [.string ⟨#[45, 49, 32, 33, 61, 32, 45, 50]⟩, .string ⟨#[40, 45, 49, 41, 32, 33, 61, 32, 40, 45, 50, 41]⟩, .slice none 0 0] (.bool true) := tot_closed all_good A (rulesK2_ok A) Tryz.func11 (by kernel_rfl) (by kernel_rfl) (by kernel_rfl) c1_3_run

set_option maxRecDepth 1000000 in
theorem c2_3_run (off : Nat) (spot : Option Nat) : (funcK (envP 241 wildsP rulesK2) 300 11 [.string ⟨#[102, 40, 49, 32, 33, 61, 32, 50, 41]⟩, .string ⟨#[40, 102, 41, 40, 49, 32, 33, 61, 32, 50, 41]⟩, .slice none 0 0] (tabsE off spot) (Tryz.prog.globals.size + 1) fun u _ _ mw => u = .bool true ∧ Nat.ble (Tryz.prog.globals.size + 1) mw = true) = ((.bool true : Value) = .bool true ∧ true = true) := by kernel_rfl
theorem c2_3 {base : World} (A : AtP base) : TotP base 11 [.string ⟨#[102, 40, 49, 32, 33, 61, 32, 50, 41]⟩, .string ⟨#[40, 102, 41, 40, 49, 32, 33, 61, 32, 50, 41]⟩, .slice none 0 0] (.bool true) := tot_closed all_good A (rulesK2_ok A) Tryz.func11 (by kernel_rfl) (by kernel_rfl) (by kernel_rfl) c2_3_run

set_option maxRecDepth 1000000 in
theorem c3_3_run (off : Nat) (spot : Option Nat) : (funcK (envP 241 wildsP rulesK2) 300 11 [.string ⟨#[91, 49, 32, 33, 61, 32, 50, 44, 32, 51, 93]⟩, .string ⟨#[91, 49, 32, 33, 61, 32, 50, 44, 32, 51, 93]⟩, .slice none 0 0] (tabsE off spot) (Tryz.prog.globals.size + 1) fun u _ _ mw => u = .bool true ∧ Nat.ble (Tryz.prog.globals.size + 1) mw = true) = ((.bool true : Value) = .bool true ∧ true = true) := by kernel_rfl
theorem c3_3 {base : World} (A : AtP base) : TotP base 11 [.string ⟨#[91, 49, 32, 33, 61, 32, 50, 44, 32, 51, 93]⟩, .string ⟨#[91, 49, 32, 33, 61, 32, 50, 44, 32, 51, 93]⟩, .slice none 0 0] (.bool true) := tot_closed all_good A (rulesK2_ok A) Tryz.func11 (by kernel_rfl) (by kernel_rfl) (by kernel_rfl) c3_3_run

set_option maxRecDepth 1000000 in
theorem c1_4_run (off : Nat) (spot : Option Nat) : (funcK (envP 241 wildsP rulesK2) 300 11 [.string ⟨#[45, 49, 32, 60, 32, 45, 50]⟩, .string ⟨#[40, 45, 49, 41, 32, 60, 32, 40, 45, 50, 41]⟩, .slice none 0 0] (tabsE off spot) (Tryz.prog.globals.size + 1) fun u _ _ mw => u = .bool true ∧ Nat.ble (Tryz.prog.globals.size + 1) mw = true) = ((.bool true : Value) = .bool true ∧ true = true) := by kernel_rfl
theorem c1_4 {base : World} (A : AtP base) : TotP base 11 [.string ⟨#[45, 49, 32, 60, 32, 45, 50]⟩, .string ⟨#[40, 45, 49, 41, 32, 60, 32, 40, 45, 50, 41]⟩, .slice none 0 0] (.bool true) := tot_closed all_good A (rulesK2_ok A) Tryz.func11 (by kernel_rfl) (by kernel_rfl) (by kernel_rfl) c1_4_run

set_option maxRecDepth 1000000 in
theorem c2_4_run (off : Nat) (spot : Option Nat) : (funcK (envP 241 wildsP rulesK2) 300 11 [.string ⟨#[102, 40, 49, 32, 60, 32, 50, 41]⟩, .string ⟨#[40, 102, 41, 40, 49, 32, 60, 32, 50, 41]⟩, .slice none 0 0] (tabsE off spot) (Tryz.prog.globals.size + 1) fun u _ _ mw => u = .bool true ∧ Nat.ble (Tryz.prog.globals.size + 1) mw = true) = ((.bool true : Value) = .bool true ∧ true = true) := by kernel_rfl
theorem c2_4 {base : World} (A : AtP base) : TotP base 11 [.string ⟨#[102, 40, 49, 32, 60, 32, 50, 41]⟩, .string ⟨#[40, 102, 41, 40, 49, 32, 60, 32, 50, 41]⟩, .slice none 0 0] (.bool true) := tot_closed all_good A (rulesK2_ok A) Tryz.func11 (by kernel_rfl) (by kernel_rfl) (by kernel_rfl) c2_4_run

set_option maxRecDepth 1000000 in
theorem c3_4_run (off : Nat) (spot : Option Nat) : (funcK (envP 241 wildsP rulesK2) 300 11 [.string ⟨#[91, 49, 32, 60, 32, 50, 44, 32, 51, 93]⟩, .string ⟨#[91, 49, 32, 60, 32, 50, 44, 32, 51, 93]⟩, .slice none 0 0] (tabsE off spot) (Tryz.prog.globals.size + 1) fun u _ _ mw => u = .bool true ∧ Nat.ble (Tryz.prog.globals.size + 1) mw = true) = ((.bool true : Value) = .bool true ∧ true = true) := by kernel_rfl
theorem c3_4 {base : World} (A : AtP base) : TotP base 11 [.string ⟨#[91, 49, 32, 60, 32, 50, 44, 32, 51, 93]⟩, .string ⟨#[91, 49, 32, 60, 32, 50, 44, 32, 51, 93]⟩, .slice none 0 0] (.bool true) := tot_closed all_good A (rulesK2_ok A) Tryz.func11 (by kernel_rfl) (by kernel_rfl) (by kernel_rfl) c3_4_run

set_option maxRecDepth 1000000 in
theorem c1_5_run (off : Nat) (spot : Option Nat) : (funcK (envP 241 wildsP rulesK2) 300 11 [.string ⟨#[45, 49, 32, 60, 61, 32, 45, 50]⟩, .string ⟨#[40, 45, 49, 41, 32, 60, 61, 32, 40, 45, 50, 41]⟩, .slice none 0 0] (tabsE off spot) (Tryz.prog.globals.size + 1) fun u _ _ mw => u = .bool true ∧ Nat.ble (Tryz.prog.globals.size + 1) mw = true) = ((.bool true : Value) = .bool true ∧ true = true) := by kernel_rfl
theorem c1_5 {base : World} (A : AtP base) : TotP base 11 [.string ⟨#[45, 49, 32, 60, 61, 32, 45, 50]⟩, .string ⟨#[40, 45, 49, 41, 32, 60, 61, 32, 40, 45, 50, 41]⟩, .slice none 0 0] (.bool true) := tot_closed all_good A (rulesK2_ok A) Tryz.func11 (by kernel_rfl) (by kernel_rfl) (by kernel_rfl) c1_5_run

set_option maxRecDepth 1000000 in
theorem c2_5_run (off : Nat) (spot : Option Nat) : (funcK (envP 241 wildsP rulesK2) 300 11 [.string ⟨#[102, 40, 49, 32, 60, 61, 32, 50, 41]⟩, .string ⟨#[40, 102, 41, 40, 49, 32, 60, 61, 32, 50, 41]⟩, .slice none 0 0] (tabsE off spot) (Tryz.prog.globals.size + 1) fun u _ _ mw => u = .bool true ∧ Nat.ble (Tryz.prog.globals.size + 1) mw = true) = ((.bool true : Value) = .bool true ∧ true = true) := by kernel_rfl
theorem c2_5 {base : World} (A : AtP base) : TotP base 11 [.string ⟨#[102, 40, 49, 32, 60, 61, 32, 50, 41]⟩, .string ⟨#[40, 102, 41, 40, 49, 32, 60, 61, 32, 50, 41]⟩, .slice none 0 0] (.bool true) := tot_closed all_good A (rulesK2_ok A) Tryz.func11 (by kernel_rfl) (by kernel_rfl) (by kernel_rfl) c2_5_run

set_option maxRecDepth 1000000 in
theorem c3_5_run (off : Nat) (spot : Option Nat) : (funcK (envP 241 wildsP rulesK2) 300 11 [.string ⟨#[91, 49, 32, 60, 61, 32, 50, 44, 32, 51, 93]⟩, .string ⟨#[91, 49, 32, 60, 61, 32, 50, 44, 32, 51, 93]⟩, .slice none 0 0] (tabsE off spot) (Tryz.prog.globals.size + 1) fun u _ _ mw => u = .bool true ∧ Nat.ble (Tryz.prog.globals.size + 1) mw = true) = ((.bool true : Value) = .bool true ∧ true = true) := by kernel_rfl
theorem c3_5 {base : World} (A : AtP base) : TotP base 11 [.string ⟨#[91, 49, 32, 60, 61, 32, 50, 44, 32, 51, 93]⟩, .string ⟨#[91, 49, 32, 60, 61, 32, 50, 44, 32, 51, 93]⟩, .slice none 0 0] (.bool true) := tot_closed all_good A (rulesK2_ok A) Tryz.func11 (by kernel_rfl) (by kernel_rfl) (by kernel_rfl) c3_5_run

set_option maxRecDepth 1000000 in
theorem c1_6_run (off : Nat) (spot : Option Nat) : (funcK (envP 241 wildsP rulesK2) 300 11 [.string ⟨#[45, 49, 32, 62, 32, 45, 50]⟩, .string ⟨#[40, 45, 49, 41, 32, 62, 32, 40, 45, 50, 41]⟩, .slice none 0 0] (tabsE off spot) (Tryz.prog.globals.size + 1) fun u _ _ mw => u = .bool true ∧ Nat.ble (Tryz.prog.globals.size + 1) mw = true) = ((.bool true : Value) = .bool true ∧ true = true) := by kernel_rfl
theorem c1_6 {base : World} (A : AtP base) : TotP base 11 [.string ⟨#[45, 49, 32, 62, 32, 45, 50]⟩, .string ⟨#[40, 45, 49, 41, 32, 62, 32, 40, 45, 50, 41]⟩, .slice none 0 0] (.bool true) := tot_closed all_good A (rulesK2_ok A) Tryz.func11 (by kernel_rfl) (by kernel_rfl) (by kernel_rfl) c1_6_run

set_option maxRecDepth 1000000 in
theorem c2_6_run (off : Nat) (spot : Option Nat) : (funcK (envP 241 wildsP rulesK2) 300 11 [.string ⟨#[102, 40, 49, 32, 62, 32, 50, 41]⟩, .string ⟨#[40, 102, 41, 40, 49, 32, 62, 32, 50, 41]⟩, .slice none 0 0] (tabsE off spot) (Tryz.prog.globals.size + 1) fun u _ _ mw => u = .bool true ∧ Nat.ble (Tryz.prog.globals.size + 1) mw = true) = ((.bool true : Value) = .bool true ∧ true = true) := by kernel_rfl
theorem c2_6 {base : World} (A : AtP base) : TotP base 11 [.string ⟨#[102, 40, 49, 32, 62, 32, 50, 41]⟩, .string ⟨#[40, 102, 41, 40, 49, 32, 62, 32, 50, 41]⟩, .slice none 0 0] (.bool true) := tot_closed all_good A (rulesK2_ok A) Tryz.func11 (by kernel_rfl) (by kernel_rfl) (by kernel_rfl) c2_6_run

set_option maxRecDepth 1000000 in
theorem c3_6_run (off : Nat) (spot : Option Nat) : (funcK (envP 241 wildsP rulesK2) 300 11 [.string ⟨#[91, 49, 32, 62, 32, 50, 44, 32, 51, 93]⟩, .string ⟨#[91, 49, 32, 62, 32, 50, 44, 32, 51, 93]⟩, .slice none 0 0] (tabsE off spot) (Tryz.prog.globals.size + 1) fun u _ _ mw => u = .bool true ∧ Nat.ble (Tryz.prog.globals.size + 1) mw = true) = ((.bool true : Value) = .bool true ∧ true = true) := by kernel_rfl
theorem c3_6 {base : World} (A : AtP base) : TotP base 11 [.string ⟨#[91, 49, 32, 62, 32, 50, 44, 32, 51, 93]⟩, .string ⟨#[91, 49, 32, 62, 32, 50, 44, 32, 51, 93]⟩, .slice none 0 0] (.bool true) := tot_closed all_good A (rulesK2_ok A) Tryz.func11 (by kernel_rfl) (by kernel_rfl) (by kernel_rfl) c3_6_run

set_option maxRecDepth 1000000 in
theorem c1_7_run (off : Nat) (spot : Option Nat) : (funcK (envP 241 wildsP rulesK2) 300 11 [.string ⟨#[45, 49, 32, 62, 61, 32, 45, 50]⟩, .string ⟨#[40, 45, 49, 41, 32, 62, 61, 32, 40, 45, 50, 41]⟩, .slice none 0 0] (tabsE off spot) (Tryz.prog.globals.size + 1) fun u _ _ mw => u = .bool true ∧ Nat.ble (Tryz.prog.globals.size + 1) mw = true) = ((.bool true : Value) = .bool true ∧ true = true) := by kernel_rfl
theorem c1_7 {base : World} (A : AtP base) : TotP base 11 [.string ⟨#[45, 49, 32, 62, 61, 32, 45, 50]⟩, .string ⟨#[40, 45, 49, 41, 32, 62, 61, 32, 40, 45, 50, 41]⟩, .slice none 0 0] (.bool true) := tot_closed all_good A (rulesK2_ok A) Tryz.func11 (by kernel_rfl) (by kernel_rfl) (by kernel_rfl) c1_7_run

set_option maxRecDepth 1000000 in
theorem c2_7_run (off : Nat) (spot : Option Nat) : (funcK (envP 241 wildsP rulesK2) 300 11 [.string ⟨#[102, 40, 49, 32, 62, 61, 32, 50, 41]⟩, .string ⟨#[40, 102, 41, 40, 49, 32, 62, 61, 32, 50, 41]⟩, .slice none 0 0] (tabsE off spot) (Tryz.prog.globals.size + 1) fun u _ _ mw => u = .bool true ∧ Nat.ble (Tryz.prog.globals.size + 1) mw = true) = ((.bool true : Value) = .bool true ∧ true = true) := by kernel_rfl
theorem c2_7 {base : World} (A : AtP base) : TotP base 11 [.string ⟨#[102, 40, 49, 32, 62, 61, 32, 50, 41]⟩, .string ⟨#[40, 102, 41, 40, 49, 32, 62, 61, 32, 50, 41]⟩, .slice none 0 0] (.bool true) := tot_closed all_good A (rulesK2_ok A) Tryz.func11 (by kernel_rfl) (by kernel_rfl) (by kernel_rfl) c2_7_run

set_option maxRecDepth 1000000 in
theorem c3_7_run (off : Nat) (spot : Option Nat) : (funcK (envP 241 wildsP rulesK2) 300 11 [.string ⟨#[91, 49, 32, 62, 61, 32, 50, 44, 32, 51, 93]⟩, .string ⟨#[91, 49, 32, 62, 61, 32, 50, 44, 32, 51, 93]⟩, .slice none 0 0] (tabsE off spot) (Tryz.prog.globals.size + 1) fun u _ _ mw => u = .bool true ∧ Nat.ble (Tryz.prog.globals.size + 1) mw = true) = ((.bool true : Value) = .bool true ∧ true = true) := by kernel_rfl
theorem c3_7 {base : World} (A : AtP base) : TotP base 11 [.string ⟨#[91, 49, 32, 62, 61, 32, 50, 44, 32, 51, 93]⟩, .string ⟨#[91, 49, 32, 62, 61, 32, 50, 44, 32, 51, 93]⟩, .slice none 0 0] (.bool true) := tot_closed all_good A (rulesK2_ok A) Tryz.func11 (by kernel_rfl) (by kernel_rfl) (by kernel_rfl) c3_7_run

set_option maxRecDepth 1000000 in
theorem c1_8_run (off : Nat) (spot : Option Nat) : (funcK (envP 241 wildsP rulesK2) 300 11 [.string ⟨#[45, 49, 32, 43, 32, 45, 50]⟩, .string ⟨#[40, 45, 49, 41, 32, 43, 32, 40, 45, 50, 41]⟩, .slice none 0 0] (tabsE off spot) (Tryz.prog.globals.size + 1) fun u _ _ mw => u = .bool true ∧ Nat.ble (Tryz.prog.globals.size + 1) mw = true) = ((.bool true : Value) = .bool true ∧ true = true) := by kernel_rfl
theorem c1_8 {base : World} (A : AtP base) : TotP base 11 [.string ⟨#[45, 49, 32, 43, 32, 45, 50]⟩, .string ⟨#[40, 45, 49, 41, 32, 43, 32, 40, 45, 50, 41]⟩, .slice none 0 0] (.bool true) := tot_closed all_good A (rulesK2_ok A) Tryz.func11 (by kernel_rfl) (by kernel_rfl) (by kernel_rfl) c1_8_run

set_option maxRecDepth 1000000 in
theorem c2_8_run (off : Nat) (spot : Option Nat) : (funcK (envP 241 wildsP rulesK2) 300 11 [.string ⟨#[102, 40, 49, 32, 43, 32, 50, 41]⟩, .string ⟨#[40, 102, 41, 40, 49, 32, 43, 32, 50, 41]⟩, .slice none 0 0] (tabsE off spot) (Tryz.prog.globals.size + 1) fun u _ _ mw => u = .bool true ∧ Nat.ble (Tryz.prog.globals.size + 1) mw = true) = ((.bool true : Value) = .bool true ∧ true = true) := by kernel_rfl
theorem c2_8 {base : World} (A : AtP base) : TotP base 11 [.string ⟨#[102, 40, 49, 32, 43, 32, 50, 41]⟩, .string ⟨#[40, 102, 41, 40, 49, 32, 43, 32, 50, 41]⟩, .slice none 0 0] (.bool true) := tot_closed all_good A (rulesK2_ok A) Tryz.func11 (by kernel_rfl) (by kernel_rfl) (by kernel_rfl) c2_8_run

set_option maxRecDepth 1000000 in
theorem c3_8_run (off : Nat) (spot : Option Nat) : (funcK (envP 241 wildsP rulesK2) 300 11 [.string ⟨#[91, 49, 32, 43, 32, 50, 44, 32, 51, 93]⟩, .string ⟨#[91, 49, 32, 43, 32, 50, 44, 32, 51, 93]⟩, .slice none 0 0] (tabsE off spot) (Tryz.prog.globals.size + 1) fun u _ _ mw => u = .bool true ∧ Nat.ble (Tryz.prog.globals.size + 1) mw = true) = ((.bool true : Value) = .bool true ∧ true = true) := by kernel_rfl
theorem c3_8 {base : World} (A : AtP base) : TotP base 11 [.string ⟨#[91, 49, 32, 43, 32, 50, 44, 32, 51, 93]⟩, .string ⟨#[91, 49, 32, 43, 32, 50, 44, 32, 51, 93]⟩, .slice none 0 0] (.bool true) := tot_closed all_good A (rulesK2_ok A) Tryz.func11 (by kernel_rfl) (by kernel_rfl) (by kernel_rfl) c3_8_run

set_option maxRecDepth 1000000 in
theorem c1_9_run (off : Nat) (spot : Option Nat) : (funcK (envP 241 wildsP rulesK2) 300 11 [.string ⟨#[45, 49, 32, 45, 32, 45, 50]⟩, .string ⟨#[40, 45, 49, 41, 32, 45, 32, 40, 45, 50, 41]⟩, .slice none 0 0] (tabsE off spot) (Tryz.prog.globals.size + 1) fun u _ _ mw => u = .bool true ∧ Nat.ble (Tryz.prog.globals.size + 1) mw = true) = ((.bool true : Value) = .bool true ∧ true = true) := by kernel_rfl
theorem c1_9 {base : World} (A : AtP base) : TotP base 11 [.string ⟨#[45, 49, 32, 45, 32, 45, 50]⟩, .string ⟨#[40, 45, 49, 41, 32, 45, 32, 40, 45, 50, 41]⟩, .slice none 0 0] (.bool true) := tot_closed all_good A (rulesK2_ok A) Tryz.func11 (by kernel_rfl) (by kernel_rfl) (by kernel_rfl) c1_9_run

set_option maxRecDepth 1000000 in
theorem c2_9_run (off : Nat) (spot : Option Nat) : (funcK (envP 241 wildsP rulesK2) 300 11 [.string ⟨#[102, 40, 49, 32, 45, 32, 50, 41]⟩, .string ⟨#[40, 102, 41, 40, 49, 32, 45, 32, 50, 41]⟩, .slice none 0 0] (tabsE off spot) (Tryz.prog.globals.size + 1) fun u _ _ mw => u = .bool true ∧ Nat.ble (Tryz.prog.globals.size + 1) mw = true) = ((.bool true : Value) = .bool true ∧ true = true) := by kernel_rfl
theorem c2_9 {base : World} (A : AtP base) : TotP base 11 [.string ⟨#[102, 40, 49, 32, 45, 32, 50, 41]⟩, .string ⟨#[40, 102, 41, 40, 49, 32, 45, 32, 50, 41]⟩, .slice none 0 0] (.bool true) := tot_closed all_good A (rulesK2_ok A) Tryz.func11 (by kernel_rfl) (by kernel_rfl) (by kernel_rfl) c2_9_run

set_option maxRecDepth 1000000 in
theorem c3_9_run (off : Nat) (spot : Option Nat) : (funcK (envP 241 wildsP rulesK2) 300 11 [.string ⟨#[91, 49, 32, 45, 32, 50, 44, 32, 51, 93]⟩, .string ⟨#[91, 49, 32, 45, 32, 50, 44, 32, 51, 93]⟩, .slice none 0 0] (tabsE off spot) (Tryz.prog.globals.size + 1) fun u _ _ mw => u = .bool true ∧ Nat.ble (Tryz.prog.globals.size + 1) mw = true) = ((.bool true : Value) = .bool true ∧ true = true) := by kernel_rfl
theorem c3_9 {base : World} (A : AtP base) : TotP base 11 [.string ⟨#[91, 49, 32, 45, 32, 50, 44, 32, 51, 93]⟩, .string ⟨#[91, 49, 32, 45, 32, 50, 44, 32, 51, 93]⟩, .slice none 0 0] (.bool true) := tot_closed all_good A (rulesK2_ok A) Tryz.func11 (by kernel_rfl) (by kernel_rfl) (by kernel_rfl) c3_9_run

set_option maxRecDepth 1000000 in
theorem c1_10_run (off : Nat) (spot : Option Nat) : (funcK (envP 241 wildsP rulesK2) 300 11 [.string ⟨#[45, 49, 32, 42, 32, 45, 50]⟩, .string ⟨#[40, 45, 49, 41, 32, 42, 32, 40, 45, 50, 41]⟩, .slice none 0 0] (tabsE off spot) (Tryz.prog.globals.size + 1) fun u _ _ mw => u = .bool true ∧ Nat.ble (Tryz.prog.globals.size + 1) mw = true) = ((.bool true : Value) = .bool true ∧ true = true) := by kernel_rfl
theorem c1_10 {base : World} (A : AtP base) : TotP base 11 [.string ⟨#[45, 49, 32, 42, 32, 45, 50]⟩, .string ⟨#[40, 45, 49, 41, 32, 42, 32, 40, 45, 50, 41]⟩, .slice none 0 0] (.bool true) := tot_closed all_good A (rulesK2_ok A) Tryz.func11 (by kernel_rfl) (by kernel_rfl) (by kernel_rfl) c1_10_run

set_option maxRecDepth 1000000 in
theorem c2_10_run (off : Nat) (spot : Option Nat) : (funcK (envP 241 wildsP rulesK2) 300 11 [.string ⟨#[102, 40, 49, 32, 42, 32, 50, 41]⟩, .string ⟨#[40, 102, 41, 40, 49, 32, 42, 32, 50, 41]⟩, .slice none 0 0] (tabsE off spot) (Tryz.prog.globals.size + 1) fun u _ _ mw => u = .bool true ∧ Nat.ble (Tryz.prog.globals.size + 1) mw = true) = ((.bool true : Value) = .bool true ∧ true = true) := by kernel_rfl
theorem c2_10 {base : World} (A : AtP base) : TotP base 11 [.string ⟨#[102, 40, 49, 32, 42, 32, 50, 41]⟩, .string ⟨#[40, 102, 41, 40, 49, 32, 42, 32, 50, 41]⟩, .slice none 0 0] (.bool true) := tot_closed all_good A (rulesK2_ok A) Tryz.func11 (by kernel_rfl) (by kernel_rfl) (by kernel_rfl) c2_10_run

set_option maxRecDepth 1000000 in
theorem c3_10_run (off : Nat) (spot : Option Nat) : (funcK (envP 241 wildsP rulesK2) 300 11 [.string ⟨#[91, 49, 32, 42, 32, 50, 44, 32, 51, 93]⟩, .string ⟨#[91, 49, 32, 42, 32, 50, 44, 32, 51, 93]⟩, .slice none 0 0] (tabsE off spot) (Tryz.prog.globals.size + 1) fun u _ _ mw => u = .bool true ∧ Nat.ble (Tryz.prog.globals.size + 1) mw = true) = ((.bool true : Value) = .bool true ∧ true = true) := by kernel_rfl
theorem c3_10 {base : World} (A : AtP base) : TotP base 11 [.string ⟨#[91, 49, 32, 42, 32, 50, 44, 32, 51, 93]⟩, .string ⟨#[91, 49, 32, 42, 32, 50, 44, 32, 51, 93]⟩, .slice none 0 0] (.bool true) := tot_closed all_good A (rulesK2_ok A) Tryz.func11 (by kernel_rfl) (by kernel_rfl) (by kernel_rfl) c3_10_run

set_option maxRecDepth 1000000 in
theorem c1_11_run (off : Nat) (spot : Option Nat) : (funcK (envP 241 wildsP rulesK2) 300 11 [.string ⟨#[45, 49, 32, 47, 32, 45, 50]⟩, .string ⟨#[40, 45, 49, 41, 32, 47, 32, 40, 45, 50, 41]⟩, .slice none 0 0] (tabsE off spot) (Tryz.prog.globals.size + 1) fun u _ _ mw => u = .bool true ∧ Nat.ble (Tryz.prog.globals.size + 1) mw = true) = ((.bool true : Value) = .bool true ∧ true = true) := by kernel_rfl
theorem c1_11 {base : World} (A : AtP base) : TotP base 11 [.string ⟨#[45, 49, 32, 47, 32, 45, 50]⟩, .string ⟨#[40, 45, 49, 41, 32, 47, 32, 40, 45, 50, 41]⟩, .slice none 0 0] (.bool true) := tot_closed all_good A (rulesK2_ok A) Tryz.func11 (by kernel_rfl) (by kernel_rfl) (by kernel_rfl) c1_11_run

set_option maxRecDepth 1000000 in
theorem c2_11_run (off : Nat) (spot : Option Nat) : (funcK (envP 241 wildsP rulesK2) 300 11 [.string ⟨#[102, 40, 49, 32, 47, 32, 50, 41]⟩, .string ⟨#[40, 102, 41, 40, 49, 32, 47, 32, 50, 41]⟩, .slice none 0 0] (tabsE off spot) (Tryz.prog.globals.size + 1) fun u _ _ mw => u = .bool true ∧ Nat.ble (Tryz.prog.globals.size + 1) mw = true) = ((.bool true : Value) = .bool true ∧ true = true) := by kernel_rfl
theorem c2_11 {base : World} (A : AtP base) : TotP base 11 [.string ⟨#[102, 40, 49, 32, 47, 32, 50, 41]⟩, .string ⟨#[40, 102, 41, 40, 49, 32, 47, 32, 50, 41]⟩, .slice none 0 0] (.bool true) := tot_closed all_good A (rulesK2_ok A) Tryz.func11 (by kernel_rfl) (by kernel_rfl) (by kernel_rfl) c2_11_run

set_option maxRecDepth 1000000 in
theorem c3_11_run (off : Nat) (spot : Option Nat) : (funcK (envP 241 wildsP rulesK2) 300 11 [.string ⟨#[91, 49, 32, 47, 32, 50, 44, 32, 51, 93]⟩, .string ⟨#[91, 49, 32, 47, 32, 50, 44, 32, 51, 93]⟩, .slice none 0 0] (tabsE off spot) (Tryz.prog.globals.size + 1) fun u _ _ mw => u = .bool true ∧ Nat.ble (Tryz.prog.globals.size + 1) mw = true) = ((.bool true : Value) = .bool true ∧ true = true) := by kernel_rfl
theorem c3_11 {base : World} (A : AtP base) : TotP base 11 [.string ⟨#[91, 49, 32, 47, 32, 50, 44, 32, 51, 93]⟩, .string ⟨#[91, 49, 32, 47, 32, 50, 44, 32, 51, 93]⟩, .slice none 0 0] (.bool true) := tot_closed all_good A (rulesK2_ok A) Tryz.func11 (by kernel_rfl) (by kernel_rfl) (by kernel_rfl) c3_11_run

set_option maxRecDepth 1000000 in
theorem c1_12_run (off : Nat) (spot : Option Nat) : (funcK (envP 241 wildsP rulesK2) 300 11 [.string ⟨#[45, 49, 32, 42, 42, 32, 45, 50]⟩, .string ⟨#[40, 45, 49, 41, 32, 42, 42, 32, 40, 45, 50, 41]⟩, .slice none 0 0] (tabsE off spot) (Tryz.prog.globals.size + 1) fun u _ _ mw => u = .bool true ∧ Nat.ble (Tryz.prog.globals.size + 1) mw = true) = ((.bool true : Value) = .bool true ∧ true = true) := by kernel_rfl
theorem c1_12 {base : World} (A : AtP base) : TotP base 11 [.string ⟨#[45, 49, 32, 42, 42, 32, 45, 50]⟩, .string ⟨#[40, 45, 49, 41, 32, 42, 42, 32, 40, 45, 50, 41]⟩, .slice none 0 0] (.bool true) := tot_closed all_good A (rulesK2_ok A) Tryz.func11 (by kernel_rfl) (by kernel_rfl) (by kernel_rfl) c1_12_run

set_option maxRecDepth 1000000 in
theorem c2_12_run (off : Nat) (spot : Option Nat) : (funcK (envP 241 wildsP rulesK2) 300 11 [.string ⟨#[102, 40, 49, 32, 42, 42, 32, 50, 41]⟩, .string ⟨#[40, 102, 41, 40, 49, 32, 42, 42, 32, 50, 41]⟩, .slice none 0 0] (tabsE off spot) (Tryz.prog.globals.size + 1) fun u _ _ mw => u = .bool true ∧ Nat.ble (Tryz.prog.globals.size + 1) mw = true) = ((.bool true : Value) = .bool true ∧ true = true) := by kernel_rfl
theorem c2_12 {base : World} (A : AtP base) : TotP base 11 [.string ⟨#[102, 40, 49, 32, 42, 42, 32, 50, 41]⟩, .string ⟨#[40, 102, 41, 40, 49, 32, 42, 42, 32, 50, 41]⟩, .slice none 0 0] (.bool true) := tot_closed all_good A (rulesK2_ok A) Tryz.func11 (by kernel_rfl) (by kernel_rfl) (by kernel_rfl) c2_12_run

set_option maxRecDepth 1000000 in
theorem c3_12_run (off : Nat) (spot : Option Nat) : (funcK (envP 241 wildsP rulesK2) 300 11 [.string ⟨#[91, 49, 32, 42, 42, 32, 50, 44, 32, 51, 93]⟩, .string ⟨#[91, 49, 32, 42, 42, 32, 50, 44, 32, 51, 93]⟩, .slice none 0 0] (tabsE off spot) (Tryz.prog.globals.size + 1) fun u _ _ mw => u = .bool true ∧ Nat.ble (Tryz.prog.globals.size + 1) mw = true) = ((.bool true : Value) = .bool true ∧ true = true) := by kernel_rfl
theorem c3_12 {base : World} (A : AtP base) : TotP base 11 [.string ⟨#[91, 49, 32, 42, 42, 32, 50, 44, 32, 51, 93]⟩, .string ⟨#[91, 49, 32, 42, 42, 32, 50, 44, 32, 51, 93]⟩, .slice none 0 0] (.bool true) := tot_closed all_good A (rulesK2_ok A) Tryz.func11 (by kernel_rfl) (by kernel_rfl) (by kernel_rfl) c3_12_run

end Go.Proofs.YtapmcocefoccdaaGreatDoor
