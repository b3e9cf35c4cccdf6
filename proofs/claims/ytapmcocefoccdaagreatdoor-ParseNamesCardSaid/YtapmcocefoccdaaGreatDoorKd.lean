/-
  The examples of the law's package.
-/
import Derived.Test.YtapmcocefoccdaaGreatDoorKb
namespace Go.Proofs.YtapmcocefoccdaaGreatDoor
open Go Go.Pe Go.RowKit

set_option maxRecDepth 1000000 in
theorem isA0_run (off : Nat) (spot : Option Nat) : (funcK (envP 241 wildsP rulesK2) 300 11 [.string ⟨#[49, 32, 43, 32, 50, 32, 42, 32, 51]⟩, .string ⟨#[49, 32, 43, 32, 40, 50, 32, 42, 32, 51, 41]⟩, .slice none 0 0] (tabsE off spot) (Tryz.prog.globals.size + 1) fun u _ _ mw => u = .bool true ∧ Nat.ble (Tryz.prog.globals.size + 1) mw = true) = ((.bool true : Value) = .bool true ∧ true = true) := by kernel_rfl
theorem isA0 {base : World} (A : AtP base) : TotP base 11 [.string ⟨#[49, 32, 43, 32, 50, 32, 42, 32, 51]⟩, .string ⟨#[49, 32, 43, 32, 40, 50, 32, 42, 32, 51, 41]⟩, .slice none 0 0] (.bool true) := tot_closed all_good A (rulesK2_ok A) Tryz.func11 (by kernel_rfl) (by kernel_rfl) (by kernel_rfl) isA0_run

set_option maxRecDepth 1000000 in
theorem isA1_run (off : Nat) (spot : Option Nat) : (funcK (envP 241 wildsP rulesK2) 300 11 [.string ⟨#[45, 50, 32, 42, 42, 32, 50]⟩, .string ⟨#[40, 45, 50, 41, 32, 42, 42, 32, 50]⟩, .slice none 0 0] (tabsE off spot) (Tryz.prog.globals.size + 1) fun u _ _ mw => u = .bool true ∧ Nat.ble (Tryz.prog.globals.size + 1) mw = true) = ((.bool true : Value) = .bool true ∧ true = true) := by kernel_rfl
theorem isA1 {base : World} (A : AtP base) : TotP base 11 [.string ⟨#[45, 50, 32, 42, 42, 32, 50]⟩, .string ⟨#[40, 45, 50, 41, 32, 42, 42, 32, 50]⟩, .slice none 0 0] (.bool true) := tot_closed all_good A (rulesK2_ok A) Tryz.func11 (by kernel_rfl) (by kernel_rfl) (by kernel_rfl) isA1_run

set_option maxRecDepth 1000000 in
theorem isA2_run (off : Nat) (spot : Option Nat) : (funcK (envP 241 wildsP rulesK2) 300 11 [.string ⟨#[120, 32, 105, 110, 32, 40, 49, 46, 46, 53, 93]⟩, .string ⟨#[40, 120, 41, 32, 105, 110, 32, 40, 40, 49, 46, 46, 53, 93, 41]⟩, .slice none 0 0] (tabsE off spot) (Tryz.prog.globals.size + 1) fun u _ _ mw => u = .bool true ∧ Nat.ble (Tryz.prog.globals.size + 1) mw = true) = ((.bool true : Value) = .bool true ∧ true = true) := by kernel_rfl
theorem isA2 {base : World} (A : AtP base) : TotP base 11 [.string ⟨#[120, 32, 105, 110, 32, 40, 49, 46, 46, 53, 93]⟩, .string ⟨#[40, 120, 41, 32, 105, 110, 32, 40, 40, 49, 46, 46, 53, 93, 41]⟩, .slice none 0 0] (.bool true) := tot_closed all_good A (rulesK2_ok A) Tryz.func11 (by kernel_rfl) (by kernel_rfl) (by kernel_rfl) isA2_run

set_option maxRecDepth 1000000 in
theorem isA3_run (off : Nat) (spot : Option Nat) : (funcK (envP 241 wildsP rulesK2) 300 11 [.string ⟨#[91, 49, 44, 32, 50, 93, 91, 49, 93]⟩, .string ⟨#[91, 49, 44, 32, 50, 93, 91, 49, 93]⟩, .slice none 0 0] (tabsE off spot) (Tryz.prog.globals.size + 1) fun u _ _ mw => u = .bool true ∧ Nat.ble (Tryz.prog.globals.size + 1) mw = true) = ((.bool true : Value) = .bool true ∧ true = true) := by kernel_rfl
theorem isA3 {base : World} (A : AtP base) : TotP base 11 [.string ⟨#[91, 49, 44, 32, 50, 93, 91, 49, 93]⟩, .string ⟨#[91, 49, 44, 32, 50, 93, 91, 49, 93]⟩, .slice none 0 0] (.bool true) := tot_closed all_good A (rulesK2_ok A) Tryz.func11 (by kernel_rfl) (by kernel_rfl) (by kernel_rfl) isA3_run

set_option maxRecDepth 1000000 in
theorem isA4_run (off : Nat) (spot : Option Nat) : (funcK (envP 241 wildsP rulesK2) 300 11 [.string ⟨#[123, 97, 58, 32, 49, 44, 32, 98, 58, 32, 97, 125]⟩, .string ⟨#[123, 34, 97, 34, 58, 32, 49, 44, 32, 34, 98, 34, 58, 32, 97, 125]⟩, .slice none 0 0] (tabsE off spot) (Tryz.prog.globals.size + 1) fun u _ _ mw => u = .bool true ∧ Nat.ble (Tryz.prog.globals.size + 1) mw = true) = ((.bool true : Value) = .bool true ∧ true = true) := by kernel_rfl
theorem isA4 {base : World} (A : AtP base) : TotP base 11 [.string ⟨#[123, 97, 58, 32, 49, 44, 32, 98, 58, 32, 97, 125]⟩, .string ⟨#[123, 34, 97, 34, 58, 32, 49, 44, 32, 34, 98, 34, 58, 32, 97, 125]⟩, .slice none 0 0] (.bool true) := tot_closed all_good A (rulesK2_ok A) Tryz.func11 (by kernel_rfl) (by kernel_rfl) (by kernel_rfl) isA4_run

def tabIsA : List (List Value × Value) := [([.string ⟨#[49, 32, 43, 32, 50, 32, 42, 32, 51]⟩, .string ⟨#[49, 32, 43, 32, 40, 50, 32, 42, 32, 51, 41]⟩, .slice none 0 0], .bool true), ([.string ⟨#[45, 50, 32, 42, 42, 32, 50]⟩, .string ⟨#[40, 45, 50, 41, 32, 42, 42, 32, 50]⟩, .slice none 0 0], .bool true), ([.string ⟨#[120, 32, 105, 110, 32, 40, 49, 46, 46, 53, 93]⟩, .string ⟨#[40, 120, 41, 32, 105, 110, 32, 40, 40, 49, 46, 46, 53, 93, 41]⟩, .slice none 0 0], .bool true), ([.string ⟨#[91, 49, 44, 32, 50, 93, 91, 49, 93]⟩, .string ⟨#[91, 49, 44, 32, 50, 93, 91, 49, 93]⟩, .slice none 0 0], .bool true), ([.string ⟨#[123, 97, 58, 32, 49, 44, 32, 98, 58, 32, 97, 125]⟩, .string ⟨#[123, 34, 97, 34, 58, 32, 49, 44, 32, 34, 98, 34, 58, 32, 97, 125]⟩, .slice none 0 0], .bool true)]
theorem tabIsA_ok {base : World} (A : AtP base) : RuleOk Tryz.prog base 11 (ruleTab tabIsA) := ruleOk_tab (by
  unfold tabIsA
  exact List.forall_mem_cons.2 ⟨isA0 A, List.forall_mem_cons.2 ⟨isA1 A, List.forall_mem_cons.2 ⟨isA2 A, List.forall_mem_cons.2 ⟨isA3 A, List.forall_mem_cons.2 ⟨isA4 A, fun _ h => nomatch h⟩⟩⟩⟩⟩)

set_option maxRecDepth 1000000 in
theorem paA0_run (off : Nat) (spot : Option Nat) : (funcK (envP 241 wildsP rulesK2) 300 10 [.string ⟨#[49, 32, 60, 32, 50, 32, 60, 32, 51]⟩, .slice none 0 0] (tabsE off spot) (Tryz.prog.globals.size + 1) fun u _ _ mw => u = failV ∧ Nat.ble (Tryz.prog.globals.size + 1) mw = true) = ((failV : Value) = failV ∧ true = true) := by kernel_rfl
theorem paA0 {base : World} (A : AtP base) : TotP base 10 [.string ⟨#[49, 32, 60, 32, 50, 32, 60, 32, 51]⟩, .slice none 0 0] (failV) := tot_closed all_good A (rulesK2_ok A) Tryz.func10 (by kernel_rfl) (by kernel_rfl) (by kernel_rfl) paA0_run

def tabPaA : List (List Value × Value) := [([.string ⟨#[49, 32, 60, 32, 50, 32, 60, 32, 51]⟩, .slice none 0 0], failV)]
theorem tabPaA_ok {base : World} (A : AtP base) : RuleOk Tryz.prog base 10 (ruleTab tabPaA) := ruleOk_tab (by
  unfold tabPaA
  exact List.forall_mem_cons.2 ⟨paA0 A, fun _ h => nomatch h⟩)

noncomputable def rulesK3 : List (Nat × Rule) := (11, ruleTab tabIsA) :: (10, ruleTab tabPaA) :: rulesK2
theorem rulesK3_ok {base : World} (A : AtP base) : ∀ x ∈ rulesK3, RuleOk Tryz.prog base x.1 x.2 := List.forall_mem_cons.2 ⟨tabIsA_ok A, List.forall_mem_cons.2 ⟨tabPaA_ok A, rulesK2_ok A⟩⟩

set_option maxRecDepth 1000000 in
theorem awake19_run (off : Nat) (spot : Option Nat) : (funcK (envP 241 wildsP rulesK3) 300 7 [] (tabsE off spot) (Tryz.prog.globals.size + 1) fun u _ _ mw => u = .bool true ∧ Nat.ble (Tryz.prog.globals.size + 1) mw = true) = ((.bool true : Value) = .bool true ∧ true = true) := by kernel_rfl
theorem awake19 {base : World} (A : AtP base) : TotP base 7 [] (.bool true) := tot_closed all_good A (rulesK3_ok A) Tryz.func7 (by kernel_rfl) (by kernel_rfl) (by kernel_rfl) awake19_run

end Go.Proofs.YtapmcocefoccdaaGreatDoor
