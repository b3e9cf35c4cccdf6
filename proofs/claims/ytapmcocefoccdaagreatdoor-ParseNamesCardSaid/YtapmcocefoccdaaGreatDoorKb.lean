/-
  Closed runs of the reader: every function's code is right; what small functions come to.
-/
import Derived.Test.YtapmcocefoccdaaGreatDoorBl
namespace Go.Proofs.YtapmcocefoccdaaGreatDoor
open Go Go.Pe Go.RowKit

def failV : Value := .tuple #[.agg #[.int .i64 0, .string ⟨#[]⟩, .slice none 0 0, .slice none 0 0, .slice none 0 0, .bool false, .bool false], .bool false]
set_option maxRecDepth 1000000 in
theorem all_good : allGood Tryz.prog 241 = true := by kernel_rfl

def wildsP : List Nat := [64, 93, 159, 137, 160, 116, 61, 92, 138, 118, 140, 60, 63]

theorem rulesB_okA {base : World} (_ : AtP base) : ∀ x ∈ rulesB, RuleOk Tryz.prog base x.1 x.2 := rulesB_ok base
noncomputable def rulesK0 : List (Nat × Rule) := rulesB
theorem rulesK0_ok {base : World} (A : AtP base) : ∀ x ∈ rulesK0, RuleOk Tryz.prog base x.1 x.2 := rulesB_okA A

set_option maxRecDepth 1000000 in
theorem shape1_run (off : Nat) (spot : Option Nat) : (funcK (envP 241 wildsP rulesK0) 300 82 [.string ⟨#[49]⟩] (tabsE off spot) (Tryz.prog.globals.size + 1) fun u _ _ mw => u = .bool true ∧ Nat.ble (Tryz.prog.globals.size + 1) mw = true) = ((.bool true : Value) = .bool true ∧ true = true) := by kernel_rfl
theorem shape1 {base : World} (A : AtP base) : TotP base 82 [.string ⟨#[49]⟩] (.bool true) := tot_closed all_good A (rulesK0_ok A) Tryz.func82 (by kernel_rfl) (by kernel_rfl) (by kernel_rfl) shape1_run

set_option maxRecDepth 1000000 in
theorem shape2_run (off : Nat) (spot : Option Nat) : (funcK (envP 241 wildsP rulesK0) 300 82 [.string ⟨#[50]⟩] (tabsE off spot) (Tryz.prog.globals.size + 1) fun u _ _ mw => u = .bool true ∧ Nat.ble (Tryz.prog.globals.size + 1) mw = true) = ((.bool true : Value) = .bool true ∧ true = true) := by kernel_rfl
theorem shape2 {base : World} (A : AtP base) : TotP base 82 [.string ⟨#[50]⟩] (.bool true) := tot_closed all_good A (rulesK0_ok A) Tryz.func82 (by kernel_rfl) (by kernel_rfl) (by kernel_rfl) shape2_run

set_option maxRecDepth 1000000 in
theorem shape3_run (off : Nat) (spot : Option Nat) : (funcK (envP 241 wildsP rulesK0) 300 82 [.string ⟨#[51]⟩] (tabsE off spot) (Tryz.prog.globals.size + 1) fun u _ _ mw => u = .bool true ∧ Nat.ble (Tryz.prog.globals.size + 1) mw = true) = ((.bool true : Value) = .bool true ∧ true = true) := by kernel_rfl
theorem shape3 {base : World} (A : AtP base) : TotP base 82 [.string ⟨#[51]⟩] (.bool true) := tot_closed all_good A (rulesK0_ok A) Tryz.func82 (by kernel_rfl) (by kernel_rfl) (by kernel_rfl) shape3_run

def tabShape : List (List Value × Value) := [([.string ⟨#[49]⟩], .bool true), ([.string ⟨#[50]⟩], .bool true), ([.string ⟨#[51]⟩], .bool true)]
theorem tabShape_ok {base : World} (A : AtP base) : RuleOk Tryz.prog base 82 (ruleTab tabShape) := ruleOk_tab (by
  unfold tabShape
  exact List.forall_mem_cons.2 ⟨shape1 A, List.forall_mem_cons.2 ⟨shape2 A, List.forall_mem_cons.2 ⟨shape3 A, fun _ h => nomatch h⟩⟩⟩)

set_option maxRecDepth 1000000 in
theorem text1_run (off : Nat) (spot : Option Nat) : (funcK (envP 241 wildsP rulesK0) 300 120 [.agg #[.bool false, .int .u64 0, .int .u64 1, .int .i64 0]] (tabsE off spot) (Tryz.prog.globals.size + 1) fun u _ _ mw => u = .string ⟨#[49]⟩ ∧ Nat.ble (Tryz.prog.globals.size + 1) mw = true) = ((.string ⟨#[49]⟩ : Value) = .string ⟨#[49]⟩ ∧ true = true) := by kernel_rfl
theorem text1 {base : World} (A : AtP base) : TotP base 120 [.agg #[.bool false, .int .u64 0, .int .u64 1, .int .i64 0]] (.string ⟨#[49]⟩) := tot_closed all_good A (rulesK0_ok A) Tryz.func120 (by kernel_rfl) (by kernel_rfl) (by kernel_rfl) text1_run

set_option maxRecDepth 1000000 in
theorem text2_run (off : Nat) (spot : Option Nat) : (funcK (envP 241 wildsP rulesK0) 300 120 [.agg #[.bool false, .int .u64 0, .int .u64 2, .int .i64 0]] (tabsE off spot) (Tryz.prog.globals.size + 1) fun u _ _ mw => u = .string ⟨#[50]⟩ ∧ Nat.ble (Tryz.prog.globals.size + 1) mw = true) = ((.string ⟨#[50]⟩ : Value) = .string ⟨#[50]⟩ ∧ true = true) := by kernel_rfl
theorem text2 {base : World} (A : AtP base) : TotP base 120 [.agg #[.bool false, .int .u64 0, .int .u64 2, .int .i64 0]] (.string ⟨#[50]⟩) := tot_closed all_good A (rulesK0_ok A) Tryz.func120 (by kernel_rfl) (by kernel_rfl) (by kernel_rfl) text2_run

set_option maxRecDepth 1000000 in
theorem text3_run (off : Nat) (spot : Option Nat) : (funcK (envP 241 wildsP rulesK0) 300 120 [.agg #[.bool false, .int .u64 0, .int .u64 3, .int .i64 0]] (tabsE off spot) (Tryz.prog.globals.size + 1) fun u _ _ mw => u = .string ⟨#[51]⟩ ∧ Nat.ble (Tryz.prog.globals.size + 1) mw = true) = ((.string ⟨#[51]⟩ : Value) = .string ⟨#[51]⟩ ∧ true = true) := by kernel_rfl
theorem text3 {base : World} (A : AtP base) : TotP base 120 [.agg #[.bool false, .int .u64 0, .int .u64 3, .int .i64 0]] (.string ⟨#[51]⟩) := tot_closed all_good A (rulesK0_ok A) Tryz.func120 (by kernel_rfl) (by kernel_rfl) (by kernel_rfl) text3_run

def tabText : List (List Value × Value) := [([.agg #[.bool false, .int .u64 0, .int .u64 1, .int .i64 0]], .string ⟨#[49]⟩), ([.agg #[.bool false, .int .u64 0, .int .u64 2, .int .i64 0]], .string ⟨#[50]⟩), ([.agg #[.bool false, .int .u64 0, .int .u64 3, .int .i64 0]], .string ⟨#[51]⟩)]
theorem tabText_ok {base : World} (A : AtP base) : RuleOk Tryz.prog base 120 (ruleTab tabText) := ruleOk_tab (by
  unfold tabText
  exact List.forall_mem_cons.2 ⟨text1 A, List.forall_mem_cons.2 ⟨text2 A, List.forall_mem_cons.2 ⟨text3 A, fun _ h => nomatch h⟩⟩⟩)

noncomputable def rulesK1 : List (Nat × Rule) := (82, ruleTab tabShape) :: (120, ruleTab tabText) :: rulesK0
theorem rulesK1_ok {base : World} (A : AtP base) : ∀ x ∈ rulesK1, RuleOk Tryz.prog base x.1 x.2 := List.forall_mem_cons.2 ⟨tabShape_ok A, List.forall_mem_cons.2 ⟨tabText_ok A, rulesK0_ok A⟩⟩

set_option maxRecDepth 1000000 in
theorem read1_run (off : Nat) (spot : Option Nat) : (funcK (envP 241 wildsP rulesK1) 300 119 [.string ⟨#[49]⟩] (tabsE off spot) (Tryz.prog.globals.size + 1) fun u _ _ mw => u = .tuple #[.agg #[.bool false, .int .u64 0, .int .u64 1, .int .i64 0], .bool true] ∧ Nat.ble (Tryz.prog.globals.size + 1) mw = true) = ((.tuple #[.agg #[.bool false, .int .u64 0, .int .u64 1, .int .i64 0], .bool true] : Value) = .tuple #[.agg #[.bool false, .int .u64 0, .int .u64 1, .int .i64 0], .bool true] ∧ true = true) := by kernel_rfl
theorem read1 {base : World} (A : AtP base) : TotP base 119 [.string ⟨#[49]⟩] (.tuple #[.agg #[.bool false, .int .u64 0, .int .u64 1, .int .i64 0], .bool true]) := tot_closed all_good A (rulesK1_ok A) Tryz.func119 (by kernel_rfl) (by kernel_rfl) (by kernel_rfl) read1_run

set_option maxRecDepth 1000000 in
theorem read2_run (off : Nat) (spot : Option Nat) : (funcK (envP 241 wildsP rulesK1) 300 119 [.string ⟨#[50]⟩] (tabsE off spot) (Tryz.prog.globals.size + 1) fun u _ _ mw => u = .tuple #[.agg #[.bool false, .int .u64 0, .int .u64 2, .int .i64 0], .bool true] ∧ Nat.ble (Tryz.prog.globals.size + 1) mw = true) = ((.tuple #[.agg #[.bool false, .int .u64 0, .int .u64 2, .int .i64 0], .bool true] : Value) = .tuple #[.agg #[.bool false, .int .u64 0, .int .u64 2, .int .i64 0], .bool true] ∧ true = true) := by kernel_rfl
theorem read2 {base : World} (A : AtP base) : TotP base 119 [.string ⟨#[50]⟩] (.tuple #[.agg #[.bool false, .int .u64 0, .int .u64 2, .int .i64 0], .bool true]) := tot_closed all_good A (rulesK1_ok A) Tryz.func119 (by kernel_rfl) (by kernel_rfl) (by kernel_rfl) read2_run

set_option maxRecDepth 1000000 in
theorem read3_run (off : Nat) (spot : Option Nat) : (funcK (envP 241 wildsP rulesK1) 300 119 [.string ⟨#[51]⟩] (tabsE off spot) (Tryz.prog.globals.size + 1) fun u _ _ mw => u = .tuple #[.agg #[.bool false, .int .u64 0, .int .u64 3, .int .i64 0], .bool true] ∧ Nat.ble (Tryz.prog.globals.size + 1) mw = true) = ((.tuple #[.agg #[.bool false, .int .u64 0, .int .u64 3, .int .i64 0], .bool true] : Value) = .tuple #[.agg #[.bool false, .int .u64 0, .int .u64 3, .int .i64 0], .bool true] ∧ true = true) := by kernel_rfl
theorem read3 {base : World} (A : AtP base) : TotP base 119 [.string ⟨#[51]⟩] (.tuple #[.agg #[.bool false, .int .u64 0, .int .u64 3, .int .i64 0], .bool true]) := tot_closed all_good A (rulesK1_ok A) Tryz.func119 (by kernel_rfl) (by kernel_rfl) (by kernel_rfl) read3_run

def tabRead : List (List Value × Value) := [([.string ⟨#[49]⟩], .tuple #[.agg #[.bool false, .int .u64 0, .int .u64 1, .int .i64 0], .bool true]), ([.string ⟨#[50]⟩], .tuple #[.agg #[.bool false, .int .u64 0, .int .u64 2, .int .i64 0], .bool true]), ([.string ⟨#[51]⟩], .tuple #[.agg #[.bool false, .int .u64 0, .int .u64 3, .int .i64 0], .bool true])]
theorem tabRead_ok {base : World} (A : AtP base) : RuleOk Tryz.prog base 119 (ruleTab tabRead) := ruleOk_tab (by
  unfold tabRead
  exact List.forall_mem_cons.2 ⟨read1 A, List.forall_mem_cons.2 ⟨read2 A, List.forall_mem_cons.2 ⟨read3 A, fun _ h => nomatch h⟩⟩⟩)

set_option maxRecDepth 1000000 in
theorem op0_run (off : Nat) (spot : Option Nat) : (funcK (envP 241 wildsP rulesK0) 300 9 [.string ⟨#[111, 114]⟩] (tabsE off spot) (Tryz.prog.globals.size + 1) fun u _ _ mw => u = .int .i64 1 ∧ Nat.ble (Tryz.prog.globals.size + 1) mw = true) = ((.int .i64 1 : Value) = .int .i64 1 ∧ true = true) := by kernel_rfl
theorem op0 {base : World} (A : AtP base) : TotP base 9 [.string ⟨#[111, 114]⟩] (.int .i64 1) := tot_closed all_good A (rulesK0_ok A) Tryz.func9 (by kernel_rfl) (by kernel_rfl) (by kernel_rfl) op0_run

set_option maxRecDepth 1000000 in
theorem op1_run (off : Nat) (spot : Option Nat) : (funcK (envP 241 wildsP rulesK0) 300 9 [.string ⟨#[97, 110, 100]⟩] (tabsE off spot) (Tryz.prog.globals.size + 1) fun u _ _ mw => u = .int .i64 2 ∧ Nat.ble (Tryz.prog.globals.size + 1) mw = true) = ((.int .i64 2 : Value) = .int .i64 2 ∧ true = true) := by kernel_rfl
theorem op1 {base : World} (A : AtP base) : TotP base 9 [.string ⟨#[97, 110, 100]⟩] (.int .i64 2) := tot_closed all_good A (rulesK0_ok A) Tryz.func9 (by kernel_rfl) (by kernel_rfl) (by kernel_rfl) op1_run

set_option maxRecDepth 1000000 in
theorem op2_run (off : Nat) (spot : Option Nat) : (funcK (envP 241 wildsP rulesK0) 300 9 [.string ⟨#[61]⟩] (tabsE off spot) (Tryz.prog.globals.size + 1) fun u _ _ mw => u = .int .i64 3 ∧ Nat.ble (Tryz.prog.globals.size + 1) mw = true) = ((.int .i64 3 : Value) = .int .i64 3 ∧ true = true) := by kernel_rfl
theorem op2 {base : World} (A : AtP base) : TotP base 9 [.string ⟨#[61]⟩] (.int .i64 3) := tot_closed all_good A (rulesK0_ok A) Tryz.func9 (by kernel_rfl) (by kernel_rfl) (by kernel_rfl) op2_run

set_option maxRecDepth 1000000 in
theorem op3_run (off : Nat) (spot : Option Nat) : (funcK (envP 241 wildsP rulesK0) 300 9 [.string ⟨#[33, 61]⟩] (tabsE off spot) (Tryz.prog.globals.size + 1) fun u _ _ mw => u = .int .i64 3 ∧ Nat.ble (Tryz.prog.globals.size + 1) mw = true) = ((.int .i64 3 : Value) = .int .i64 3 ∧ true = true) := by kernel_rfl
theorem op3 {base : World} (A : AtP base) : TotP base 9 [.string ⟨#[33, 61]⟩] (.int .i64 3) := tot_closed all_good A (rulesK0_ok A) Tryz.func9 (by kernel_rfl) (by kernel_rfl) (by kernel_rfl) op3_run

set_option maxRecDepth 1000000 in
theorem op4_run (off : Nat) (spot : Option Nat) : (funcK (envP 241 wildsP rulesK0) 300 9 [.string ⟨#[60]⟩] (tabsE off spot) (Tryz.prog.globals.size + 1) fun u _ _ mw => u = .int .i64 3 ∧ Nat.ble (Tryz.prog.globals.size + 1) mw = true) = ((.int .i64 3 : Value) = .int .i64 3 ∧ true = true) := by kernel_rfl
theorem op4 {base : World} (A : AtP base) : TotP base 9 [.string ⟨#[60]⟩] (.int .i64 3) := tot_closed all_good A (rulesK0_ok A) Tryz.func9 (by kernel_rfl) (by kernel_rfl) (by kernel_rfl) op4_run

set_option maxRecDepth 1000000 in
theorem op5_run (off : Nat) (spot : Option Nat) : (funcK (envP 241 wildsP rulesK0) 300 9 [.string ⟨#[60, 61]⟩] (tabsE off spot) (Tryz.prog.globals.size + 1) fun u _ _ mw => u = .int .i64 3 ∧ Nat.ble (Tryz.prog.globals.size + 1) mw = true) = ((.int .i64 3 : Value) = .int .i64 3 ∧ true = true) := by kernel_rfl
theorem op5 {base : World} (A : AtP base) : TotP base 9 [.string ⟨#[60, 61]⟩] (.int .i64 3) := tot_closed all_good A (rulesK0_ok A) Tryz.func9 (by kernel_rfl) (by kernel_rfl) (by kernel_rfl) op5_run

set_option maxRecDepth 1000000 in
theorem op6_run (off : Nat) (spot : Option Nat) : (funcK (envP 241 wildsP rulesK0) 300 9 [.string ⟨#[62]⟩] (tabsE off spot) (Tryz.prog.globals.size + 1) fun u _ _ mw => u = .int .i64 3 ∧ Nat.ble (Tryz.prog.globals.size + 1) mw = true) = ((.int .i64 3 : Value) = .int .i64 3 ∧ true = true) := by kernel_rfl
theorem op6 {base : World} (A : AtP base) : TotP base 9 [.string ⟨#[62]⟩] (.int .i64 3) := tot_closed all_good A (rulesK0_ok A) Tryz.func9 (by kernel_rfl) (by kernel_rfl) (by kernel_rfl) op6_run

set_option maxRecDepth 1000000 in
theorem op7_run (off : Nat) (spot : Option Nat) : (funcK (envP 241 wildsP rulesK0) 300 9 [.string ⟨#[62, 61]⟩] (tabsE off spot) (Tryz.prog.globals.size + 1) fun u _ _ mw => u = .int .i64 3 ∧ Nat.ble (Tryz.prog.globals.size + 1) mw = true) = ((.int .i64 3 : Value) = .int .i64 3 ∧ true = true) := by kernel_rfl
theorem op7 {base : World} (A : AtP base) : TotP base 9 [.string ⟨#[62, 61]⟩] (.int .i64 3) := tot_closed all_good A (rulesK0_ok A) Tryz.func9 (by kernel_rfl) (by kernel_rfl) (by kernel_rfl) op7_run

set_option maxRecDepth 1000000 in
theorem op8_run (off : Nat) (spot : Option Nat) : (funcK (envP 241 wildsP rulesK0) 300 9 [.string ⟨#[43]⟩] (tabsE off spot) (Tryz.prog.globals.size + 1) fun u _ _ mw => u = .int .i64 4 ∧ Nat.ble (Tryz.prog.globals.size + 1) mw = true) = ((.int .i64 4 : Value) = .int .i64 4 ∧ true = true) := by kernel_rfl
theorem op8 {base : World} (A : AtP base) : TotP base 9 [.string ⟨#[43]⟩] (.int .i64 4) := tot_closed all_good A (rulesK0_ok A) Tryz.func9 (by kernel_rfl) (by kernel_rfl) (by kernel_rfl) op8_run

set_option maxRecDepth 1000000 in
theorem op9_run (off : Nat) (spot : Option Nat) : (funcK (envP 241 wildsP rulesK0) 300 9 [.string ⟨#[45]⟩] (tabsE off spot) (Tryz.prog.globals.size + 1) fun u _ _ mw => u = .int .i64 4 ∧ Nat.ble (Tryz.prog.globals.size + 1) mw = true) = ((.int .i64 4 : Value) = .int .i64 4 ∧ true = true) := by kernel_rfl
theorem op9 {base : World} (A : AtP base) : TotP base 9 [.string ⟨#[45]⟩] (.int .i64 4) := tot_closed all_good A (rulesK0_ok A) Tryz.func9 (by kernel_rfl) (by kernel_rfl) (by kernel_rfl) op9_run

set_option maxRecDepth 1000000 in
theorem op10_run (off : Nat) (spot : Option Nat) : (funcK (envP 241 wildsP rulesK0) 300 9 [.string ⟨#[42]⟩] (tabsE off spot) (Tryz.prog.globals.size + 1) fun u _ _ mw => u = .int .i64 5 ∧ Nat.ble (Tryz.prog.globals.size + 1) mw = true) = ((.int .i64 5 : Value) = .int .i64 5 ∧ true = true) := by kernel_rfl
theorem op10 {base : World} (A : AtP base) : TotP base 9 [.string ⟨#[42]⟩] (.int .i64 5) := tot_closed all_good A (rulesK0_ok A) Tryz.func9 (by kernel_rfl) (by kernel_rfl) (by kernel_rfl) op10_run

set_option maxRecDepth 1000000 in
theorem op11_run (off : Nat) (spot : Option Nat) : (funcK (envP 241 wildsP rulesK0) 300 9 [.string ⟨#[47]⟩] (tabsE off spot) (Tryz.prog.globals.size + 1) fun u _ _ mw => u = .int .i64 5 ∧ Nat.ble (Tryz.prog.globals.size + 1) mw = true) = ((.int .i64 5 : Value) = .int .i64 5 ∧ true = true) := by kernel_rfl
theorem op11 {base : World} (A : AtP base) : TotP base 9 [.string ⟨#[47]⟩] (.int .i64 5) := tot_closed all_good A (rulesK0_ok A) Tryz.func9 (by kernel_rfl) (by kernel_rfl) (by kernel_rfl) op11_run

set_option maxRecDepth 1000000 in
theorem op12_run (off : Nat) (spot : Option Nat) : (funcK (envP 241 wildsP rulesK0) 300 9 [.string ⟨#[42, 42]⟩] (tabsE off spot) (Tryz.prog.globals.size + 1) fun u _ _ mw => u = .int .i64 6 ∧ Nat.ble (Tryz.prog.globals.size + 1) mw = true) = ((.int .i64 6 : Value) = .int .i64 6 ∧ true = true) := by kernel_rfl
theorem op12 {base : World} (A : AtP base) : TotP base 9 [.string ⟨#[42, 42]⟩] (.int .i64 6) := tot_closed all_good A (rulesK0_ok A) Tryz.func9 (by kernel_rfl) (by kernel_rfl) (by kernel_rfl) op12_run

set_option maxRecDepth 1000000 in
theorem op13_run (off : Nat) (spot : Option Nat) : (funcK (envP 241 wildsP rulesK0) 300 9 [.string ⟨#[40]⟩] (tabsE off spot) (Tryz.prog.globals.size + 1) fun u _ _ mw => u = .int .i64 0 ∧ Nat.ble (Tryz.prog.globals.size + 1) mw = true) = ((.int .i64 0 : Value) = .int .i64 0 ∧ true = true) := by kernel_rfl
theorem op13 {base : World} (A : AtP base) : TotP base 9 [.string ⟨#[40]⟩] (.int .i64 0) := tot_closed all_good A (rulesK0_ok A) Tryz.func9 (by kernel_rfl) (by kernel_rfl) (by kernel_rfl) op13_run

set_option maxRecDepth 1000000 in
theorem op14_run (off : Nat) (spot : Option Nat) : (funcK (envP 241 wildsP rulesK0) 300 9 [.string ⟨#[41]⟩] (tabsE off spot) (Tryz.prog.globals.size + 1) fun u _ _ mw => u = .int .i64 0 ∧ Nat.ble (Tryz.prog.globals.size + 1) mw = true) = ((.int .i64 0 : Value) = .int .i64 0 ∧ true = true) := by kernel_rfl
theorem op14 {base : World} (A : AtP base) : TotP base 9 [.string ⟨#[41]⟩] (.int .i64 0) := tot_closed all_good A (rulesK0_ok A) Tryz.func9 (by kernel_rfl) (by kernel_rfl) (by kernel_rfl) op14_run

set_option maxRecDepth 1000000 in
theorem op15_run (off : Nat) (spot : Option Nat) : (funcK (envP 241 wildsP rulesK0) 300 9 [.string ⟨#[91]⟩] (tabsE off spot) (Tryz.prog.globals.size + 1) fun u _ _ mw => u = .int .i64 0 ∧ Nat.ble (Tryz.prog.globals.size + 1) mw = true) = ((.int .i64 0 : Value) = .int .i64 0 ∧ true = true) := by kernel_rfl
theorem op15 {base : World} (A : AtP base) : TotP base 9 [.string ⟨#[91]⟩] (.int .i64 0) := tot_closed all_good A (rulesK0_ok A) Tryz.func9 (by kernel_rfl) (by kernel_rfl) (by kernel_rfl) op15_run

set_option maxRecDepth 1000000 in
theorem op16_run (off : Nat) (spot : Option Nat) : (funcK (envP 241 wildsP rulesK0) 300 9 [.string ⟨#[93]⟩] (tabsE off spot) (Tryz.prog.globals.size + 1) fun u _ _ mw => u = .int .i64 0 ∧ Nat.ble (Tryz.prog.globals.size + 1) mw = true) = ((.int .i64 0 : Value) = .int .i64 0 ∧ true = true) := by kernel_rfl
theorem op16 {base : World} (A : AtP base) : TotP base 9 [.string ⟨#[93]⟩] (.int .i64 0) := tot_closed all_good A (rulesK0_ok A) Tryz.func9 (by kernel_rfl) (by kernel_rfl) (by kernel_rfl) op16_run

set_option maxRecDepth 1000000 in
theorem op17_run (off : Nat) (spot : Option Nat) : (funcK (envP 241 wildsP rulesK0) 300 9 [.string ⟨#[44]⟩] (tabsE off spot) (Tryz.prog.globals.size + 1) fun u _ _ mw => u = .int .i64 0 ∧ Nat.ble (Tryz.prog.globals.size + 1) mw = true) = ((.int .i64 0 : Value) = .int .i64 0 ∧ true = true) := by kernel_rfl
theorem op17 {base : World} (A : AtP base) : TotP base 9 [.string ⟨#[44]⟩] (.int .i64 0) := tot_closed all_good A (rulesK0_ok A) Tryz.func9 (by kernel_rfl) (by kernel_rfl) (by kernel_rfl) op17_run

set_option maxRecDepth 1000000 in
theorem op18_run (off : Nat) (spot : Option Nat) : (funcK (envP 241 wildsP rulesK0) 300 9 [.string ⟨#[102]⟩] (tabsE off spot) (Tryz.prog.globals.size + 1) fun u _ _ mw => u = .int .i64 0 ∧ Nat.ble (Tryz.prog.globals.size + 1) mw = true) = ((.int .i64 0 : Value) = .int .i64 0 ∧ true = true) := by kernel_rfl
theorem op18 {base : World} (A : AtP base) : TotP base 9 [.string ⟨#[102]⟩] (.int .i64 0) := tot_closed all_good A (rulesK0_ok A) Tryz.func9 (by kernel_rfl) (by kernel_rfl) (by kernel_rfl) op18_run

def tabOp : List (List Value × Value) := [([.string ⟨#[111, 114]⟩], .int .i64 1), ([.string ⟨#[97, 110, 100]⟩], .int .i64 2), ([.string ⟨#[61]⟩], .int .i64 3), ([.string ⟨#[33, 61]⟩], .int .i64 3), ([.string ⟨#[60]⟩], .int .i64 3), ([.string ⟨#[60, 61]⟩], .int .i64 3), ([.string ⟨#[62]⟩], .int .i64 3), ([.string ⟨#[62, 61]⟩], .int .i64 3), ([.string ⟨#[43]⟩], .int .i64 4), ([.string ⟨#[45]⟩], .int .i64 4), ([.string ⟨#[42]⟩], .int .i64 5), ([.string ⟨#[47]⟩], .int .i64 5), ([.string ⟨#[42, 42]⟩], .int .i64 6), ([.string ⟨#[40]⟩], .int .i64 0), ([.string ⟨#[41]⟩], .int .i64 0), ([.string ⟨#[91]⟩], .int .i64 0), ([.string ⟨#[93]⟩], .int .i64 0), ([.string ⟨#[44]⟩], .int .i64 0), ([.string ⟨#[102]⟩], .int .i64 0)]
theorem tabOp_ok {base : World} (A : AtP base) : RuleOk Tryz.prog base 9 (ruleTab tabOp) := ruleOk_tab (by
  unfold tabOp
  exact List.forall_mem_cons.2 ⟨op0 A, List.forall_mem_cons.2 ⟨op1 A, List.forall_mem_cons.2 ⟨op2 A, List.forall_mem_cons.2 ⟨op3 A, List.forall_mem_cons.2 ⟨op4 A, List.forall_mem_cons.2 ⟨op5 A, List.forall_mem_cons.2 ⟨op6 A, List.forall_mem_cons.2 ⟨op7 A, List.forall_mem_cons.2 ⟨op8 A, List.forall_mem_cons.2 ⟨op9 A, List.forall_mem_cons.2 ⟨op10 A, List.forall_mem_cons.2 ⟨op11 A, List.forall_mem_cons.2 ⟨op12 A, List.forall_mem_cons.2 ⟨op13 A, List.forall_mem_cons.2 ⟨op14 A, List.forall_mem_cons.2 ⟨op15 A, List.forall_mem_cons.2 ⟨op16 A, List.forall_mem_cons.2 ⟨op17 A, List.forall_mem_cons.2 ⟨op18 A, fun _ h => nomatch h⟩⟩⟩⟩⟩⟩⟩⟩⟩⟩⟩⟩⟩⟩⟩⟩⟩⟩⟩)

set_option maxRecDepth 1000000 in
theorem space32_run (off : Nat) (spot : Option Nat) : (funcK (envP 241 wildsP rulesK0) 300 72 [.int .i32 32] (tabsE off spot) (Tryz.prog.globals.size + 1) fun u _ _ mw => u = .bool true ∧ Nat.ble (Tryz.prog.globals.size + 1) mw = true) = ((.bool true : Value) = .bool true ∧ true = true) := by kernel_rfl
theorem space32 {base : World} (A : AtP base) : TotP base 72 [.int .i32 32] (.bool true) := tot_closed all_good A (rulesK0_ok A) Tryz.func72 (by kernel_rfl) (by kernel_rfl) (by kernel_rfl) space32_run

set_option maxRecDepth 1000000 in
theorem space33_run (off : Nat) (spot : Option Nat) : (funcK (envP 241 wildsP rulesK0) 300 72 [.int .i32 33] (tabsE off spot) (Tryz.prog.globals.size + 1) fun u _ _ mw => u = .bool false ∧ Nat.ble (Tryz.prog.globals.size + 1) mw = true) = ((.bool false : Value) = .bool false ∧ true = true) := by kernel_rfl
theorem space33 {base : World} (A : AtP base) : TotP base 72 [.int .i32 33] (.bool false) := tot_closed all_good A (rulesK0_ok A) Tryz.func72 (by kernel_rfl) (by kernel_rfl) (by kernel_rfl) space33_run

set_option maxRecDepth 1000000 in
theorem space40_run (off : Nat) (spot : Option Nat) : (funcK (envP 241 wildsP rulesK0) 300 72 [.int .i32 40] (tabsE off spot) (Tryz.prog.globals.size + 1) fun u _ _ mw => u = .bool false ∧ Nat.ble (Tryz.prog.globals.size + 1) mw = true) = ((.bool false : Value) = .bool false ∧ true = true) := by kernel_rfl
theorem space40 {base : World} (A : AtP base) : TotP base 72 [.int .i32 40] (.bool false) := tot_closed all_good A (rulesK0_ok A) Tryz.func72 (by kernel_rfl) (by kernel_rfl) (by kernel_rfl) space40_run

set_option maxRecDepth 1000000 in
theorem space41_run (off : Nat) (spot : Option Nat) : (funcK (envP 241 wildsP rulesK0) 300 72 [.int .i32 41] (tabsE off spot) (Tryz.prog.globals.size + 1) fun u _ _ mw => u = .bool false ∧ Nat.ble (Tryz.prog.globals.size + 1) mw = true) = ((.bool false : Value) = .bool false ∧ true = true) := by kernel_rfl
theorem space41 {base : World} (A : AtP base) : TotP base 72 [.int .i32 41] (.bool false) := tot_closed all_good A (rulesK0_ok A) Tryz.func72 (by kernel_rfl) (by kernel_rfl) (by kernel_rfl) space41_run

set_option maxRecDepth 1000000 in
theorem space42_run (off : Nat) (spot : Option Nat) : (funcK (envP 241 wildsP rulesK0) 300 72 [.int .i32 42] (tabsE off spot) (Tryz.prog.globals.size + 1) fun u _ _ mw => u = .bool false ∧ Nat.ble (Tryz.prog.globals.size + 1) mw = true) = ((.bool false : Value) = .bool false ∧ true = true) := by kernel_rfl
theorem space42 {base : World} (A : AtP base) : TotP base 72 [.int .i32 42] (.bool false) := tot_closed all_good A (rulesK0_ok A) Tryz.func72 (by kernel_rfl) (by kernel_rfl) (by kernel_rfl) space42_run

set_option maxRecDepth 1000000 in
theorem space43_run (off : Nat) (spot : Option Nat) : (funcK (envP 241 wildsP rulesK0) 300 72 [.int .i32 43] (tabsE off spot) (Tryz.prog.globals.size + 1) fun u _ _ mw => u = .bool false ∧ Nat.ble (Tryz.prog.globals.size + 1) mw = true) = ((.bool false : Value) = .bool false ∧ true = true) := by kernel_rfl
theorem space43 {base : World} (A : AtP base) : TotP base 72 [.int .i32 43] (.bool false) := tot_closed all_good A (rulesK0_ok A) Tryz.func72 (by kernel_rfl) (by kernel_rfl) (by kernel_rfl) space43_run

set_option maxRecDepth 1000000 in
theorem space44_run (off : Nat) (spot : Option Nat) : (funcK (envP 241 wildsP rulesK0) 300 72 [.int .i32 44] (tabsE off spot) (Tryz.prog.globals.size + 1) fun u _ _ mw => u = .bool false ∧ Nat.ble (Tryz.prog.globals.size + 1) mw = true) = ((.bool false : Value) = .bool false ∧ true = true) := by kernel_rfl
theorem space44 {base : World} (A : AtP base) : TotP base 72 [.int .i32 44] (.bool false) := tot_closed all_good A (rulesK0_ok A) Tryz.func72 (by kernel_rfl) (by kernel_rfl) (by kernel_rfl) space44_run

set_option maxRecDepth 1000000 in
theorem space45_run (off : Nat) (spot : Option Nat) : (funcK (envP 241 wildsP rulesK0) 300 72 [.int .i32 45] (tabsE off spot) (Tryz.prog.globals.size + 1) fun u _ _ mw => u = .bool false ∧ Nat.ble (Tryz.prog.globals.size + 1) mw = true) = ((.bool false : Value) = .bool false ∧ true = true) := by kernel_rfl
theorem space45 {base : World} (A : AtP base) : TotP base 72 [.int .i32 45] (.bool false) := tot_closed all_good A (rulesK0_ok A) Tryz.func72 (by kernel_rfl) (by kernel_rfl) (by kernel_rfl) space45_run

set_option maxRecDepth 1000000 in
theorem space47_run (off : Nat) (spot : Option Nat) : (funcK (envP 241 wildsP rulesK0) 300 72 [.int .i32 47] (tabsE off spot) (Tryz.prog.globals.size + 1) fun u _ _ mw => u = .bool false ∧ Nat.ble (Tryz.prog.globals.size + 1) mw = true) = ((.bool false : Value) = .bool false ∧ true = true) := by kernel_rfl
theorem space47 {base : World} (A : AtP base) : TotP base 72 [.int .i32 47] (.bool false) := tot_closed all_good A (rulesK0_ok A) Tryz.func72 (by kernel_rfl) (by kernel_rfl) (by kernel_rfl) space47_run

set_option maxRecDepth 1000000 in
theorem space49_run (off : Nat) (spot : Option Nat) : (funcK (envP 241 wildsP rulesK0) 300 72 [.int .i32 49] (tabsE off spot) (Tryz.prog.globals.size + 1) fun u _ _ mw => u = .bool false ∧ Nat.ble (Tryz.prog.globals.size + 1) mw = true) = ((.bool false : Value) = .bool false ∧ true = true) := by kernel_rfl
theorem space49 {base : World} (A : AtP base) : TotP base 72 [.int .i32 49] (.bool false) := tot_closed all_good A (rulesK0_ok A) Tryz.func72 (by kernel_rfl) (by kernel_rfl) (by kernel_rfl) space49_run

set_option maxRecDepth 1000000 in
theorem space50_run (off : Nat) (spot : Option Nat) : (funcK (envP 241 wildsP rulesK0) 300 72 [.int .i32 50] (tabsE off spot) (Tryz.prog.globals.size + 1) fun u _ _ mw => u = .bool false ∧ Nat.ble (Tryz.prog.globals.size + 1) mw = true) = ((.bool false : Value) = .bool false ∧ true = true) := by kernel_rfl
theorem space50 {base : World} (A : AtP base) : TotP base 72 [.int .i32 50] (.bool false) := tot_closed all_good A (rulesK0_ok A) Tryz.func72 (by kernel_rfl) (by kernel_rfl) (by kernel_rfl) space50_run

set_option maxRecDepth 1000000 in
theorem space51_run (off : Nat) (spot : Option Nat) : (funcK (envP 241 wildsP rulesK0) 300 72 [.int .i32 51] (tabsE off spot) (Tryz.prog.globals.size + 1) fun u _ _ mw => u = .bool false ∧ Nat.ble (Tryz.prog.globals.size + 1) mw = true) = ((.bool false : Value) = .bool false ∧ true = true) := by kernel_rfl
theorem space51 {base : World} (A : AtP base) : TotP base 72 [.int .i32 51] (.bool false) := tot_closed all_good A (rulesK0_ok A) Tryz.func72 (by kernel_rfl) (by kernel_rfl) (by kernel_rfl) space51_run

set_option maxRecDepth 1000000 in
theorem space60_run (off : Nat) (spot : Option Nat) : (funcK (envP 241 wildsP rulesK0) 300 72 [.int .i32 60] (tabsE off spot) (Tryz.prog.globals.size + 1) fun u _ _ mw => u = .bool false ∧ Nat.ble (Tryz.prog.globals.size + 1) mw = true) = ((.bool false : Value) = .bool false ∧ true = true) := by kernel_rfl
theorem space60 {base : World} (A : AtP base) : TotP base 72 [.int .i32 60] (.bool false) := tot_closed all_good A (rulesK0_ok A) Tryz.func72 (by kernel_rfl) (by kernel_rfl) (by kernel_rfl) space60_run

set_option maxRecDepth 1000000 in
theorem space61_run (off : Nat) (spot : Option Nat) : (funcK (envP 241 wildsP rulesK0) 300 72 [.int .i32 61] (tabsE off spot) (Tryz.prog.globals.size + 1) fun u _ _ mw => u = .bool false ∧ Nat.ble (Tryz.prog.globals.size + 1) mw = true) = ((.bool false : Value) = .bool false ∧ true = true) := by kernel_rfl
theorem space61 {base : World} (A : AtP base) : TotP base 72 [.int .i32 61] (.bool false) := tot_closed all_good A (rulesK0_ok A) Tryz.func72 (by kernel_rfl) (by kernel_rfl) (by kernel_rfl) space61_run

set_option maxRecDepth 1000000 in
theorem space62_run (off : Nat) (spot : Option Nat) : (funcK (envP 241 wildsP rulesK0) 300 72 [.int .i32 62] (tabsE off spot) (Tryz.prog.globals.size + 1) fun u _ _ mw => u = .bool false ∧ Nat.ble (Tryz.prog.globals.size + 1) mw = true) = ((.bool false : Value) = .bool false ∧ true = true) := by kernel_rfl
theorem space62 {base : World} (A : AtP base) : TotP base 72 [.int .i32 62] (.bool false) := tot_closed all_good A (rulesK0_ok A) Tryz.func72 (by kernel_rfl) (by kernel_rfl) (by kernel_rfl) space62_run

set_option maxRecDepth 1000000 in
theorem space91_run (off : Nat) (spot : Option Nat) : (funcK (envP 241 wildsP rulesK0) 300 72 [.int .i32 91] (tabsE off spot) (Tryz.prog.globals.size + 1) fun u _ _ mw => u = .bool false ∧ Nat.ble (Tryz.prog.globals.size + 1) mw = true) = ((.bool false : Value) = .bool false ∧ true = true) := by kernel_rfl
theorem space91 {base : World} (A : AtP base) : TotP base 72 [.int .i32 91] (.bool false) := tot_closed all_good A (rulesK0_ok A) Tryz.func72 (by kernel_rfl) (by kernel_rfl) (by kernel_rfl) space91_run

set_option maxRecDepth 1000000 in
theorem space93_run (off : Nat) (spot : Option Nat) : (funcK (envP 241 wildsP rulesK0) 300 72 [.int .i32 93] (tabsE off spot) (Tryz.prog.globals.size + 1) fun u _ _ mw => u = .bool false ∧ Nat.ble (Tryz.prog.globals.size + 1) mw = true) = ((.bool false : Value) = .bool false ∧ true = true) := by kernel_rfl
theorem space93 {base : World} (A : AtP base) : TotP base 72 [.int .i32 93] (.bool false) := tot_closed all_good A (rulesK0_ok A) Tryz.func72 (by kernel_rfl) (by kernel_rfl) (by kernel_rfl) space93_run

set_option maxRecDepth 1000000 in
theorem space97_run (off : Nat) (spot : Option Nat) : (funcK (envP 241 wildsP rulesK0) 300 72 [.int .i32 97] (tabsE off spot) (Tryz.prog.globals.size + 1) fun u _ _ mw => u = .bool false ∧ Nat.ble (Tryz.prog.globals.size + 1) mw = true) = ((.bool false : Value) = .bool false ∧ true = true) := by kernel_rfl
theorem space97 {base : World} (A : AtP base) : TotP base 72 [.int .i32 97] (.bool false) := tot_closed all_good A (rulesK0_ok A) Tryz.func72 (by kernel_rfl) (by kernel_rfl) (by kernel_rfl) space97_run

set_option maxRecDepth 1000000 in
theorem space100_run (off : Nat) (spot : Option Nat) : (funcK (envP 241 wildsP rulesK0) 300 72 [.int .i32 100] (tabsE off spot) (Tryz.prog.globals.size + 1) fun u _ _ mw => u = .bool false ∧ Nat.ble (Tryz.prog.globals.size + 1) mw = true) = ((.bool false : Value) = .bool false ∧ true = true) := by kernel_rfl
theorem space100 {base : World} (A : AtP base) : TotP base 72 [.int .i32 100] (.bool false) := tot_closed all_good A (rulesK0_ok A) Tryz.func72 (by kernel_rfl) (by kernel_rfl) (by kernel_rfl) space100_run

set_option maxRecDepth 1000000 in
theorem space102_run (off : Nat) (spot : Option Nat) : (funcK (envP 241 wildsP rulesK0) 300 72 [.int .i32 102] (tabsE off spot) (Tryz.prog.globals.size + 1) fun u _ _ mw => u = .bool false ∧ Nat.ble (Tryz.prog.globals.size + 1) mw = true) = ((.bool false : Value) = .bool false ∧ true = true) := by kernel_rfl
theorem space102 {base : World} (A : AtP base) : TotP base 72 [.int .i32 102] (.bool false) := tot_closed all_good A (rulesK0_ok A) Tryz.func72 (by kernel_rfl) (by kernel_rfl) (by kernel_rfl) space102_run

set_option maxRecDepth 1000000 in
theorem space110_run (off : Nat) (spot : Option Nat) : (funcK (envP 241 wildsP rulesK0) 300 72 [.int .i32 110] (tabsE off spot) (Tryz.prog.globals.size + 1) fun u _ _ mw => u = .bool false ∧ Nat.ble (Tryz.prog.globals.size + 1) mw = true) = ((.bool false : Value) = .bool false ∧ true = true) := by kernel_rfl
theorem space110 {base : World} (A : AtP base) : TotP base 72 [.int .i32 110] (.bool false) := tot_closed all_good A (rulesK0_ok A) Tryz.func72 (by kernel_rfl) (by kernel_rfl) (by kernel_rfl) space110_run

set_option maxRecDepth 1000000 in
theorem space111_run (off : Nat) (spot : Option Nat) : (funcK (envP 241 wildsP rulesK0) 300 72 [.int .i32 111] (tabsE off spot) (Tryz.prog.globals.size + 1) fun u _ _ mw => u = .bool false ∧ Nat.ble (Tryz.prog.globals.size + 1) mw = true) = ((.bool false : Value) = .bool false ∧ true = true) := by kernel_rfl
theorem space111 {base : World} (A : AtP base) : TotP base 72 [.int .i32 111] (.bool false) := tot_closed all_good A (rulesK0_ok A) Tryz.func72 (by kernel_rfl) (by kernel_rfl) (by kernel_rfl) space111_run

set_option maxRecDepth 1000000 in
theorem space114_run (off : Nat) (spot : Option Nat) : (funcK (envP 241 wildsP rulesK0) 300 72 [.int .i32 114] (tabsE off spot) (Tryz.prog.globals.size + 1) fun u _ _ mw => u = .bool false ∧ Nat.ble (Tryz.prog.globals.size + 1) mw = true) = ((.bool false : Value) = .bool false ∧ true = true) := by kernel_rfl
theorem space114 {base : World} (A : AtP base) : TotP base 72 [.int .i32 114] (.bool false) := tot_closed all_good A (rulesK0_ok A) Tryz.func72 (by kernel_rfl) (by kernel_rfl) (by kernel_rfl) space114_run

set_option maxRecDepth 1000000 in
theorem spacem_run (off : Nat) (spot : Option Nat) : (funcK (envP 241 wildsP rulesK0) 300 72 [.int .i32 (-1)] (tabsE off spot) (Tryz.prog.globals.size + 1) fun u _ _ mw => u = .bool false ∧ Nat.ble (Tryz.prog.globals.size + 1) mw = true) = ((.bool false : Value) = .bool false ∧ true = true) := by kernel_rfl
theorem spacem {base : World} (A : AtP base) : TotP base 72 [.int .i32 (-1)] (.bool false) := tot_closed all_good A (rulesK0_ok A) Tryz.func72 (by kernel_rfl) (by kernel_rfl) (by kernel_rfl) spacem_run

def tabSpace : List (List Value × Value) := [([.int .i32 32], .bool true), ([.int .i32 33], .bool false), ([.int .i32 40], .bool false), ([.int .i32 41], .bool false), ([.int .i32 42], .bool false), ([.int .i32 43], .bool false), ([.int .i32 44], .bool false), ([.int .i32 45], .bool false), ([.int .i32 47], .bool false), ([.int .i32 49], .bool false), ([.int .i32 50], .bool false), ([.int .i32 51], .bool false), ([.int .i32 60], .bool false), ([.int .i32 61], .bool false), ([.int .i32 62], .bool false), ([.int .i32 91], .bool false), ([.int .i32 93], .bool false), ([.int .i32 97], .bool false), ([.int .i32 100], .bool false), ([.int .i32 102], .bool false), ([.int .i32 110], .bool false), ([.int .i32 111], .bool false), ([.int .i32 114], .bool false), ([.int .i32 (-1)], .bool false)]
theorem tabSpace_ok {base : World} (A : AtP base) : RuleOk Tryz.prog base 72 (ruleTab tabSpace) := ruleOk_tab (by
  unfold tabSpace
  exact List.forall_mem_cons.2 ⟨space32 A, List.forall_mem_cons.2 ⟨space33 A, List.forall_mem_cons.2 ⟨space40 A, List.forall_mem_cons.2 ⟨space41 A, List.forall_mem_cons.2 ⟨space42 A, List.forall_mem_cons.2 ⟨space43 A, List.forall_mem_cons.2 ⟨space44 A, List.forall_mem_cons.2 ⟨space45 A, List.forall_mem_cons.2 ⟨space47 A, List.forall_mem_cons.2 ⟨space49 A, List.forall_mem_cons.2 ⟨space50 A, List.forall_mem_cons.2 ⟨space51 A, List.forall_mem_cons.2 ⟨space60 A, List.forall_mem_cons.2 ⟨space61 A, List.forall_mem_cons.2 ⟨space62 A, List.forall_mem_cons.2 ⟨space91 A, List.forall_mem_cons.2 ⟨space93 A, List.forall_mem_cons.2 ⟨space97 A, List.forall_mem_cons.2 ⟨space100 A, List.forall_mem_cons.2 ⟨space102 A, List.forall_mem_cons.2 ⟨space110 A, List.forall_mem_cons.2 ⟨space111 A, List.forall_mem_cons.2 ⟨space114 A, List.forall_mem_cons.2 ⟨spacem A, fun _ h => nomatch h⟩⟩⟩⟩⟩⟩⟩⟩⟩⟩⟩⟩⟩⟩⟩⟩⟩⟩⟩⟩⟩⟩⟩⟩)

set_option maxRecDepth 1000000 in
theorem letter32_run (off : Nat) (spot : Option Nat) : (funcK (envP 241 wildsP rulesK0) 300 77 [.int .i32 32] (tabsE off spot) (Tryz.prog.globals.size + 1) fun u _ _ mw => u = .bool false ∧ Nat.ble (Tryz.prog.globals.size + 1) mw = true) = ((.bool false : Value) = .bool false ∧ true = true) := by kernel_rfl
theorem letter32 {base : World} (A : AtP base) : TotP base 77 [.int .i32 32] (.bool false) := tot_closed all_good A (rulesK0_ok A) Tryz.func77 (by kernel_rfl) (by kernel_rfl) (by kernel_rfl) letter32_run

set_option maxRecDepth 1000000 in
theorem letter33_run (off : Nat) (spot : Option Nat) : (funcK (envP 241 wildsP rulesK0) 300 77 [.int .i32 33] (tabsE off spot) (Tryz.prog.globals.size + 1) fun u _ _ mw => u = .bool false ∧ Nat.ble (Tryz.prog.globals.size + 1) mw = true) = ((.bool false : Value) = .bool false ∧ true = true) := by kernel_rfl
theorem letter33 {base : World} (A : AtP base) : TotP base 77 [.int .i32 33] (.bool false) := tot_closed all_good A (rulesK0_ok A) Tryz.func77 (by kernel_rfl) (by kernel_rfl) (by kernel_rfl) letter33_run

set_option maxRecDepth 1000000 in
theorem letter40_run (off : Nat) (spot : Option Nat) : (funcK (envP 241 wildsP rulesK0) 300 77 [.int .i32 40] (tabsE off spot) (Tryz.prog.globals.size + 1) fun u _ _ mw => u = .bool false ∧ Nat.ble (Tryz.prog.globals.size + 1) mw = true) = ((.bool false : Value) = .bool false ∧ true = true) := by kernel_rfl
theorem letter40 {base : World} (A : AtP base) : TotP base 77 [.int .i32 40] (.bool false) := tot_closed all_good A (rulesK0_ok A) Tryz.func77 (by kernel_rfl) (by kernel_rfl) (by kernel_rfl) letter40_run

set_option maxRecDepth 1000000 in
theorem letter41_run (off : Nat) (spot : Option Nat) : (funcK (envP 241 wildsP rulesK0) 300 77 [.int .i32 41] (tabsE off spot) (Tryz.prog.globals.size + 1) fun u _ _ mw => u = .bool false ∧ Nat.ble (Tryz.prog.globals.size + 1) mw = true) = ((.bool false : Value) = .bool false ∧ true = true) := by kernel_rfl
theorem letter41 {base : World} (A : AtP base) : TotP base 77 [.int .i32 41] (.bool false) := tot_closed all_good A (rulesK0_ok A) Tryz.func77 (by kernel_rfl) (by kernel_rfl) (by kernel_rfl) letter41_run

set_option maxRecDepth 1000000 in
theorem letter42_run (off : Nat) (spot : Option Nat) : (funcK (envP 241 wildsP rulesK0) 300 77 [.int .i32 42] (tabsE off spot) (Tryz.prog.globals.size + 1) fun u _ _ mw => u = .bool false ∧ Nat.ble (Tryz.prog.globals.size + 1) mw = true) = ((.bool false : Value) = .bool false ∧ true = true) := by kernel_rfl
theorem letter42 {base : World} (A : AtP base) : TotP base 77 [.int .i32 42] (.bool false) := tot_closed all_good A (rulesK0_ok A) Tryz.func77 (by kernel_rfl) (by kernel_rfl) (by kernel_rfl) letter42_run

set_option maxRecDepth 1000000 in
theorem letter43_run (off : Nat) (spot : Option Nat) : (funcK (envP 241 wildsP rulesK0) 300 77 [.int .i32 43] (tabsE off spot) (Tryz.prog.globals.size + 1) fun u _ _ mw => u = .bool false ∧ Nat.ble (Tryz.prog.globals.size + 1) mw = true) = ((.bool false : Value) = .bool false ∧ true = true) := by kernel_rfl
theorem letter43 {base : World} (A : AtP base) : TotP base 77 [.int .i32 43] (.bool false) := tot_closed all_good A (rulesK0_ok A) Tryz.func77 (by kernel_rfl) (by kernel_rfl) (by kernel_rfl) letter43_run

set_option maxRecDepth 1000000 in
theorem letter44_run (off : Nat) (spot : Option Nat) : (funcK (envP 241 wildsP rulesK0) 300 77 [.int .i32 44] (tabsE off spot) (Tryz.prog.globals.size + 1) fun u _ _ mw => u = .bool false ∧ Nat.ble (Tryz.prog.globals.size + 1) mw = true) = ((.bool false : Value) = .bool false ∧ true = true) := by kernel_rfl
theorem letter44 {base : World} (A : AtP base) : TotP base 77 [.int .i32 44] (.bool false) := tot_closed all_good A (rulesK0_ok A) Tryz.func77 (by kernel_rfl) (by kernel_rfl) (by kernel_rfl) letter44_run

set_option maxRecDepth 1000000 in
theorem letter45_run (off : Nat) (spot : Option Nat) : (funcK (envP 241 wildsP rulesK0) 300 77 [.int .i32 45] (tabsE off spot) (Tryz.prog.globals.size + 1) fun u _ _ mw => u = .bool false ∧ Nat.ble (Tryz.prog.globals.size + 1) mw = true) = ((.bool false : Value) = .bool false ∧ true = true) := by kernel_rfl
theorem letter45 {base : World} (A : AtP base) : TotP base 77 [.int .i32 45] (.bool false) := tot_closed all_good A (rulesK0_ok A) Tryz.func77 (by kernel_rfl) (by kernel_rfl) (by kernel_rfl) letter45_run

set_option maxRecDepth 1000000 in
theorem letter47_run (off : Nat) (spot : Option Nat) : (funcK (envP 241 wildsP rulesK0) 300 77 [.int .i32 47] (tabsE off spot) (Tryz.prog.globals.size + 1) fun u _ _ mw => u = .bool false ∧ Nat.ble (Tryz.prog.globals.size + 1) mw = true) = ((.bool false : Value) = .bool false ∧ true = true) := by kernel_rfl
theorem letter47 {base : World} (A : AtP base) : TotP base 77 [.int .i32 47] (.bool false) := tot_closed all_good A (rulesK0_ok A) Tryz.func77 (by kernel_rfl) (by kernel_rfl) (by kernel_rfl) letter47_run

set_option maxRecDepth 1000000 in
theorem letter49_run (off : Nat) (spot : Option Nat) : (funcK (envP 241 wildsP rulesK0) 300 77 [.int .i32 49] (tabsE off spot) (Tryz.prog.globals.size + 1) fun u _ _ mw => u = .bool false ∧ Nat.ble (Tryz.prog.globals.size + 1) mw = true) = ((.bool false : Value) = .bool false ∧ true = true) := by kernel_rfl
theorem letter49 {base : World} (A : AtP base) : TotP base 77 [.int .i32 49] (.bool false) := tot_closed all_good A (rulesK0_ok A) Tryz.func77 (by kernel_rfl) (by kernel_rfl) (by kernel_rfl) letter49_run

set_option maxRecDepth 1000000 in
theorem letter50_run (off : Nat) (spot : Option Nat) : (funcK (envP 241 wildsP rulesK0) 300 77 [.int .i32 50] (tabsE off spot) (Tryz.prog.globals.size + 1) fun u _ _ mw => u = .bool false ∧ Nat.ble (Tryz.prog.globals.size + 1) mw = true) = ((.bool false : Value) = .bool false ∧ true = true) := by kernel_rfl
theorem letter50 {base : World} (A : AtP base) : TotP base 77 [.int .i32 50] (.bool false) := tot_closed all_good A (rulesK0_ok A) Tryz.func77 (by kernel_rfl) (by kernel_rfl) (by kernel_rfl) letter50_run

set_option maxRecDepth 1000000 in
theorem letter51_run (off : Nat) (spot : Option Nat) : (funcK (envP 241 wildsP rulesK0) 300 77 [.int .i32 51] (tabsE off spot) (Tryz.prog.globals.size + 1) fun u _ _ mw => u = .bool false ∧ Nat.ble (Tryz.prog.globals.size + 1) mw = true) = ((.bool false : Value) = .bool false ∧ true = true) := by kernel_rfl
theorem letter51 {base : World} (A : AtP base) : TotP base 77 [.int .i32 51] (.bool false) := tot_closed all_good A (rulesK0_ok A) Tryz.func77 (by kernel_rfl) (by kernel_rfl) (by kernel_rfl) letter51_run

set_option maxRecDepth 1000000 in
theorem letter60_run (off : Nat) (spot : Option Nat) : (funcK (envP 241 wildsP rulesK0) 300 77 [.int .i32 60] (tabsE off spot) (Tryz.prog.globals.size + 1) fun u _ _ mw => u = .bool false ∧ Nat.ble (Tryz.prog.globals.size + 1) mw = true) = ((.bool false : Value) = .bool false ∧ true = true) := by kernel_rfl
theorem letter60 {base : World} (A : AtP base) : TotP base 77 [.int .i32 60] (.bool false) := tot_closed all_good A (rulesK0_ok A) Tryz.func77 (by kernel_rfl) (by kernel_rfl) (by kernel_rfl) letter60_run

set_option maxRecDepth 1000000 in
theorem letter61_run (off : Nat) (spot : Option Nat) : (funcK (envP 241 wildsP rulesK0) 300 77 [.int .i32 61] (tabsE off spot) (Tryz.prog.globals.size + 1) fun u _ _ mw => u = .bool false ∧ Nat.ble (Tryz.prog.globals.size + 1) mw = true) = ((.bool false : Value) = .bool false ∧ true = true) := by kernel_rfl
theorem letter61 {base : World} (A : AtP base) : TotP base 77 [.int .i32 61] (.bool false) := tot_closed all_good A (rulesK0_ok A) Tryz.func77 (by kernel_rfl) (by kernel_rfl) (by kernel_rfl) letter61_run

set_option maxRecDepth 1000000 in
theorem letter62_run (off : Nat) (spot : Option Nat) : (funcK (envP 241 wildsP rulesK0) 300 77 [.int .i32 62] (tabsE off spot) (Tryz.prog.globals.size + 1) fun u _ _ mw => u = .bool false ∧ Nat.ble (Tryz.prog.globals.size + 1) mw = true) = ((.bool false : Value) = .bool false ∧ true = true) := by kernel_rfl
theorem letter62 {base : World} (A : AtP base) : TotP base 77 [.int .i32 62] (.bool false) := tot_closed all_good A (rulesK0_ok A) Tryz.func77 (by kernel_rfl) (by kernel_rfl) (by kernel_rfl) letter62_run

set_option maxRecDepth 1000000 in
theorem letter91_run (off : Nat) (spot : Option Nat) : (funcK (envP 241 wildsP rulesK0) 300 77 [.int .i32 91] (tabsE off spot) (Tryz.prog.globals.size + 1) fun u _ _ mw => u = .bool false ∧ Nat.ble (Tryz.prog.globals.size + 1) mw = true) = ((.bool false : Value) = .bool false ∧ true = true) := by kernel_rfl
theorem letter91 {base : World} (A : AtP base) : TotP base 77 [.int .i32 91] (.bool false) := tot_closed all_good A (rulesK0_ok A) Tryz.func77 (by kernel_rfl) (by kernel_rfl) (by kernel_rfl) letter91_run

set_option maxRecDepth 1000000 in
theorem letter93_run (off : Nat) (spot : Option Nat) : (funcK (envP 241 wildsP rulesK0) 300 77 [.int .i32 93] (tabsE off spot) (Tryz.prog.globals.size + 1) fun u _ _ mw => u = .bool false ∧ Nat.ble (Tryz.prog.globals.size + 1) mw = true) = ((.bool false : Value) = .bool false ∧ true = true) := by kernel_rfl
theorem letter93 {base : World} (A : AtP base) : TotP base 77 [.int .i32 93] (.bool false) := tot_closed all_good A (rulesK0_ok A) Tryz.func77 (by kernel_rfl) (by kernel_rfl) (by kernel_rfl) letter93_run

set_option maxRecDepth 1000000 in
theorem letter97_run (off : Nat) (spot : Option Nat) : (funcK (envP 241 wildsP rulesK0) 300 77 [.int .i32 97] (tabsE off spot) (Tryz.prog.globals.size + 1) fun u _ _ mw => u = .bool true ∧ Nat.ble (Tryz.prog.globals.size + 1) mw = true) = ((.bool true : Value) = .bool true ∧ true = true) := by kernel_rfl
theorem letter97 {base : World} (A : AtP base) : TotP base 77 [.int .i32 97] (.bool true) := tot_closed all_good A (rulesK0_ok A) Tryz.func77 (by kernel_rfl) (by kernel_rfl) (by kernel_rfl) letter97_run

set_option maxRecDepth 1000000 in
theorem letter100_run (off : Nat) (spot : Option Nat) : (funcK (envP 241 wildsP rulesK0) 300 77 [.int .i32 100] (tabsE off spot) (Tryz.prog.globals.size + 1) fun u _ _ mw => u = .bool true ∧ Nat.ble (Tryz.prog.globals.size + 1) mw = true) = ((.bool true : Value) = .bool true ∧ true = true) := by kernel_rfl
theorem letter100 {base : World} (A : AtP base) : TotP base 77 [.int .i32 100] (.bool true) := tot_closed all_good A (rulesK0_ok A) Tryz.func77 (by kernel_rfl) (by kernel_rfl) (by kernel_rfl) letter100_run

set_option maxRecDepth 1000000 in
theorem letter102_run (off : Nat) (spot : Option Nat) : (funcK (envP 241 wildsP rulesK0) 300 77 [.int .i32 102] (tabsE off spot) (Tryz.prog.globals.size + 1) fun u _ _ mw => u = .bool true ∧ Nat.ble (Tryz.prog.globals.size + 1) mw = true) = ((.bool true : Value) = .bool true ∧ true = true) := by kernel_rfl
theorem letter102 {base : World} (A : AtP base) : TotP base 77 [.int .i32 102] (.bool true) := tot_closed all_good A (rulesK0_ok A) Tryz.func77 (by kernel_rfl) (by kernel_rfl) (by kernel_rfl) letter102_run

set_option maxRecDepth 1000000 in
theorem letter110_run (off : Nat) (spot : Option Nat) : (funcK (envP 241 wildsP rulesK0) 300 77 [.int .i32 110] (tabsE off spot) (Tryz.prog.globals.size + 1) fun u _ _ mw => u = .bool true ∧ Nat.ble (Tryz.prog.globals.size + 1) mw = true) = ((.bool true : Value) = .bool true ∧ true = true) := by kernel_rfl
theorem letter110 {base : World} (A : AtP base) : TotP base 77 [.int .i32 110] (.bool true) := tot_closed all_good A (rulesK0_ok A) Tryz.func77 (by kernel_rfl) (by kernel_rfl) (by kernel_rfl) letter110_run

set_option maxRecDepth 1000000 in
theorem letter111_run (off : Nat) (spot : Option Nat) : (funcK (envP 241 wildsP rulesK0) 300 77 [.int .i32 111] (tabsE off spot) (Tryz.prog.globals.size + 1) fun u _ _ mw => u = .bool true ∧ Nat.ble (Tryz.prog.globals.size + 1) mw = true) = ((.bool true : Value) = .bool true ∧ true = true) := by kernel_rfl
theorem letter111 {base : World} (A : AtP base) : TotP base 77 [.int .i32 111] (.bool true) := tot_closed all_good A (rulesK0_ok A) Tryz.func77 (by kernel_rfl) (by kernel_rfl) (by kernel_rfl) letter111_run

set_option maxRecDepth 1000000 in
theorem letter114_run (off : Nat) (spot : Option Nat) : (funcK (envP 241 wildsP rulesK0) 300 77 [.int .i32 114] (tabsE off spot) (Tryz.prog.globals.size + 1) fun u _ _ mw => u = .bool true ∧ Nat.ble (Tryz.prog.globals.size + 1) mw = true) = ((.bool true : Value) = .bool true ∧ true = true) := by kernel_rfl
theorem letter114 {base : World} (A : AtP base) : TotP base 77 [.int .i32 114] (.bool true) := tot_closed all_good A (rulesK0_ok A) Tryz.func77 (by kernel_rfl) (by kernel_rfl) (by kernel_rfl) letter114_run

set_option maxRecDepth 1000000 in
theorem letterm_run (off : Nat) (spot : Option Nat) : (funcK (envP 241 wildsP rulesK0) 300 77 [.int .i32 (-1)] (tabsE off spot) (Tryz.prog.globals.size + 1) fun u _ _ mw => u = .bool false ∧ Nat.ble (Tryz.prog.globals.size + 1) mw = true) = ((.bool false : Value) = .bool false ∧ true = true) := by kernel_rfl
theorem letterm {base : World} (A : AtP base) : TotP base 77 [.int .i32 (-1)] (.bool false) := tot_closed all_good A (rulesK0_ok A) Tryz.func77 (by kernel_rfl) (by kernel_rfl) (by kernel_rfl) letterm_run

def tabLetter : List (List Value × Value) := [([.int .i32 32], .bool false), ([.int .i32 33], .bool false), ([.int .i32 40], .bool false), ([.int .i32 41], .bool false), ([.int .i32 42], .bool false), ([.int .i32 43], .bool false), ([.int .i32 44], .bool false), ([.int .i32 45], .bool false), ([.int .i32 47], .bool false), ([.int .i32 49], .bool false), ([.int .i32 50], .bool false), ([.int .i32 51], .bool false), ([.int .i32 60], .bool false), ([.int .i32 61], .bool false), ([.int .i32 62], .bool false), ([.int .i32 91], .bool false), ([.int .i32 93], .bool false), ([.int .i32 97], .bool true), ([.int .i32 100], .bool true), ([.int .i32 102], .bool true), ([.int .i32 110], .bool true), ([.int .i32 111], .bool true), ([.int .i32 114], .bool true), ([.int .i32 (-1)], .bool false)]
theorem tabLetter_ok {base : World} (A : AtP base) : RuleOk Tryz.prog base 77 (ruleTab tabLetter) := ruleOk_tab (by
  unfold tabLetter
  exact List.forall_mem_cons.2 ⟨letter32 A, List.forall_mem_cons.2 ⟨letter33 A, List.forall_mem_cons.2 ⟨letter40 A, List.forall_mem_cons.2 ⟨letter41 A, List.forall_mem_cons.2 ⟨letter42 A, List.forall_mem_cons.2 ⟨letter43 A, List.forall_mem_cons.2 ⟨letter44 A, List.forall_mem_cons.2 ⟨letter45 A, List.forall_mem_cons.2 ⟨letter47 A, List.forall_mem_cons.2 ⟨letter49 A, List.forall_mem_cons.2 ⟨letter50 A, List.forall_mem_cons.2 ⟨letter51 A, List.forall_mem_cons.2 ⟨letter60 A, List.forall_mem_cons.2 ⟨letter61 A, List.forall_mem_cons.2 ⟨letter62 A, List.forall_mem_cons.2 ⟨letter91 A, List.forall_mem_cons.2 ⟨letter93 A, List.forall_mem_cons.2 ⟨letter97 A, List.forall_mem_cons.2 ⟨letter100 A, List.forall_mem_cons.2 ⟨letter102 A, List.forall_mem_cons.2 ⟨letter110 A, List.forall_mem_cons.2 ⟨letter111 A, List.forall_mem_cons.2 ⟨letter114 A, List.forall_mem_cons.2 ⟨letterm A, fun _ h => nomatch h⟩⟩⟩⟩⟩⟩⟩⟩⟩⟩⟩⟩⟩⟩⟩⟩⟩⟩⟩⟩⟩⟩⟩⟩)

set_option maxRecDepth 1000000 in
theorem digit32_run (off : Nat) (spot : Option Nat) : (funcK (envP 241 wildsP rulesK0) 300 80 [.int .i32 32] (tabsE off spot) (Tryz.prog.globals.size + 1) fun u _ _ mw => u = .bool false ∧ Nat.ble (Tryz.prog.globals.size + 1) mw = true) = ((.bool false : Value) = .bool false ∧ true = true) := by kernel_rfl
theorem digit32 {base : World} (A : AtP base) : TotP base 80 [.int .i32 32] (.bool false) := tot_closed all_good A (rulesK0_ok A) Tryz.func80 (by kernel_rfl) (by kernel_rfl) (by kernel_rfl) digit32_run

set_option maxRecDepth 1000000 in
theorem digit33_run (off : Nat) (spot : Option Nat) : (funcK (envP 241 wildsP rulesK0) 300 80 [.int .i32 33] (tabsE off spot) (Tryz.prog.globals.size + 1) fun u _ _ mw => u = .bool false ∧ Nat.ble (Tryz.prog.globals.size + 1) mw = true) = ((.bool false : Value) = .bool false ∧ true = true) := by kernel_rfl
theorem digit33 {base : World} (A : AtP base) : TotP base 80 [.int .i32 33] (.bool false) := tot_closed all_good A (rulesK0_ok A) Tryz.func80 (by kernel_rfl) (by kernel_rfl) (by kernel_rfl) digit33_run

set_option maxRecDepth 1000000 in
theorem digit40_run (off : Nat) (spot : Option Nat) : (funcK (envP 241 wildsP rulesK0) 300 80 [.int .i32 40] (tabsE off spot) (Tryz.prog.globals.size + 1) fun u _ _ mw => u = .bool false ∧ Nat.ble (Tryz.prog.globals.size + 1) mw = true) = ((.bool false : Value) = .bool false ∧ true = true) := by kernel_rfl
theorem digit40 {base : World} (A : AtP base) : TotP base 80 [.int .i32 40] (.bool false) := tot_closed all_good A (rulesK0_ok A) Tryz.func80 (by kernel_rfl) (by kernel_rfl) (by kernel_rfl) digit40_run

set_option maxRecDepth 1000000 in
theorem digit41_run (off : Nat) (spot : Option Nat) : (funcK (envP 241 wildsP rulesK0) 300 80 [.int .i32 41] (tabsE off spot) (Tryz.prog.globals.size + 1) fun u _ _ mw => u = .bool false ∧ Nat.ble (Tryz.prog.globals.size + 1) mw = true) = ((.bool false : Value) = .bool false ∧ true = true) := by kernel_rfl
theorem digit41 {base : World} (A : AtP base) : TotP base 80 [.int .i32 41] (.bool false) := tot_closed all_good A (rulesK0_ok A) Tryz.func80 (by kernel_rfl) (by kernel_rfl) (by kernel_rfl) digit41_run

set_option maxRecDepth 1000000 in
theorem digit42_run (off : Nat) (spot : Option Nat) : (funcK (envP 241 wildsP rulesK0) 300 80 [.int .i32 42] (tabsE off spot) (Tryz.prog.globals.size + 1) fun u _ _ mw => u = .bool false ∧ Nat.ble (Tryz.prog.globals.size + 1) mw = true) = ((.bool false : Value) = .bool false ∧ true = true) := by kernel_rfl
theorem digit42 {base : World} (A : AtP base) : TotP base 80 [.int .i32 42] (.bool false) := tot_closed all_good A (rulesK0_ok A) Tryz.func80 (by kernel_rfl) (by kernel_rfl) (by kernel_rfl) digit42_run

set_option maxRecDepth 1000000 in
theorem digit43_run (off : Nat) (spot : Option Nat) : (funcK (envP 241 wildsP rulesK0) 300 80 [.int .i32 43] (tabsE off spot) (Tryz.prog.globals.size + 1) fun u _ _ mw => u = .bool false ∧ Nat.ble (Tryz.prog.globals.size + 1) mw = true) = ((.bool false : Value) = .bool false ∧ true = true) := by kernel_rfl
theorem digit43 {base : World} (A : AtP base) : TotP base 80 [.int .i32 43] (.bool false) := tot_closed all_good A (rulesK0_ok A) Tryz.func80 (by kernel_rfl) (by kernel_rfl) (by kernel_rfl) digit43_run

set_option maxRecDepth 1000000 in
theorem digit44_run (off : Nat) (spot : Option Nat) : (funcK (envP 241 wildsP rulesK0) 300 80 [.int .i32 44] (tabsE off spot) (Tryz.prog.globals.size + 1) fun u _ _ mw => u = .bool false ∧ Nat.ble (Tryz.prog.globals.size + 1) mw = true) = ((.bool false : Value) = .bool false ∧ true = true) := by kernel_rfl
theorem digit44 {base : World} (A : AtP base) : TotP base 80 [.int .i32 44] (.bool false) := tot_closed all_good A (rulesK0_ok A) Tryz.func80 (by kernel_rfl) (by kernel_rfl) (by kernel_rfl) digit44_run

set_option maxRecDepth 1000000 in
theorem digit45_run (off : Nat) (spot : Option Nat) : (funcK (envP 241 wildsP rulesK0) 300 80 [.int .i32 45] (tabsE off spot) (Tryz.prog.globals.size + 1) fun u _ _ mw => u = .bool false ∧ Nat.ble (Tryz.prog.globals.size + 1) mw = true) = ((.bool false : Value) = .bool false ∧ true = true) := by kernel_rfl
theorem digit45 {base : World} (A : AtP base) : TotP base 80 [.int .i32 45] (.bool false) := tot_closed all_good A (rulesK0_ok A) Tryz.func80 (by kernel_rfl) (by kernel_rfl) (by kernel_rfl) digit45_run

set_option maxRecDepth 1000000 in
theorem digit47_run (off : Nat) (spot : Option Nat) : (funcK (envP 241 wildsP rulesK0) 300 80 [.int .i32 47] (tabsE off spot) (Tryz.prog.globals.size + 1) fun u _ _ mw => u = .bool false ∧ Nat.ble (Tryz.prog.globals.size + 1) mw = true) = ((.bool false : Value) = .bool false ∧ true = true) := by kernel_rfl
theorem digit47 {base : World} (A : AtP base) : TotP base 80 [.int .i32 47] (.bool false) := tot_closed all_good A (rulesK0_ok A) Tryz.func80 (by kernel_rfl) (by kernel_rfl) (by kernel_rfl) digit47_run

set_option maxRecDepth 1000000 in
theorem digit49_run (off : Nat) (spot : Option Nat) : (funcK (envP 241 wildsP rulesK0) 300 80 [.int .i32 49] (tabsE off spot) (Tryz.prog.globals.size + 1) fun u _ _ mw => u = .bool true ∧ Nat.ble (Tryz.prog.globals.size + 1) mw = true) = ((.bool true : Value) = .bool true ∧ true = true) := by kernel_rfl
theorem digit49 {base : World} (A : AtP base) : TotP base 80 [.int .i32 49] (.bool true) := tot_closed all_good A (rulesK0_ok A) Tryz.func80 (by kernel_rfl) (by kernel_rfl) (by kernel_rfl) digit49_run

set_option maxRecDepth 1000000 in
theorem digit50_run (off : Nat) (spot : Option Nat) : (funcK (envP 241 wildsP rulesK0) 300 80 [.int .i32 50] (tabsE off spot) (Tryz.prog.globals.size + 1) fun u _ _ mw => u = .bool true ∧ Nat.ble (Tryz.prog.globals.size + 1) mw = true) = ((.bool true : Value) = .bool true ∧ true = true) := by kernel_rfl
theorem digit50 {base : World} (A : AtP base) : TotP base 80 [.int .i32 50] (.bool true) := tot_closed all_good A (rulesK0_ok A) Tryz.func80 (by kernel_rfl) (by kernel_rfl) (by kernel_rfl) digit50_run

set_option maxRecDepth 1000000 in
theorem digit51_run (off : Nat) (spot : Option Nat) : (funcK (envP 241 wildsP rulesK0) 300 80 [.int .i32 51] (tabsE off spot) (Tryz.prog.globals.size + 1) fun u _ _ mw => u = .bool true ∧ Nat.ble (Tryz.prog.globals.size + 1) mw = true) = ((.bool true : Value) = .bool true ∧ true = true) := by kernel_rfl
theorem digit51 {base : World} (A : AtP base) : TotP base 80 [.int .i32 51] (.bool true) := tot_closed all_good A (rulesK0_ok A) Tryz.func80 (by kernel_rfl) (by kernel_rfl) (by kernel_rfl) digit51_run

set_option maxRecDepth 1000000 in
theorem digit60_run (off : Nat) (spot : Option Nat) : (funcK (envP 241 wildsP rulesK0) 300 80 [.int .i32 60] (tabsE off spot) (Tryz.prog.globals.size + 1) fun u _ _ mw => u = .bool false ∧ Nat.ble (Tryz.prog.globals.size + 1) mw = true) = ((.bool false : Value) = .bool false ∧ true = true) := by kernel_rfl
theorem digit60 {base : World} (A : AtP base) : TotP base 80 [.int .i32 60] (.bool false) := tot_closed all_good A (rulesK0_ok A) Tryz.func80 (by kernel_rfl) (by kernel_rfl) (by kernel_rfl) digit60_run

set_option maxRecDepth 1000000 in
theorem digit61_run (off : Nat) (spot : Option Nat) : (funcK (envP 241 wildsP rulesK0) 300 80 [.int .i32 61] (tabsE off spot) (Tryz.prog.globals.size + 1) fun u _ _ mw => u = .bool false ∧ Nat.ble (Tryz.prog.globals.size + 1) mw = true) = ((.bool false : Value) = .bool false ∧ true = true) := by kernel_rfl
theorem digit61 {base : World} (A : AtP base) : TotP base 80 [.int .i32 61] (.bool false) := tot_closed all_good A (rulesK0_ok A) Tryz.func80 (by kernel_rfl) (by kernel_rfl) (by kernel_rfl) digit61_run

set_option maxRecDepth 1000000 in
theorem digit62_run (off : Nat) (spot : Option Nat) : (funcK (envP 241 wildsP rulesK0) 300 80 [.int .i32 62] (tabsE off spot) (Tryz.prog.globals.size + 1) fun u _ _ mw => u = .bool false ∧ Nat.ble (Tryz.prog.globals.size + 1) mw = true) = ((.bool false : Value) = .bool false ∧ true = true) := by kernel_rfl
theorem digit62 {base : World} (A : AtP base) : TotP base 80 [.int .i32 62] (.bool false) := tot_closed all_good A (rulesK0_ok A) Tryz.func80 (by kernel_rfl) (by kernel_rfl) (by kernel_rfl) digit62_run

set_option maxRecDepth 1000000 in
theorem digit91_run (off : Nat) (spot : Option Nat) : (funcK (envP 241 wildsP rulesK0) 300 80 [.int .i32 91] (tabsE off spot) (Tryz.prog.globals.size + 1) fun u _ _ mw => u = .bool false ∧ Nat.ble (Tryz.prog.globals.size + 1) mw = true) = ((.bool false : Value) = .bool false ∧ true = true) := by kernel_rfl
theorem digit91 {base : World} (A : AtP base) : TotP base 80 [.int .i32 91] (.bool false) := tot_closed all_good A (rulesK0_ok A) Tryz.func80 (by kernel_rfl) (by kernel_rfl) (by kernel_rfl) digit91_run

set_option maxRecDepth 1000000 in
theorem digit93_run (off : Nat) (spot : Option Nat) : (funcK (envP 241 wildsP rulesK0) 300 80 [.int .i32 93] (tabsE off spot) (Tryz.prog.globals.size + 1) fun u _ _ mw => u = .bool false ∧ Nat.ble (Tryz.prog.globals.size + 1) mw = true) = ((.bool false : Value) = .bool false ∧ true = true) := by kernel_rfl
theorem digit93 {base : World} (A : AtP base) : TotP base 80 [.int .i32 93] (.bool false) := tot_closed all_good A (rulesK0_ok A) Tryz.func80 (by kernel_rfl) (by kernel_rfl) (by kernel_rfl) digit93_run

set_option maxRecDepth 1000000 in
theorem digit97_run (off : Nat) (spot : Option Nat) : (funcK (envP 241 wildsP rulesK0) 300 80 [.int .i32 97] (tabsE off spot) (Tryz.prog.globals.size + 1) fun u _ _ mw => u = .bool false ∧ Nat.ble (Tryz.prog.globals.size + 1) mw = true) = ((.bool false : Value) = .bool false ∧ true = true) := by kernel_rfl
theorem digit97 {base : World} (A : AtP base) : TotP base 80 [.int .i32 97] (.bool false) := tot_closed all_good A (rulesK0_ok A) Tryz.func80 (by kernel_rfl) (by kernel_rfl) (by kernel_rfl) digit97_run

set_option maxRecDepth 1000000 in
theorem digit100_run (off : Nat) (spot : Option Nat) : (funcK (envP 241 wildsP rulesK0) 300 80 [.int .i32 100] (tabsE off spot) (Tryz.prog.globals.size + 1) fun u _ _ mw => u = .bool false ∧ Nat.ble (Tryz.prog.globals.size + 1) mw = true) = ((.bool false : Value) = .bool false ∧ true = true) := by kernel_rfl
theorem digit100 {base : World} (A : AtP base) : TotP base 80 [.int .i32 100] (.bool false) := tot_closed all_good A (rulesK0_ok A) Tryz.func80 (by kernel_rfl) (by kernel_rfl) (by kernel_rfl) digit100_run

set_option maxRecDepth 1000000 in
theorem digit102_run (off : Nat) (spot : Option Nat) : (funcK (envP 241 wildsP rulesK0) 300 80 [.int .i32 102] (tabsE off spot) (Tryz.prog.globals.size + 1) fun u _ _ mw => u = .bool false ∧ Nat.ble (Tryz.prog.globals.size + 1) mw = true) = ((.bool false : Value) = .bool false ∧ true = true) := by kernel_rfl
theorem digit102 {base : World} (A : AtP base) : TotP base 80 [.int .i32 102] (.bool false) := tot_closed all_good A (rulesK0_ok A) Tryz.func80 (by kernel_rfl) (by kernel_rfl) (by kernel_rfl) digit102_run

set_option maxRecDepth 1000000 in
theorem digit110_run (off : Nat) (spot : Option Nat) : (funcK (envP 241 wildsP rulesK0) 300 80 [.int .i32 110] (tabsE off spot) (Tryz.prog.globals.size + 1) fun u _ _ mw => u = .bool false ∧ Nat.ble (Tryz.prog.globals.size + 1) mw = true) = ((.bool false : Value) = .bool false ∧ true = true) := by kernel_rfl
theorem digit110 {base : World} (A : AtP base) : TotP base 80 [.int .i32 110] (.bool false) := tot_closed all_good A (rulesK0_ok A) Tryz.func80 (by kernel_rfl) (by kernel_rfl) (by kernel_rfl) digit110_run

set_option maxRecDepth 1000000 in
theorem digit111_run (off : Nat) (spot : Option Nat) : (funcK (envP 241 wildsP rulesK0) 300 80 [.int .i32 111] (tabsE off spot) (Tryz.prog.globals.size + 1) fun u _ _ mw => u = .bool false ∧ Nat.ble (Tryz.prog.globals.size + 1) mw = true) = ((.bool false : Value) = .bool false ∧ true = true) := by kernel_rfl
theorem digit111 {base : World} (A : AtP base) : TotP base 80 [.int .i32 111] (.bool false) := tot_closed all_good A (rulesK0_ok A) Tryz.func80 (by kernel_rfl) (by kernel_rfl) (by kernel_rfl) digit111_run

set_option maxRecDepth 1000000 in
theorem digit114_run (off : Nat) (spot : Option Nat) : (funcK (envP 241 wildsP rulesK0) 300 80 [.int .i32 114] (tabsE off spot) (Tryz.prog.globals.size + 1) fun u _ _ mw => u = .bool false ∧ Nat.ble (Tryz.prog.globals.size + 1) mw = true) = ((.bool false : Value) = .bool false ∧ true = true) := by kernel_rfl
theorem digit114 {base : World} (A : AtP base) : TotP base 80 [.int .i32 114] (.bool false) := tot_closed all_good A (rulesK0_ok A) Tryz.func80 (by kernel_rfl) (by kernel_rfl) (by kernel_rfl) digit114_run

set_option maxRecDepth 1000000 in
theorem digitm_run (off : Nat) (spot : Option Nat) : (funcK (envP 241 wildsP rulesK0) 300 80 [.int .i32 (-1)] (tabsE off spot) (Tryz.prog.globals.size + 1) fun u _ _ mw => u = .bool false ∧ Nat.ble (Tryz.prog.globals.size + 1) mw = true) = ((.bool false : Value) = .bool false ∧ true = true) := by kernel_rfl
theorem digitm {base : World} (A : AtP base) : TotP base 80 [.int .i32 (-1)] (.bool false) := tot_closed all_good A (rulesK0_ok A) Tryz.func80 (by kernel_rfl) (by kernel_rfl) (by kernel_rfl) digitm_run

def tabDigit : List (List Value × Value) := [([.int .i32 32], .bool false), ([.int .i32 33], .bool false), ([.int .i32 40], .bool false), ([.int .i32 41], .bool false), ([.int .i32 42], .bool false), ([.int .i32 43], .bool false), ([.int .i32 44], .bool false), ([.int .i32 45], .bool false), ([.int .i32 47], .bool false), ([.int .i32 49], .bool true), ([.int .i32 50], .bool true), ([.int .i32 51], .bool true), ([.int .i32 60], .bool false), ([.int .i32 61], .bool false), ([.int .i32 62], .bool false), ([.int .i32 91], .bool false), ([.int .i32 93], .bool false), ([.int .i32 97], .bool false), ([.int .i32 100], .bool false), ([.int .i32 102], .bool false), ([.int .i32 110], .bool false), ([.int .i32 111], .bool false), ([.int .i32 114], .bool false), ([.int .i32 (-1)], .bool false)]
theorem tabDigit_ok {base : World} (A : AtP base) : RuleOk Tryz.prog base 80 (ruleTab tabDigit) := ruleOk_tab (by
  unfold tabDigit
  exact List.forall_mem_cons.2 ⟨digit32 A, List.forall_mem_cons.2 ⟨digit33 A, List.forall_mem_cons.2 ⟨digit40 A, List.forall_mem_cons.2 ⟨digit41 A, List.forall_mem_cons.2 ⟨digit42 A, List.forall_mem_cons.2 ⟨digit43 A, List.forall_mem_cons.2 ⟨digit44 A, List.forall_mem_cons.2 ⟨digit45 A, List.forall_mem_cons.2 ⟨digit47 A, List.forall_mem_cons.2 ⟨digit49 A, List.forall_mem_cons.2 ⟨digit50 A, List.forall_mem_cons.2 ⟨digit51 A, List.forall_mem_cons.2 ⟨digit60 A, List.forall_mem_cons.2 ⟨digit61 A, List.forall_mem_cons.2 ⟨digit62 A, List.forall_mem_cons.2 ⟨digit91 A, List.forall_mem_cons.2 ⟨digit93 A, List.forall_mem_cons.2 ⟨digit97 A, List.forall_mem_cons.2 ⟨digit100 A, List.forall_mem_cons.2 ⟨digit102 A, List.forall_mem_cons.2 ⟨digit110 A, List.forall_mem_cons.2 ⟨digit111 A, List.forall_mem_cons.2 ⟨digit114 A, List.forall_mem_cons.2 ⟨digitm A, fun _ h => nomatch h⟩⟩⟩⟩⟩⟩⟩⟩⟩⟩⟩⟩⟩⟩⟩⟩⟩⟩⟩⟩⟩⟩⟩⟩)

noncomputable def rulesK2 : List (Nat × Rule) := (119, ruleTab tabRead) :: (9, ruleTab tabOp) :: (72, ruleTab tabSpace) :: (77, ruleTab tabLetter) :: (80, ruleTab tabDigit) :: rulesK1
theorem rulesK2_ok {base : World} (A : AtP base) : ∀ x ∈ rulesK2, RuleOk Tryz.prog base x.1 x.2 := List.forall_mem_cons.2 ⟨tabRead_ok A, List.forall_mem_cons.2 ⟨tabOp_ok A, List.forall_mem_cons.2 ⟨tabSpace_ok A, List.forall_mem_cons.2 ⟨tabLetter_ok A, List.forall_mem_cons.2 ⟨tabDigit_ok A, rulesK1_ok A⟩⟩⟩⟩⟩

end Go.Proofs.YtapmcocefoccdaaGreatDoor
