/-
  Closed runs of the checker's examples: every function's code is right; what small functions come to.
-/
import Derived.Test.YtamkkkkonigglaaGreatDoorCx
namespace Go.Proofs.YtamkkkkonigglaaGreatDoor
open Go Go.Pe Go.RowKit

set_option maxRecDepth 1000000 in
theorem all_good : allGood Tryz.prog 285 = true := by kernel_rfl

def wildsP : List Nat := [69, 120, 221, 194, 222, 162, 66, 119, 195, 164, 197, 65, 68]

theorem rulesB_okA {base : World} (_ : AtP base) : ∀ x ∈ rulesX, RuleOk Tryz.prog base x.1 x.2 := rulesX_ok base
noncomputable def rulesK0 : List (Nat × Rule) := rulesX
theorem rulesK0_ok {base : World} (A : AtP base) : ∀ x ∈ rulesK0, RuleOk Tryz.prog base x.1 x.2 := rulesB_okA A

set_option maxRecDepth 1000000 in
theorem shape1_run (off : Nat) (spot : Option Nat) : (funcK (envP 285 wildsP rulesK0) 300 112 [.string ⟨#[49]⟩] (tabsE off spot) (Tryz.prog.globals.size + 1) fun u _ _ mw => u = .bool true ∧ Nat.ble (Tryz.prog.globals.size + 1) mw = true) = ((.bool true : Value) = .bool true ∧ true = true) := by kernel_rfl
theorem shape1 {base : World} (A : AtP base) : TotP base 112 [.string ⟨#[49]⟩] (.bool true) := tot_closed all_good A (rulesK0_ok A) Tryz.func112 (by kernel_rfl) (by kernel_rfl) (by kernel_rfl) shape1_run

set_option maxRecDepth 1000000 in
theorem shape2_run (off : Nat) (spot : Option Nat) : (funcK (envP 285 wildsP rulesK0) 300 112 [.string ⟨#[50]⟩] (tabsE off spot) (Tryz.prog.globals.size + 1) fun u _ _ mw => u = .bool true ∧ Nat.ble (Tryz.prog.globals.size + 1) mw = true) = ((.bool true : Value) = .bool true ∧ true = true) := by kernel_rfl
theorem shape2 {base : World} (A : AtP base) : TotP base 112 [.string ⟨#[50]⟩] (.bool true) := tot_closed all_good A (rulesK0_ok A) Tryz.func112 (by kernel_rfl) (by kernel_rfl) (by kernel_rfl) shape2_run

def tabShape : List (List Value × Value) := [([.string ⟨#[49]⟩], .bool true), ([.string ⟨#[50]⟩], .bool true)]
theorem tabShape_ok {base : World} (A : AtP base) : RuleOk Tryz.prog base 112 (ruleTab tabShape) := ruleOk_tab (by
  unfold tabShape
  exact List.forall_mem_cons.2 ⟨shape1 A, List.forall_mem_cons.2 ⟨shape2 A, fun _ h => nomatch h⟩⟩)

set_option maxRecDepth 1000000 in
theorem text1_run (off : Nat) (spot : Option Nat) : (funcK (envP 285 wildsP rulesK0) 300 123 [.agg #[.bool false, .int .u64 0, .int .u64 1, .int .i64 0]] (tabsE off spot) (Tryz.prog.globals.size + 1) fun u _ _ mw => u = .string ⟨#[49]⟩ ∧ Nat.ble (Tryz.prog.globals.size + 1) mw = true) = ((.string ⟨#[49]⟩ : Value) = .string ⟨#[49]⟩ ∧ true = true) := by kernel_rfl
theorem text1 {base : World} (A : AtP base) : TotP base 123 [.agg #[.bool false, .int .u64 0, .int .u64 1, .int .i64 0]] (.string ⟨#[49]⟩) := tot_closed all_good A (rulesK0_ok A) Tryz.func123 (by kernel_rfl) (by kernel_rfl) (by kernel_rfl) text1_run

set_option maxRecDepth 1000000 in
theorem text2_run (off : Nat) (spot : Option Nat) : (funcK (envP 285 wildsP rulesK0) 300 123 [.agg #[.bool false, .int .u64 0, .int .u64 2, .int .i64 0]] (tabsE off spot) (Tryz.prog.globals.size + 1) fun u _ _ mw => u = .string ⟨#[50]⟩ ∧ Nat.ble (Tryz.prog.globals.size + 1) mw = true) = ((.string ⟨#[50]⟩ : Value) = .string ⟨#[50]⟩ ∧ true = true) := by kernel_rfl
theorem text2 {base : World} (A : AtP base) : TotP base 123 [.agg #[.bool false, .int .u64 0, .int .u64 2, .int .i64 0]] (.string ⟨#[50]⟩) := tot_closed all_good A (rulesK0_ok A) Tryz.func123 (by kernel_rfl) (by kernel_rfl) (by kernel_rfl) text2_run

def tabText : List (List Value × Value) := [([.agg #[.bool false, .int .u64 0, .int .u64 1, .int .i64 0]], .string ⟨#[49]⟩), ([.agg #[.bool false, .int .u64 0, .int .u64 2, .int .i64 0]], .string ⟨#[50]⟩)]
theorem tabText_ok {base : World} (A : AtP base) : RuleOk Tryz.prog base 123 (ruleTab tabText) := ruleOk_tab (by
  unfold tabText
  exact List.forall_mem_cons.2 ⟨text1 A, List.forall_mem_cons.2 ⟨text2 A, fun _ h => nomatch h⟩⟩)

noncomputable def rulesK1 : List (Nat × Rule) := (112, ruleTab tabShape) :: (123, ruleTab tabText) :: rulesK0
theorem rulesK1_ok {base : World} (A : AtP base) : ∀ x ∈ rulesK1, RuleOk Tryz.prog base x.1 x.2 := List.forall_mem_cons.2 ⟨tabShape_ok A, List.forall_mem_cons.2 ⟨tabText_ok A, rulesK0_ok A⟩⟩

set_option maxRecDepth 1000000 in
theorem read1_run (off : Nat) (spot : Option Nat) : (funcK (envP 285 wildsP rulesK1) 300 122 [.string ⟨#[49]⟩] (tabsE off spot) (Tryz.prog.globals.size + 1) fun u _ _ mw => u = .tuple #[.agg #[.bool false, .int .u64 0, .int .u64 1, .int .i64 0], .bool true] ∧ Nat.ble (Tryz.prog.globals.size + 1) mw = true) = ((.tuple #[.agg #[.bool false, .int .u64 0, .int .u64 1, .int .i64 0], .bool true] : Value) = .tuple #[.agg #[.bool false, .int .u64 0, .int .u64 1, .int .i64 0], .bool true] ∧ true = true) := by kernel_rfl
theorem read1 {base : World} (A : AtP base) : TotP base 122 [.string ⟨#[49]⟩] (.tuple #[.agg #[.bool false, .int .u64 0, .int .u64 1, .int .i64 0], .bool true]) := tot_closed all_good A (rulesK1_ok A) Tryz.func122 (by kernel_rfl) (by kernel_rfl) (by kernel_rfl) read1_run

set_option maxRecDepth 1000000 in
theorem read2_run (off : Nat) (spot : Option Nat) : (funcK (envP 285 wildsP rulesK1) 300 122 [.string ⟨#[50]⟩] (tabsE off spot) (Tryz.prog.globals.size + 1) fun u _ _ mw => u = .tuple #[.agg #[.bool false, .int .u64 0, .int .u64 2, .int .i64 0], .bool true] ∧ Nat.ble (Tryz.prog.globals.size + 1) mw = true) = ((.tuple #[.agg #[.bool false, .int .u64 0, .int .u64 2, .int .i64 0], .bool true] : Value) = .tuple #[.agg #[.bool false, .int .u64 0, .int .u64 2, .int .i64 0], .bool true] ∧ true = true) := by kernel_rfl
theorem read2 {base : World} (A : AtP base) : TotP base 122 [.string ⟨#[50]⟩] (.tuple #[.agg #[.bool false, .int .u64 0, .int .u64 2, .int .i64 0], .bool true]) := tot_closed all_good A (rulesK1_ok A) Tryz.func122 (by kernel_rfl) (by kernel_rfl) (by kernel_rfl) read2_run

def tabRead : List (List Value × Value) := [([.string ⟨#[49]⟩], .tuple #[.agg #[.bool false, .int .u64 0, .int .u64 1, .int .i64 0], .bool true]), ([.string ⟨#[50]⟩], .tuple #[.agg #[.bool false, .int .u64 0, .int .u64 2, .int .i64 0], .bool true])]
theorem tabRead_ok {base : World} (A : AtP base) : RuleOk Tryz.prog base 122 (ruleTab tabRead) := ruleOk_tab (by
  unfold tabRead
  exact List.forall_mem_cons.2 ⟨read1 A, List.forall_mem_cons.2 ⟨read2 A, fun _ h => nomatch h⟩⟩)

set_option maxRecDepth 1000000 in
theorem space32_run (off : Nat) (spot : Option Nat) : (funcK (envP 285 wildsP rulesK0) 300 102 [.int .i32 32] (tabsE off spot) (Tryz.prog.globals.size + 1) fun u _ _ mw => u = .bool true ∧ Nat.ble (Tryz.prog.globals.size + 1) mw = true) = ((.bool true : Value) = .bool true ∧ true = true) := by kernel_rfl
theorem space32 {base : World} (A : AtP base) : TotP base 102 [.int .i32 32] (.bool true) := tot_closed all_good A (rulesK0_ok A) Tryz.func102 (by kernel_rfl) (by kernel_rfl) (by kernel_rfl) space32_run

set_option maxRecDepth 1000000 in
theorem space34_run (off : Nat) (spot : Option Nat) : (funcK (envP 285 wildsP rulesK0) 300 102 [.int .i32 34] (tabsE off spot) (Tryz.prog.globals.size + 1) fun u _ _ mw => u = .bool false ∧ Nat.ble (Tryz.prog.globals.size + 1) mw = true) = ((.bool false : Value) = .bool false ∧ true = true) := by kernel_rfl
theorem space34 {base : World} (A : AtP base) : TotP base 102 [.int .i32 34] (.bool false) := tot_closed all_good A (rulesK0_ok A) Tryz.func102 (by kernel_rfl) (by kernel_rfl) (by kernel_rfl) space34_run

set_option maxRecDepth 1000000 in
theorem space40_run (off : Nat) (spot : Option Nat) : (funcK (envP 285 wildsP rulesK0) 300 102 [.int .i32 40] (tabsE off spot) (Tryz.prog.globals.size + 1) fun u _ _ mw => u = .bool false ∧ Nat.ble (Tryz.prog.globals.size + 1) mw = true) = ((.bool false : Value) = .bool false ∧ true = true) := by kernel_rfl
theorem space40 {base : World} (A : AtP base) : TotP base 102 [.int .i32 40] (.bool false) := tot_closed all_good A (rulesK0_ok A) Tryz.func102 (by kernel_rfl) (by kernel_rfl) (by kernel_rfl) space40_run

set_option maxRecDepth 1000000 in
theorem space41_run (off : Nat) (spot : Option Nat) : (funcK (envP 285 wildsP rulesK0) 300 102 [.int .i32 41] (tabsE off spot) (Tryz.prog.globals.size + 1) fun u _ _ mw => u = .bool false ∧ Nat.ble (Tryz.prog.globals.size + 1) mw = true) = ((.bool false : Value) = .bool false ∧ true = true) := by kernel_rfl
theorem space41 {base : World} (A : AtP base) : TotP base 102 [.int .i32 41] (.bool false) := tot_closed all_good A (rulesK0_ok A) Tryz.func102 (by kernel_rfl) (by kernel_rfl) (by kernel_rfl) space41_run

set_option maxRecDepth 1000000 in
theorem space43_run (off : Nat) (spot : Option Nat) : (funcK (envP 285 wildsP rulesK0) 300 102 [.int .i32 43] (tabsE off spot) (Tryz.prog.globals.size + 1) fun u _ _ mw => u = .bool false ∧ Nat.ble (Tryz.prog.globals.size + 1) mw = true) = ((.bool false : Value) = .bool false ∧ true = true) := by kernel_rfl
theorem space43 {base : World} (A : AtP base) : TotP base 102 [.int .i32 43] (.bool false) := tot_closed all_good A (rulesK0_ok A) Tryz.func102 (by kernel_rfl) (by kernel_rfl) (by kernel_rfl) space43_run

set_option maxRecDepth 1000000 in
theorem space44_run (off : Nat) (spot : Option Nat) : (funcK (envP 285 wildsP rulesK0) 300 102 [.int .i32 44] (tabsE off spot) (Tryz.prog.globals.size + 1) fun u _ _ mw => u = .bool false ∧ Nat.ble (Tryz.prog.globals.size + 1) mw = true) = ((.bool false : Value) = .bool false ∧ true = true) := by kernel_rfl
theorem space44 {base : World} (A : AtP base) : TotP base 102 [.int .i32 44] (.bool false) := tot_closed all_good A (rulesK0_ok A) Tryz.func102 (by kernel_rfl) (by kernel_rfl) (by kernel_rfl) space44_run

set_option maxRecDepth 1000000 in
theorem space49_run (off : Nat) (spot : Option Nat) : (funcK (envP 285 wildsP rulesK0) 300 102 [.int .i32 49] (tabsE off spot) (Tryz.prog.globals.size + 1) fun u _ _ mw => u = .bool false ∧ Nat.ble (Tryz.prog.globals.size + 1) mw = true) = ((.bool false : Value) = .bool false ∧ true = true) := by kernel_rfl
theorem space49 {base : World} (A : AtP base) : TotP base 102 [.int .i32 49] (.bool false) := tot_closed all_good A (rulesK0_ok A) Tryz.func102 (by kernel_rfl) (by kernel_rfl) (by kernel_rfl) space49_run

set_option maxRecDepth 1000000 in
theorem space50_run (off : Nat) (spot : Option Nat) : (funcK (envP 285 wildsP rulesK0) 300 102 [.int .i32 50] (tabsE off spot) (Tryz.prog.globals.size + 1) fun u _ _ mw => u = .bool false ∧ Nat.ble (Tryz.prog.globals.size + 1) mw = true) = ((.bool false : Value) = .bool false ∧ true = true) := by kernel_rfl
theorem space50 {base : World} (A : AtP base) : TotP base 102 [.int .i32 50] (.bool false) := tot_closed all_good A (rulesK0_ok A) Tryz.func102 (by kernel_rfl) (by kernel_rfl) (by kernel_rfl) space50_run

set_option maxRecDepth 1000000 in
theorem space58_run (off : Nat) (spot : Option Nat) : (funcK (envP 285 wildsP rulesK0) 300 102 [.int .i32 58] (tabsE off spot) (Tryz.prog.globals.size + 1) fun u _ _ mw => u = .bool false ∧ Nat.ble (Tryz.prog.globals.size + 1) mw = true) = ((.bool false : Value) = .bool false ∧ true = true) := by kernel_rfl
theorem space58 {base : World} (A : AtP base) : TotP base 102 [.int .i32 58] (.bool false) := tot_closed all_good A (rulesK0_ok A) Tryz.func102 (by kernel_rfl) (by kernel_rfl) (by kernel_rfl) space58_run

set_option maxRecDepth 1000000 in
theorem space91_run (off : Nat) (spot : Option Nat) : (funcK (envP 285 wildsP rulesK0) 300 102 [.int .i32 91] (tabsE off spot) (Tryz.prog.globals.size + 1) fun u _ _ mw => u = .bool false ∧ Nat.ble (Tryz.prog.globals.size + 1) mw = true) = ((.bool false : Value) = .bool false ∧ true = true) := by kernel_rfl
theorem space91 {base : World} (A : AtP base) : TotP base 102 [.int .i32 91] (.bool false) := tot_closed all_good A (rulesK0_ok A) Tryz.func102 (by kernel_rfl) (by kernel_rfl) (by kernel_rfl) space91_run

set_option maxRecDepth 1000000 in
theorem space93_run (off : Nat) (spot : Option Nat) : (funcK (envP 285 wildsP rulesK0) 300 102 [.int .i32 93] (tabsE off spot) (Tryz.prog.globals.size + 1) fun u _ _ mw => u = .bool false ∧ Nat.ble (Tryz.prog.globals.size + 1) mw = true) = ((.bool false : Value) = .bool false ∧ true = true) := by kernel_rfl
theorem space93 {base : World} (A : AtP base) : TotP base 102 [.int .i32 93] (.bool false) := tot_closed all_good A (rulesK0_ok A) Tryz.func102 (by kernel_rfl) (by kernel_rfl) (by kernel_rfl) space93_run

set_option maxRecDepth 1000000 in
theorem space97_run (off : Nat) (spot : Option Nat) : (funcK (envP 285 wildsP rulesK0) 300 102 [.int .i32 97] (tabsE off spot) (Tryz.prog.globals.size + 1) fun u _ _ mw => u = .bool false ∧ Nat.ble (Tryz.prog.globals.size + 1) mw = true) = ((.bool false : Value) = .bool false ∧ true = true) := by kernel_rfl
theorem space97 {base : World} (A : AtP base) : TotP base 102 [.int .i32 97] (.bool false) := tot_closed all_good A (rulesK0_ok A) Tryz.func102 (by kernel_rfl) (by kernel_rfl) (by kernel_rfl) space97_run

set_option maxRecDepth 1000000 in
theorem space98_run (off : Nat) (spot : Option Nat) : (funcK (envP 285 wildsP rulesK0) 300 102 [.int .i32 98] (tabsE off spot) (Tryz.prog.globals.size + 1) fun u _ _ mw => u = .bool false ∧ Nat.ble (Tryz.prog.globals.size + 1) mw = true) = ((.bool false : Value) = .bool false ∧ true = true) := by kernel_rfl
theorem space98 {base : World} (A : AtP base) : TotP base 102 [.int .i32 98] (.bool false) := tot_closed all_good A (rulesK0_ok A) Tryz.func102 (by kernel_rfl) (by kernel_rfl) (by kernel_rfl) space98_run

set_option maxRecDepth 1000000 in
theorem space99_run (off : Nat) (spot : Option Nat) : (funcK (envP 285 wildsP rulesK0) 300 102 [.int .i32 99] (tabsE off spot) (Tryz.prog.globals.size + 1) fun u _ _ mw => u = .bool false ∧ Nat.ble (Tryz.prog.globals.size + 1) mw = true) = ((.bool false : Value) = .bool false ∧ true = true) := by kernel_rfl
theorem space99 {base : World} (A : AtP base) : TotP base 102 [.int .i32 99] (.bool false) := tot_closed all_good A (rulesK0_ok A) Tryz.func102 (by kernel_rfl) (by kernel_rfl) (by kernel_rfl) space99_run

set_option maxRecDepth 1000000 in
theorem space100_run (off : Nat) (spot : Option Nat) : (funcK (envP 285 wildsP rulesK0) 300 102 [.int .i32 100] (tabsE off spot) (Tryz.prog.globals.size + 1) fun u _ _ mw => u = .bool false ∧ Nat.ble (Tryz.prog.globals.size + 1) mw = true) = ((.bool false : Value) = .bool false ∧ true = true) := by kernel_rfl
theorem space100 {base : World} (A : AtP base) : TotP base 102 [.int .i32 100] (.bool false) := tot_closed all_good A (rulesK0_ok A) Tryz.func102 (by kernel_rfl) (by kernel_rfl) (by kernel_rfl) space100_run

set_option maxRecDepth 1000000 in
theorem space101_run (off : Nat) (spot : Option Nat) : (funcK (envP 285 wildsP rulesK0) 300 102 [.int .i32 101] (tabsE off spot) (Tryz.prog.globals.size + 1) fun u _ _ mw => u = .bool false ∧ Nat.ble (Tryz.prog.globals.size + 1) mw = true) = ((.bool false : Value) = .bool false ∧ true = true) := by kernel_rfl
theorem space101 {base : World} (A : AtP base) : TotP base 102 [.int .i32 101] (.bool false) := tot_closed all_good A (rulesK0_ok A) Tryz.func102 (by kernel_rfl) (by kernel_rfl) (by kernel_rfl) space101_run

set_option maxRecDepth 1000000 in
theorem space102_run (off : Nat) (spot : Option Nat) : (funcK (envP 285 wildsP rulesK0) 300 102 [.int .i32 102] (tabsE off spot) (Tryz.prog.globals.size + 1) fun u _ _ mw => u = .bool false ∧ Nat.ble (Tryz.prog.globals.size + 1) mw = true) = ((.bool false : Value) = .bool false ∧ true = true) := by kernel_rfl
theorem space102 {base : World} (A : AtP base) : TotP base 102 [.int .i32 102] (.bool false) := tot_closed all_good A (rulesK0_ok A) Tryz.func102 (by kernel_rfl) (by kernel_rfl) (by kernel_rfl) space102_run

set_option maxRecDepth 1000000 in
theorem space103_run (off : Nat) (spot : Option Nat) : (funcK (envP 285 wildsP rulesK0) 300 102 [.int .i32 103] (tabsE off spot) (Tryz.prog.globals.size + 1) fun u _ _ mw => u = .bool false ∧ Nat.ble (Tryz.prog.globals.size + 1) mw = true) = ((.bool false : Value) = .bool false ∧ true = true) := by kernel_rfl
theorem space103 {base : World} (A : AtP base) : TotP base 102 [.int .i32 103] (.bool false) := tot_closed all_good A (rulesK0_ok A) Tryz.func102 (by kernel_rfl) (by kernel_rfl) (by kernel_rfl) space103_run

set_option maxRecDepth 1000000 in
theorem space104_run (off : Nat) (spot : Option Nat) : (funcK (envP 285 wildsP rulesK0) 300 102 [.int .i32 104] (tabsE off spot) (Tryz.prog.globals.size + 1) fun u _ _ mw => u = .bool false ∧ Nat.ble (Tryz.prog.globals.size + 1) mw = true) = ((.bool false : Value) = .bool false ∧ true = true) := by kernel_rfl
theorem space104 {base : World} (A : AtP base) : TotP base 102 [.int .i32 104] (.bool false) := tot_closed all_good A (rulesK0_ok A) Tryz.func102 (by kernel_rfl) (by kernel_rfl) (by kernel_rfl) space104_run

set_option maxRecDepth 1000000 in
theorem space105_run (off : Nat) (spot : Option Nat) : (funcK (envP 285 wildsP rulesK0) 300 102 [.int .i32 105] (tabsE off spot) (Tryz.prog.globals.size + 1) fun u _ _ mw => u = .bool false ∧ Nat.ble (Tryz.prog.globals.size + 1) mw = true) = ((.bool false : Value) = .bool false ∧ true = true) := by kernel_rfl
theorem space105 {base : World} (A : AtP base) : TotP base 102 [.int .i32 105] (.bool false) := tot_closed all_good A (rulesK0_ok A) Tryz.func102 (by kernel_rfl) (by kernel_rfl) (by kernel_rfl) space105_run

set_option maxRecDepth 1000000 in
theorem space106_run (off : Nat) (spot : Option Nat) : (funcK (envP 285 wildsP rulesK0) 300 102 [.int .i32 106] (tabsE off spot) (Tryz.prog.globals.size + 1) fun u _ _ mw => u = .bool false ∧ Nat.ble (Tryz.prog.globals.size + 1) mw = true) = ((.bool false : Value) = .bool false ∧ true = true) := by kernel_rfl
theorem space106 {base : World} (A : AtP base) : TotP base 102 [.int .i32 106] (.bool false) := tot_closed all_good A (rulesK0_ok A) Tryz.func102 (by kernel_rfl) (by kernel_rfl) (by kernel_rfl) space106_run

set_option maxRecDepth 1000000 in
theorem space107_run (off : Nat) (spot : Option Nat) : (funcK (envP 285 wildsP rulesK0) 300 102 [.int .i32 107] (tabsE off spot) (Tryz.prog.globals.size + 1) fun u _ _ mw => u = .bool false ∧ Nat.ble (Tryz.prog.globals.size + 1) mw = true) = ((.bool false : Value) = .bool false ∧ true = true) := by kernel_rfl
theorem space107 {base : World} (A : AtP base) : TotP base 102 [.int .i32 107] (.bool false) := tot_closed all_good A (rulesK0_ok A) Tryz.func102 (by kernel_rfl) (by kernel_rfl) (by kernel_rfl) space107_run

set_option maxRecDepth 1000000 in
theorem space108_run (off : Nat) (spot : Option Nat) : (funcK (envP 285 wildsP rulesK0) 300 102 [.int .i32 108] (tabsE off spot) (Tryz.prog.globals.size + 1) fun u _ _ mw => u = .bool false ∧ Nat.ble (Tryz.prog.globals.size + 1) mw = true) = ((.bool false : Value) = .bool false ∧ true = true) := by kernel_rfl
theorem space108 {base : World} (A : AtP base) : TotP base 102 [.int .i32 108] (.bool false) := tot_closed all_good A (rulesK0_ok A) Tryz.func102 (by kernel_rfl) (by kernel_rfl) (by kernel_rfl) space108_run

set_option maxRecDepth 1000000 in
theorem space109_run (off : Nat) (spot : Option Nat) : (funcK (envP 285 wildsP rulesK0) 300 102 [.int .i32 109] (tabsE off spot) (Tryz.prog.globals.size + 1) fun u _ _ mw => u = .bool false ∧ Nat.ble (Tryz.prog.globals.size + 1) mw = true) = ((.bool false : Value) = .bool false ∧ true = true) := by kernel_rfl
theorem space109 {base : World} (A : AtP base) : TotP base 102 [.int .i32 109] (.bool false) := tot_closed all_good A (rulesK0_ok A) Tryz.func102 (by kernel_rfl) (by kernel_rfl) (by kernel_rfl) space109_run

set_option maxRecDepth 1000000 in
theorem space110_run (off : Nat) (spot : Option Nat) : (funcK (envP 285 wildsP rulesK0) 300 102 [.int .i32 110] (tabsE off spot) (Tryz.prog.globals.size + 1) fun u _ _ mw => u = .bool false ∧ Nat.ble (Tryz.prog.globals.size + 1) mw = true) = ((.bool false : Value) = .bool false ∧ true = true) := by kernel_rfl
theorem space110 {base : World} (A : AtP base) : TotP base 102 [.int .i32 110] (.bool false) := tot_closed all_good A (rulesK0_ok A) Tryz.func102 (by kernel_rfl) (by kernel_rfl) (by kernel_rfl) space110_run

set_option maxRecDepth 1000000 in
theorem space111_run (off : Nat) (spot : Option Nat) : (funcK (envP 285 wildsP rulesK0) 300 102 [.int .i32 111] (tabsE off spot) (Tryz.prog.globals.size + 1) fun u _ _ mw => u = .bool false ∧ Nat.ble (Tryz.prog.globals.size + 1) mw = true) = ((.bool false : Value) = .bool false ∧ true = true) := by kernel_rfl
theorem space111 {base : World} (A : AtP base) : TotP base 102 [.int .i32 111] (.bool false) := tot_closed all_good A (rulesK0_ok A) Tryz.func102 (by kernel_rfl) (by kernel_rfl) (by kernel_rfl) space111_run

set_option maxRecDepth 1000000 in
theorem space112_run (off : Nat) (spot : Option Nat) : (funcK (envP 285 wildsP rulesK0) 300 102 [.int .i32 112] (tabsE off spot) (Tryz.prog.globals.size + 1) fun u _ _ mw => u = .bool false ∧ Nat.ble (Tryz.prog.globals.size + 1) mw = true) = ((.bool false : Value) = .bool false ∧ true = true) := by kernel_rfl
theorem space112 {base : World} (A : AtP base) : TotP base 102 [.int .i32 112] (.bool false) := tot_closed all_good A (rulesK0_ok A) Tryz.func102 (by kernel_rfl) (by kernel_rfl) (by kernel_rfl) space112_run

set_option maxRecDepth 1000000 in
theorem space113_run (off : Nat) (spot : Option Nat) : (funcK (envP 285 wildsP rulesK0) 300 102 [.int .i32 113] (tabsE off spot) (Tryz.prog.globals.size + 1) fun u _ _ mw => u = .bool false ∧ Nat.ble (Tryz.prog.globals.size + 1) mw = true) = ((.bool false : Value) = .bool false ∧ true = true) := by kernel_rfl
theorem space113 {base : World} (A : AtP base) : TotP base 102 [.int .i32 113] (.bool false) := tot_closed all_good A (rulesK0_ok A) Tryz.func102 (by kernel_rfl) (by kernel_rfl) (by kernel_rfl) space113_run

set_option maxRecDepth 1000000 in
theorem space114_run (off : Nat) (spot : Option Nat) : (funcK (envP 285 wildsP rulesK0) 300 102 [.int .i32 114] (tabsE off spot) (Tryz.prog.globals.size + 1) fun u _ _ mw => u = .bool false ∧ Nat.ble (Tryz.prog.globals.size + 1) mw = true) = ((.bool false : Value) = .bool false ∧ true = true) := by kernel_rfl
theorem space114 {base : World} (A : AtP base) : TotP base 102 [.int .i32 114] (.bool false) := tot_closed all_good A (rulesK0_ok A) Tryz.func102 (by kernel_rfl) (by kernel_rfl) (by kernel_rfl) space114_run

set_option maxRecDepth 1000000 in
theorem space115_run (off : Nat) (spot : Option Nat) : (funcK (envP 285 wildsP rulesK0) 300 102 [.int .i32 115] (tabsE off spot) (Tryz.prog.globals.size + 1) fun u _ _ mw => u = .bool false ∧ Nat.ble (Tryz.prog.globals.size + 1) mw = true) = ((.bool false : Value) = .bool false ∧ true = true) := by kernel_rfl
theorem space115 {base : World} (A : AtP base) : TotP base 102 [.int .i32 115] (.bool false) := tot_closed all_good A (rulesK0_ok A) Tryz.func102 (by kernel_rfl) (by kernel_rfl) (by kernel_rfl) space115_run

set_option maxRecDepth 1000000 in
theorem space116_run (off : Nat) (spot : Option Nat) : (funcK (envP 285 wildsP rulesK0) 300 102 [.int .i32 116] (tabsE off spot) (Tryz.prog.globals.size + 1) fun u _ _ mw => u = .bool false ∧ Nat.ble (Tryz.prog.globals.size + 1) mw = true) = ((.bool false : Value) = .bool false ∧ true = true) := by kernel_rfl
theorem space116 {base : World} (A : AtP base) : TotP base 102 [.int .i32 116] (.bool false) := tot_closed all_good A (rulesK0_ok A) Tryz.func102 (by kernel_rfl) (by kernel_rfl) (by kernel_rfl) space116_run

set_option maxRecDepth 1000000 in
theorem space117_run (off : Nat) (spot : Option Nat) : (funcK (envP 285 wildsP rulesK0) 300 102 [.int .i32 117] (tabsE off spot) (Tryz.prog.globals.size + 1) fun u _ _ mw => u = .bool false ∧ Nat.ble (Tryz.prog.globals.size + 1) mw = true) = ((.bool false : Value) = .bool false ∧ true = true) := by kernel_rfl
theorem space117 {base : World} (A : AtP base) : TotP base 102 [.int .i32 117] (.bool false) := tot_closed all_good A (rulesK0_ok A) Tryz.func102 (by kernel_rfl) (by kernel_rfl) (by kernel_rfl) space117_run

set_option maxRecDepth 1000000 in
theorem space118_run (off : Nat) (spot : Option Nat) : (funcK (envP 285 wildsP rulesK0) 300 102 [.int .i32 118] (tabsE off spot) (Tryz.prog.globals.size + 1) fun u _ _ mw => u = .bool false ∧ Nat.ble (Tryz.prog.globals.size + 1) mw = true) = ((.bool false : Value) = .bool false ∧ true = true) := by kernel_rfl
theorem space118 {base : World} (A : AtP base) : TotP base 102 [.int .i32 118] (.bool false) := tot_closed all_good A (rulesK0_ok A) Tryz.func102 (by kernel_rfl) (by kernel_rfl) (by kernel_rfl) space118_run

set_option maxRecDepth 1000000 in
theorem space119_run (off : Nat) (spot : Option Nat) : (funcK (envP 285 wildsP rulesK0) 300 102 [.int .i32 119] (tabsE off spot) (Tryz.prog.globals.size + 1) fun u _ _ mw => u = .bool false ∧ Nat.ble (Tryz.prog.globals.size + 1) mw = true) = ((.bool false : Value) = .bool false ∧ true = true) := by kernel_rfl
theorem space119 {base : World} (A : AtP base) : TotP base 102 [.int .i32 119] (.bool false) := tot_closed all_good A (rulesK0_ok A) Tryz.func102 (by kernel_rfl) (by kernel_rfl) (by kernel_rfl) space119_run

set_option maxRecDepth 1000000 in
theorem space120_run (off : Nat) (spot : Option Nat) : (funcK (envP 285 wildsP rulesK0) 300 102 [.int .i32 120] (tabsE off spot) (Tryz.prog.globals.size + 1) fun u _ _ mw => u = .bool false ∧ Nat.ble (Tryz.prog.globals.size + 1) mw = true) = ((.bool false : Value) = .bool false ∧ true = true) := by kernel_rfl
theorem space120 {base : World} (A : AtP base) : TotP base 102 [.int .i32 120] (.bool false) := tot_closed all_good A (rulesK0_ok A) Tryz.func102 (by kernel_rfl) (by kernel_rfl) (by kernel_rfl) space120_run

set_option maxRecDepth 1000000 in
theorem space121_run (off : Nat) (spot : Option Nat) : (funcK (envP 285 wildsP rulesK0) 300 102 [.int .i32 121] (tabsE off spot) (Tryz.prog.globals.size + 1) fun u _ _ mw => u = .bool false ∧ Nat.ble (Tryz.prog.globals.size + 1) mw = true) = ((.bool false : Value) = .bool false ∧ true = true) := by kernel_rfl
theorem space121 {base : World} (A : AtP base) : TotP base 102 [.int .i32 121] (.bool false) := tot_closed all_good A (rulesK0_ok A) Tryz.func102 (by kernel_rfl) (by kernel_rfl) (by kernel_rfl) space121_run

set_option maxRecDepth 1000000 in
theorem spacem_run (off : Nat) (spot : Option Nat) : (funcK (envP 285 wildsP rulesK0) 300 102 [.int .i32 (-1)] (tabsE off spot) (Tryz.prog.globals.size + 1) fun u _ _ mw => u = .bool false ∧ Nat.ble (Tryz.prog.globals.size + 1) mw = true) = ((.bool false : Value) = .bool false ∧ true = true) := by kernel_rfl
theorem spacem {base : World} (A : AtP base) : TotP base 102 [.int .i32 (-1)] (.bool false) := tot_closed all_good A (rulesK0_ok A) Tryz.func102 (by kernel_rfl) (by kernel_rfl) (by kernel_rfl) spacem_run

def tabSpace : List (List Value × Value) := [([.int .i32 32], .bool true), ([.int .i32 34], .bool false), ([.int .i32 40], .bool false), ([.int .i32 41], .bool false), ([.int .i32 43], .bool false), ([.int .i32 44], .bool false), ([.int .i32 49], .bool false), ([.int .i32 50], .bool false), ([.int .i32 58], .bool false), ([.int .i32 91], .bool false), ([.int .i32 93], .bool false), ([.int .i32 97], .bool false), ([.int .i32 98], .bool false), ([.int .i32 99], .bool false), ([.int .i32 100], .bool false), ([.int .i32 101], .bool false), ([.int .i32 102], .bool false), ([.int .i32 103], .bool false), ([.int .i32 104], .bool false), ([.int .i32 105], .bool false), ([.int .i32 106], .bool false), ([.int .i32 107], .bool false), ([.int .i32 108], .bool false), ([.int .i32 109], .bool false), ([.int .i32 110], .bool false), ([.int .i32 111], .bool false), ([.int .i32 112], .bool false), ([.int .i32 113], .bool false), ([.int .i32 114], .bool false), ([.int .i32 115], .bool false), ([.int .i32 116], .bool false), ([.int .i32 117], .bool false), ([.int .i32 118], .bool false), ([.int .i32 119], .bool false), ([.int .i32 120], .bool false), ([.int .i32 121], .bool false), ([.int .i32 (-1)], .bool false)]
theorem tabSpace_ok {base : World} (A : AtP base) : RuleOk Tryz.prog base 102 (ruleTab tabSpace) := ruleOk_tab (by
  unfold tabSpace
  exact List.forall_mem_cons.2 ⟨space32 A, List.forall_mem_cons.2 ⟨space34 A, List.forall_mem_cons.2 ⟨space40 A, List.forall_mem_cons.2 ⟨space41 A, List.forall_mem_cons.2 ⟨space43 A, List.forall_mem_cons.2 ⟨space44 A, List.forall_mem_cons.2 ⟨space49 A, List.forall_mem_cons.2 ⟨space50 A, List.forall_mem_cons.2 ⟨space58 A, List.forall_mem_cons.2 ⟨space91 A, List.forall_mem_cons.2 ⟨space93 A, List.forall_mem_cons.2 ⟨space97 A, List.forall_mem_cons.2 ⟨space98 A, List.forall_mem_cons.2 ⟨space99 A, List.forall_mem_cons.2 ⟨space100 A, List.forall_mem_cons.2 ⟨space101 A, List.forall_mem_cons.2 ⟨space102 A, List.forall_mem_cons.2 ⟨space103 A, List.forall_mem_cons.2 ⟨space104 A, List.forall_mem_cons.2 ⟨space105 A, List.forall_mem_cons.2 ⟨space106 A, List.forall_mem_cons.2 ⟨space107 A, List.forall_mem_cons.2 ⟨space108 A, List.forall_mem_cons.2 ⟨space109 A, List.forall_mem_cons.2 ⟨space110 A, List.forall_mem_cons.2 ⟨space111 A, List.forall_mem_cons.2 ⟨space112 A, List.forall_mem_cons.2 ⟨space113 A, List.forall_mem_cons.2 ⟨space114 A, List.forall_mem_cons.2 ⟨space115 A, List.forall_mem_cons.2 ⟨space116 A, List.forall_mem_cons.2 ⟨space117 A, List.forall_mem_cons.2 ⟨space118 A, List.forall_mem_cons.2 ⟨space119 A, List.forall_mem_cons.2 ⟨space120 A, List.forall_mem_cons.2 ⟨space121 A, List.forall_mem_cons.2 ⟨spacem A, fun _ h => nomatch h⟩⟩⟩⟩⟩⟩⟩⟩⟩⟩⟩⟩⟩⟩⟩⟩⟩⟩⟩⟩⟩⟩⟩⟩⟩⟩⟩⟩⟩⟩⟩⟩⟩⟩⟩⟩⟩)

set_option maxRecDepth 1000000 in
theorem letter32_run (off : Nat) (spot : Option Nat) : (funcK (envP 285 wildsP rulesK0) 300 107 [.int .i32 32] (tabsE off spot) (Tryz.prog.globals.size + 1) fun u _ _ mw => u = .bool false ∧ Nat.ble (Tryz.prog.globals.size + 1) mw = true) = ((.bool false : Value) = .bool false ∧ true = true) := by kernel_rfl
theorem letter32 {base : World} (A : AtP base) : TotP base 107 [.int .i32 32] (.bool false) := tot_closed all_good A (rulesK0_ok A) Tryz.func107 (by kernel_rfl) (by kernel_rfl) (by kernel_rfl) letter32_run

set_option maxRecDepth 1000000 in
theorem letter34_run (off : Nat) (spot : Option Nat) : (funcK (envP 285 wildsP rulesK0) 300 107 [.int .i32 34] (tabsE off spot) (Tryz.prog.globals.size + 1) fun u _ _ mw => u = .bool false ∧ Nat.ble (Tryz.prog.globals.size + 1) mw = true) = ((.bool false : Value) = .bool false ∧ true = true) := by kernel_rfl
theorem letter34 {base : World} (A : AtP base) : TotP base 107 [.int .i32 34] (.bool false) := tot_closed all_good A (rulesK0_ok A) Tryz.func107 (by kernel_rfl) (by kernel_rfl) (by kernel_rfl) letter34_run

set_option maxRecDepth 1000000 in
theorem letter40_run (off : Nat) (spot : Option Nat) : (funcK (envP 285 wildsP rulesK0) 300 107 [.int .i32 40] (tabsE off spot) (Tryz.prog.globals.size + 1) fun u _ _ mw => u = .bool false ∧ Nat.ble (Tryz.prog.globals.size + 1) mw = true) = ((.bool false : Value) = .bool false ∧ true = true) := by kernel_rfl
theorem letter40 {base : World} (A : AtP base) : TotP base 107 [.int .i32 40] (.bool false) := tot_closed all_good A (rulesK0_ok A) Tryz.func107 (by kernel_rfl) (by kernel_rfl) (by kernel_rfl) letter40_run

set_option maxRecDepth 1000000 in
theorem letter41_run (off : Nat) (spot : Option Nat) : (funcK (envP 285 wildsP rulesK0) 300 107 [.int .i32 41] (tabsE off spot) (Tryz.prog.globals.size + 1) fun u _ _ mw => u = .bool false ∧ Nat.ble (Tryz.prog.globals.size + 1) mw = true) = ((.bool false : Value) = .bool false ∧ true = true) := by kernel_rfl
theorem letter41 {base : World} (A : AtP base) : TotP base 107 [.int .i32 41] (.bool false) := tot_closed all_good A (rulesK0_ok A) Tryz.func107 (by kernel_rfl) (by kernel_rfl) (by kernel_rfl) letter41_run

set_option maxRecDepth 1000000 in
theorem letter43_run (off : Nat) (spot : Option Nat) : (funcK (envP 285 wildsP rulesK0) 300 107 [.int .i32 43] (tabsE off spot) (Tryz.prog.globals.size + 1) fun u _ _ mw => u = .bool false ∧ Nat.ble (Tryz.prog.globals.size + 1) mw = true) = ((.bool false : Value) = .bool false ∧ true = true) := by kernel_rfl
theorem letter43 {base : World} (A : AtP base) : TotP base 107 [.int .i32 43] (.bool false) := tot_closed all_good A (rulesK0_ok A) Tryz.func107 (by kernel_rfl) (by kernel_rfl) (by kernel_rfl) letter43_run

set_option maxRecDepth 1000000 in
theorem letter44_run (off : Nat) (spot : Option Nat) : (funcK (envP 285 wildsP rulesK0) 300 107 [.int .i32 44] (tabsE off spot) (Tryz.prog.globals.size + 1) fun u _ _ mw => u = .bool false ∧ Nat.ble (Tryz.prog.globals.size + 1) mw = true) = ((.bool false : Value) = .bool false ∧ true = true) := by kernel_rfl
theorem letter44 {base : World} (A : AtP base) : TotP base 107 [.int .i32 44] (.bool false) := tot_closed all_good A (rulesK0_ok A) Tryz.func107 (by kernel_rfl) (by kernel_rfl) (by kernel_rfl) letter44_run

set_option maxRecDepth 1000000 in
theorem letter49_run (off : Nat) (spot : Option Nat) : (funcK (envP 285 wildsP rulesK0) 300 107 [.int .i32 49] (tabsE off spot) (Tryz.prog.globals.size + 1) fun u _ _ mw => u = .bool false ∧ Nat.ble (Tryz.prog.globals.size + 1) mw = true) = ((.bool false : Value) = .bool false ∧ true = true) := by kernel_rfl
theorem letter49 {base : World} (A : AtP base) : TotP base 107 [.int .i32 49] (.bool false) := tot_closed all_good A (rulesK0_ok A) Tryz.func107 (by kernel_rfl) (by kernel_rfl) (by kernel_rfl) letter49_run

set_option maxRecDepth 1000000 in
theorem letter50_run (off : Nat) (spot : Option Nat) : (funcK (envP 285 wildsP rulesK0) 300 107 [.int .i32 50] (tabsE off spot) (Tryz.prog.globals.size + 1) fun u _ _ mw => u = .bool false ∧ Nat.ble (Tryz.prog.globals.size + 1) mw = true) = ((.bool false : Value) = .bool false ∧ true = true) := by kernel_rfl
theorem letter50 {base : World} (A : AtP base) : TotP base 107 [.int .i32 50] (.bool false) := tot_closed all_good A (rulesK0_ok A) Tryz.func107 (by kernel_rfl) (by kernel_rfl) (by kernel_rfl) letter50_run

set_option maxRecDepth 1000000 in
theorem letter58_run (off : Nat) (spot : Option Nat) : (funcK (envP 285 wildsP rulesK0) 300 107 [.int .i32 58] (tabsE off spot) (Tryz.prog.globals.size + 1) fun u _ _ mw => u = .bool false ∧ Nat.ble (Tryz.prog.globals.size + 1) mw = true) = ((.bool false : Value) = .bool false ∧ true = true) := by kernel_rfl
theorem letter58 {base : World} (A : AtP base) : TotP base 107 [.int .i32 58] (.bool false) := tot_closed all_good A (rulesK0_ok A) Tryz.func107 (by kernel_rfl) (by kernel_rfl) (by kernel_rfl) letter58_run

set_option maxRecDepth 1000000 in
theorem letter91_run (off : Nat) (spot : Option Nat) : (funcK (envP 285 wildsP rulesK0) 300 107 [.int .i32 91] (tabsE off spot) (Tryz.prog.globals.size + 1) fun u _ _ mw => u = .bool false ∧ Nat.ble (Tryz.prog.globals.size + 1) mw = true) = ((.bool false : Value) = .bool false ∧ true = true) := by kernel_rfl
theorem letter91 {base : World} (A : AtP base) : TotP base 107 [.int .i32 91] (.bool false) := tot_closed all_good A (rulesK0_ok A) Tryz.func107 (by kernel_rfl) (by kernel_rfl) (by kernel_rfl) letter91_run

set_option maxRecDepth 1000000 in
theorem letter93_run (off : Nat) (spot : Option Nat) : (funcK (envP 285 wildsP rulesK0) 300 107 [.int .i32 93] (tabsE off spot) (Tryz.prog.globals.size + 1) fun u _ _ mw => u = .bool false ∧ Nat.ble (Tryz.prog.globals.size + 1) mw = true) = ((.bool false : Value) = .bool false ∧ true = true) := by kernel_rfl
theorem letter93 {base : World} (A : AtP base) : TotP base 107 [.int .i32 93] (.bool false) := tot_closed all_good A (rulesK0_ok A) Tryz.func107 (by kernel_rfl) (by kernel_rfl) (by kernel_rfl) letter93_run

set_option maxRecDepth 1000000 in
theorem letter97_run (off : Nat) (spot : Option Nat) : (funcK (envP 285 wildsP rulesK0) 300 107 [.int .i32 97] (tabsE off spot) (Tryz.prog.globals.size + 1) fun u _ _ mw => u = .bool true ∧ Nat.ble (Tryz.prog.globals.size + 1) mw = true) = ((.bool true : Value) = .bool true ∧ true = true) := by kernel_rfl
theorem letter97 {base : World} (A : AtP base) : TotP base 107 [.int .i32 97] (.bool true) := tot_closed all_good A (rulesK0_ok A) Tryz.func107 (by kernel_rfl) (by kernel_rfl) (by kernel_rfl) letter97_run

set_option maxRecDepth 1000000 in
theorem letter98_run (off : Nat) (spot : Option Nat) : (funcK (envP 285 wildsP rulesK0) 300 107 [.int .i32 98] (tabsE off spot) (Tryz.prog.globals.size + 1) fun u _ _ mw => u = .bool true ∧ Nat.ble (Tryz.prog.globals.size + 1) mw = true) = ((.bool true : Value) = .bool true ∧ true = true) := by kernel_rfl
theorem letter98 {base : World} (A : AtP base) : TotP base 107 [.int .i32 98] (.bool true) := tot_closed all_good A (rulesK0_ok A) Tryz.func107 (by kernel_rfl) (by kernel_rfl) (by kernel_rfl) letter98_run

set_option maxRecDepth 1000000 in
theorem letter99_run (off : Nat) (spot : Option Nat) : (funcK (envP 285 wildsP rulesK0) 300 107 [.int .i32 99] (tabsE off spot) (Tryz.prog.globals.size + 1) fun u _ _ mw => u = .bool true ∧ Nat.ble (Tryz.prog.globals.size + 1) mw = true) = ((.bool true : Value) = .bool true ∧ true = true) := by kernel_rfl
theorem letter99 {base : World} (A : AtP base) : TotP base 107 [.int .i32 99] (.bool true) := tot_closed all_good A (rulesK0_ok A) Tryz.func107 (by kernel_rfl) (by kernel_rfl) (by kernel_rfl) letter99_run

set_option maxRecDepth 1000000 in
theorem letter100_run (off : Nat) (spot : Option Nat) : (funcK (envP 285 wildsP rulesK0) 300 107 [.int .i32 100] (tabsE off spot) (Tryz.prog.globals.size + 1) fun u _ _ mw => u = .bool true ∧ Nat.ble (Tryz.prog.globals.size + 1) mw = true) = ((.bool true : Value) = .bool true ∧ true = true) := by kernel_rfl
theorem letter100 {base : World} (A : AtP base) : TotP base 107 [.int .i32 100] (.bool true) := tot_closed all_good A (rulesK0_ok A) Tryz.func107 (by kernel_rfl) (by kernel_rfl) (by kernel_rfl) letter100_run

set_option maxRecDepth 1000000 in
theorem letter101_run (off : Nat) (spot : Option Nat) : (funcK (envP 285 wildsP rulesK0) 300 107 [.int .i32 101] (tabsE off spot) (Tryz.prog.globals.size + 1) fun u _ _ mw => u = .bool true ∧ Nat.ble (Tryz.prog.globals.size + 1) mw = true) = ((.bool true : Value) = .bool true ∧ true = true) := by kernel_rfl
theorem letter101 {base : World} (A : AtP base) : TotP base 107 [.int .i32 101] (.bool true) := tot_closed all_good A (rulesK0_ok A) Tryz.func107 (by kernel_rfl) (by kernel_rfl) (by kernel_rfl) letter101_run

set_option maxRecDepth 1000000 in
theorem letter102_run (off : Nat) (spot : Option Nat) : (funcK (envP 285 wildsP rulesK0) 300 107 [.int .i32 102] (tabsE off spot) (Tryz.prog.globals.size + 1) fun u _ _ mw => u = .bool true ∧ Nat.ble (Tryz.prog.globals.size + 1) mw = true) = ((.bool true : Value) = .bool true ∧ true = true) := by kernel_rfl
theorem letter102 {base : World} (A : AtP base) : TotP base 107 [.int .i32 102] (.bool true) := tot_closed all_good A (rulesK0_ok A) Tryz.func107 (by kernel_rfl) (by kernel_rfl) (by kernel_rfl) letter102_run

set_option maxRecDepth 1000000 in
theorem letter103_run (off : Nat) (spot : Option Nat) : (funcK (envP 285 wildsP rulesK0) 300 107 [.int .i32 103] (tabsE off spot) (Tryz.prog.globals.size + 1) fun u _ _ mw => u = .bool true ∧ Nat.ble (Tryz.prog.globals.size + 1) mw = true) = ((.bool true : Value) = .bool true ∧ true = true) := by kernel_rfl
theorem letter103 {base : World} (A : AtP base) : TotP base 107 [.int .i32 103] (.bool true) := tot_closed all_good A (rulesK0_ok A) Tryz.func107 (by kernel_rfl) (by kernel_rfl) (by kernel_rfl) letter103_run

set_option maxRecDepth 1000000 in
theorem letter104_run (off : Nat) (spot : Option Nat) : (funcK (envP 285 wildsP rulesK0) 300 107 [.int .i32 104] (tabsE off spot) (Tryz.prog.globals.size + 1) fun u _ _ mw => u = .bool true ∧ Nat.ble (Tryz.prog.globals.size + 1) mw = true) = ((.bool true : Value) = .bool true ∧ true = true) := by kernel_rfl
theorem letter104 {base : World} (A : AtP base) : TotP base 107 [.int .i32 104] (.bool true) := tot_closed all_good A (rulesK0_ok A) Tryz.func107 (by kernel_rfl) (by kernel_rfl) (by kernel_rfl) letter104_run

set_option maxRecDepth 1000000 in
theorem letter105_run (off : Nat) (spot : Option Nat) : (funcK (envP 285 wildsP rulesK0) 300 107 [.int .i32 105] (tabsE off spot) (Tryz.prog.globals.size + 1) fun u _ _ mw => u = .bool true ∧ Nat.ble (Tryz.prog.globals.size + 1) mw = true) = ((.bool true : Value) = .bool true ∧ true = true) := by kernel_rfl
theorem letter105 {base : World} (A : AtP base) : TotP base 107 [.int .i32 105] (.bool true) := tot_closed all_good A (rulesK0_ok A) Tryz.func107 (by kernel_rfl) (by kernel_rfl) (by kernel_rfl) letter105_run

set_option maxRecDepth 1000000 in
theorem letter106_run (off : Nat) (spot : Option Nat) : (funcK (envP 285 wildsP rulesK0) 300 107 [.int .i32 106] (tabsE off spot) (Tryz.prog.globals.size + 1) fun u _ _ mw => u = .bool true ∧ Nat.ble (Tryz.prog.globals.size + 1) mw = true) = ((.bool true : Value) = .bool true ∧ true = true) := by kernel_rfl
theorem letter106 {base : World} (A : AtP base) : TotP base 107 [.int .i32 106] (.bool true) := tot_closed all_good A (rulesK0_ok A) Tryz.func107 (by kernel_rfl) (by kernel_rfl) (by kernel_rfl) letter106_run

set_option maxRecDepth 1000000 in
theorem letter107_run (off : Nat) (spot : Option Nat) : (funcK (envP 285 wildsP rulesK0) 300 107 [.int .i32 107] (tabsE off spot) (Tryz.prog.globals.size + 1) fun u _ _ mw => u = .bool true ∧ Nat.ble (Tryz.prog.globals.size + 1) mw = true) = ((.bool true : Value) = .bool true ∧ true = true) := by kernel_rfl
theorem letter107 {base : World} (A : AtP base) : TotP base 107 [.int .i32 107] (.bool true) := tot_closed all_good A (rulesK0_ok A) Tryz.func107 (by kernel_rfl) (by kernel_rfl) (by kernel_rfl) letter107_run

set_option maxRecDepth 1000000 in
theorem letter108_run (off : Nat) (spot : Option Nat) : (funcK (envP 285 wildsP rulesK0) 300 107 [.int .i32 108] (tabsE off spot) (Tryz.prog.globals.size + 1) fun u _ _ mw => u = .bool true ∧ Nat.ble (Tryz.prog.globals.size + 1) mw = true) = ((.bool true : Value) = .bool true ∧ true = true) := by kernel_rfl
theorem letter108 {base : World} (A : AtP base) : TotP base 107 [.int .i32 108] (.bool true) := tot_closed all_good A (rulesK0_ok A) Tryz.func107 (by kernel_rfl) (by kernel_rfl) (by kernel_rfl) letter108_run

set_option maxRecDepth 1000000 in
theorem letter109_run (off : Nat) (spot : Option Nat) : (funcK (envP 285 wildsP rulesK0) 300 107 [.int .i32 109] (tabsE off spot) (Tryz.prog.globals.size + 1) fun u _ _ mw => u = .bool true ∧ Nat.ble (Tryz.prog.globals.size + 1) mw = true) = ((.bool true : Value) = .bool true ∧ true = true) := by kernel_rfl
theorem letter109 {base : World} (A : AtP base) : TotP base 107 [.int .i32 109] (.bool true) := tot_closed all_good A (rulesK0_ok A) Tryz.func107 (by kernel_rfl) (by kernel_rfl) (by kernel_rfl) letter109_run

set_option maxRecDepth 1000000 in
theorem letter110_run (off : Nat) (spot : Option Nat) : (funcK (envP 285 wildsP rulesK0) 300 107 [.int .i32 110] (tabsE off spot) (Tryz.prog.globals.size + 1) fun u _ _ mw => u = .bool true ∧ Nat.ble (Tryz.prog.globals.size + 1) mw = true) = ((.bool true : Value) = .bool true ∧ true = true) := by kernel_rfl
theorem letter110 {base : World} (A : AtP base) : TotP base 107 [.int .i32 110] (.bool true) := tot_closed all_good A (rulesK0_ok A) Tryz.func107 (by kernel_rfl) (by kernel_rfl) (by kernel_rfl) letter110_run

set_option maxRecDepth 1000000 in
theorem letter111_run (off : Nat) (spot : Option Nat) : (funcK (envP 285 wildsP rulesK0) 300 107 [.int .i32 111] (tabsE off spot) (Tryz.prog.globals.size + 1) fun u _ _ mw => u = .bool true ∧ Nat.ble (Tryz.prog.globals.size + 1) mw = true) = ((.bool true : Value) = .bool true ∧ true = true) := by kernel_rfl
theorem letter111 {base : World} (A : AtP base) : TotP base 107 [.int .i32 111] (.bool true) := tot_closed all_good A (rulesK0_ok A) Tryz.func107 (by kernel_rfl) (by kernel_rfl) (by kernel_rfl) letter111_run

set_option maxRecDepth 1000000 in
theorem letter112_run (off : Nat) (spot : Option Nat) : (funcK (envP 285 wildsP rulesK0) 300 107 [.int .i32 112] (tabsE off spot) (Tryz.prog.globals.size + 1) fun u _ _ mw => u = .bool true ∧ Nat.ble (Tryz.prog.globals.size + 1) mw = true) = ((.bool true : Value) = .bool true ∧ true = true) := by kernel_rfl
theorem letter112 {base : World} (A : AtP base) : TotP base 107 [.int .i32 112] (.bool true) := tot_closed all_good A (rulesK0_ok A) Tryz.func107 (by kernel_rfl) (by kernel_rfl) (by kernel_rfl) letter112_run

set_option maxRecDepth 1000000 in
theorem letter113_run (off : Nat) (spot : Option Nat) : (funcK (envP 285 wildsP rulesK0) 300 107 [.int .i32 113] (tabsE off spot) (Tryz.prog.globals.size + 1) fun u _ _ mw => u = .bool true ∧ Nat.ble (Tryz.prog.globals.size + 1) mw = true) = ((.bool true : Value) = .bool true ∧ true = true) := by kernel_rfl
theorem letter113 {base : World} (A : AtP base) : TotP base 107 [.int .i32 113] (.bool true) := tot_closed all_good A (rulesK0_ok A) Tryz.func107 (by kernel_rfl) (by kernel_rfl) (by kernel_rfl) letter113_run

set_option maxRecDepth 1000000 in
theorem letter114_run (off : Nat) (spot : Option Nat) : (funcK (envP 285 wildsP rulesK0) 300 107 [.int .i32 114] (tabsE off spot) (Tryz.prog.globals.size + 1) fun u _ _ mw => u = .bool true ∧ Nat.ble (Tryz.prog.globals.size + 1) mw = true) = ((.bool true : Value) = .bool true ∧ true = true) := by kernel_rfl
theorem letter114 {base : World} (A : AtP base) : TotP base 107 [.int .i32 114] (.bool true) := tot_closed all_good A (rulesK0_ok A) Tryz.func107 (by kernel_rfl) (by kernel_rfl) (by kernel_rfl) letter114_run

set_option maxRecDepth 1000000 in
theorem letter115_run (off : Nat) (spot : Option Nat) : (funcK (envP 285 wildsP rulesK0) 300 107 [.int .i32 115] (tabsE off spot) (Tryz.prog.globals.size + 1) fun u _ _ mw => u = .bool true ∧ Nat.ble (Tryz.prog.globals.size + 1) mw = true) = ((.bool true : Value) = .bool true ∧ true = true) := by kernel_rfl
theorem letter115 {base : World} (A : AtP base) : TotP base 107 [.int .i32 115] (.bool true) := tot_closed all_good A (rulesK0_ok A) Tryz.func107 (by kernel_rfl) (by kernel_rfl) (by kernel_rfl) letter115_run

set_option maxRecDepth 1000000 in
theorem letter116_run (off : Nat) (spot : Option Nat) : (funcK (envP 285 wildsP rulesK0) 300 107 [.int .i32 116] (tabsE off spot) (Tryz.prog.globals.size + 1) fun u _ _ mw => u = .bool true ∧ Nat.ble (Tryz.prog.globals.size + 1) mw = true) = ((.bool true : Value) = .bool true ∧ true = true) := by kernel_rfl
theorem letter116 {base : World} (A : AtP base) : TotP base 107 [.int .i32 116] (.bool true) := tot_closed all_good A (rulesK0_ok A) Tryz.func107 (by kernel_rfl) (by kernel_rfl) (by kernel_rfl) letter116_run

set_option maxRecDepth 1000000 in
theorem letter117_run (off : Nat) (spot : Option Nat) : (funcK (envP 285 wildsP rulesK0) 300 107 [.int .i32 117] (tabsE off spot) (Tryz.prog.globals.size + 1) fun u _ _ mw => u = .bool true ∧ Nat.ble (Tryz.prog.globals.size + 1) mw = true) = ((.bool true : Value) = .bool true ∧ true = true) := by kernel_rfl
theorem letter117 {base : World} (A : AtP base) : TotP base 107 [.int .i32 117] (.bool true) := tot_closed all_good A (rulesK0_ok A) Tryz.func107 (by kernel_rfl) (by kernel_rfl) (by kernel_rfl) letter117_run

set_option maxRecDepth 1000000 in
theorem letter118_run (off : Nat) (spot : Option Nat) : (funcK (envP 285 wildsP rulesK0) 300 107 [.int .i32 118] (tabsE off spot) (Tryz.prog.globals.size + 1) fun u _ _ mw => u = .bool true ∧ Nat.ble (Tryz.prog.globals.size + 1) mw = true) = ((.bool true : Value) = .bool true ∧ true = true) := by kernel_rfl
theorem letter118 {base : World} (A : AtP base) : TotP base 107 [.int .i32 118] (.bool true) := tot_closed all_good A (rulesK0_ok A) Tryz.func107 (by kernel_rfl) (by kernel_rfl) (by kernel_rfl) letter118_run

set_option maxRecDepth 1000000 in
theorem letter119_run (off : Nat) (spot : Option Nat) : (funcK (envP 285 wildsP rulesK0) 300 107 [.int .i32 119] (tabsE off spot) (Tryz.prog.globals.size + 1) fun u _ _ mw => u = .bool true ∧ Nat.ble (Tryz.prog.globals.size + 1) mw = true) = ((.bool true : Value) = .bool true ∧ true = true) := by kernel_rfl
theorem letter119 {base : World} (A : AtP base) : TotP base 107 [.int .i32 119] (.bool true) := tot_closed all_good A (rulesK0_ok A) Tryz.func107 (by kernel_rfl) (by kernel_rfl) (by kernel_rfl) letter119_run

set_option maxRecDepth 1000000 in
theorem letter120_run (off : Nat) (spot : Option Nat) : (funcK (envP 285 wildsP rulesK0) 300 107 [.int .i32 120] (tabsE off spot) (Tryz.prog.globals.size + 1) fun u _ _ mw => u = .bool true ∧ Nat.ble (Tryz.prog.globals.size + 1) mw = true) = ((.bool true : Value) = .bool true ∧ true = true) := by kernel_rfl
theorem letter120 {base : World} (A : AtP base) : TotP base 107 [.int .i32 120] (.bool true) := tot_closed all_good A (rulesK0_ok A) Tryz.func107 (by kernel_rfl) (by kernel_rfl) (by kernel_rfl) letter120_run

set_option maxRecDepth 1000000 in
theorem letter121_run (off : Nat) (spot : Option Nat) : (funcK (envP 285 wildsP rulesK0) 300 107 [.int .i32 121] (tabsE off spot) (Tryz.prog.globals.size + 1) fun u _ _ mw => u = .bool true ∧ Nat.ble (Tryz.prog.globals.size + 1) mw = true) = ((.bool true : Value) = .bool true ∧ true = true) := by kernel_rfl
theorem letter121 {base : World} (A : AtP base) : TotP base 107 [.int .i32 121] (.bool true) := tot_closed all_good A (rulesK0_ok A) Tryz.func107 (by kernel_rfl) (by kernel_rfl) (by kernel_rfl) letter121_run

set_option maxRecDepth 1000000 in
theorem letterm_run (off : Nat) (spot : Option Nat) : (funcK (envP 285 wildsP rulesK0) 300 107 [.int .i32 (-1)] (tabsE off spot) (Tryz.prog.globals.size + 1) fun u _ _ mw => u = .bool false ∧ Nat.ble (Tryz.prog.globals.size + 1) mw = true) = ((.bool false : Value) = .bool false ∧ true = true) := by kernel_rfl
theorem letterm {base : World} (A : AtP base) : TotP base 107 [.int .i32 (-1)] (.bool false) := tot_closed all_good A (rulesK0_ok A) Tryz.func107 (by kernel_rfl) (by kernel_rfl) (by kernel_rfl) letterm_run

def tabLetter : List (List Value × Value) := [([.int .i32 32], .bool false), ([.int .i32 34], .bool false), ([.int .i32 40], .bool false), ([.int .i32 41], .bool false), ([.int .i32 43], .bool false), ([.int .i32 44], .bool false), ([.int .i32 49], .bool false), ([.int .i32 50], .bool false), ([.int .i32 58], .bool false), ([.int .i32 91], .bool false), ([.int .i32 93], .bool false), ([.int .i32 97], .bool true), ([.int .i32 98], .bool true), ([.int .i32 99], .bool true), ([.int .i32 100], .bool true), ([.int .i32 101], .bool true), ([.int .i32 102], .bool true), ([.int .i32 103], .bool true), ([.int .i32 104], .bool true), ([.int .i32 105], .bool true), ([.int .i32 106], .bool true), ([.int .i32 107], .bool true), ([.int .i32 108], .bool true), ([.int .i32 109], .bool true), ([.int .i32 110], .bool true), ([.int .i32 111], .bool true), ([.int .i32 112], .bool true), ([.int .i32 113], .bool true), ([.int .i32 114], .bool true), ([.int .i32 115], .bool true), ([.int .i32 116], .bool true), ([.int .i32 117], .bool true), ([.int .i32 118], .bool true), ([.int .i32 119], .bool true), ([.int .i32 120], .bool true), ([.int .i32 121], .bool true), ([.int .i32 (-1)], .bool false)]
theorem tabLetter_ok {base : World} (A : AtP base) : RuleOk Tryz.prog base 107 (ruleTab tabLetter) := ruleOk_tab (by
  unfold tabLetter
  exact List.forall_mem_cons.2 ⟨letter32 A, List.forall_mem_cons.2 ⟨letter34 A, List.forall_mem_cons.2 ⟨letter40 A, List.forall_mem_cons.2 ⟨letter41 A, List.forall_mem_cons.2 ⟨letter43 A, List.forall_mem_cons.2 ⟨letter44 A, List.forall_mem_cons.2 ⟨letter49 A, List.forall_mem_cons.2 ⟨letter50 A, List.forall_mem_cons.2 ⟨letter58 A, List.forall_mem_cons.2 ⟨letter91 A, List.forall_mem_cons.2 ⟨letter93 A, List.forall_mem_cons.2 ⟨letter97 A, List.forall_mem_cons.2 ⟨letter98 A, List.forall_mem_cons.2 ⟨letter99 A, List.forall_mem_cons.2 ⟨letter100 A, List.forall_mem_cons.2 ⟨letter101 A, List.forall_mem_cons.2 ⟨letter102 A, List.forall_mem_cons.2 ⟨letter103 A, List.forall_mem_cons.2 ⟨letter104 A, List.forall_mem_cons.2 ⟨letter105 A, List.forall_mem_cons.2 ⟨letter106 A, List.forall_mem_cons.2 ⟨letter107 A, List.forall_mem_cons.2 ⟨letter108 A, List.forall_mem_cons.2 ⟨letter109 A, List.forall_mem_cons.2 ⟨letter110 A, List.forall_mem_cons.2 ⟨letter111 A, List.forall_mem_cons.2 ⟨letter112 A, List.forall_mem_cons.2 ⟨letter113 A, List.forall_mem_cons.2 ⟨letter114 A, List.forall_mem_cons.2 ⟨letter115 A, List.forall_mem_cons.2 ⟨letter116 A, List.forall_mem_cons.2 ⟨letter117 A, List.forall_mem_cons.2 ⟨letter118 A, List.forall_mem_cons.2 ⟨letter119 A, List.forall_mem_cons.2 ⟨letter120 A, List.forall_mem_cons.2 ⟨letter121 A, List.forall_mem_cons.2 ⟨letterm A, fun _ h => nomatch h⟩⟩⟩⟩⟩⟩⟩⟩⟩⟩⟩⟩⟩⟩⟩⟩⟩⟩⟩⟩⟩⟩⟩⟩⟩⟩⟩⟩⟩⟩⟩⟩⟩⟩⟩⟩⟩)

set_option maxRecDepth 1000000 in
theorem digit32_run (off : Nat) (spot : Option Nat) : (funcK (envP 285 wildsP rulesK0) 300 110 [.int .i32 32] (tabsE off spot) (Tryz.prog.globals.size + 1) fun u _ _ mw => u = .bool false ∧ Nat.ble (Tryz.prog.globals.size + 1) mw = true) = ((.bool false : Value) = .bool false ∧ true = true) := by kernel_rfl
theorem digit32 {base : World} (A : AtP base) : TotP base 110 [.int .i32 32] (.bool false) := tot_closed all_good A (rulesK0_ok A) Tryz.func110 (by kernel_rfl) (by kernel_rfl) (by kernel_rfl) digit32_run

set_option maxRecDepth 1000000 in
theorem digit34_run (off : Nat) (spot : Option Nat) : (funcK (envP 285 wildsP rulesK0) 300 110 [.int .i32 34] (tabsE off spot) (Tryz.prog.globals.size + 1) fun u _ _ mw => u = .bool false ∧ Nat.ble (Tryz.prog.globals.size + 1) mw = true) = ((.bool false : Value) = .bool false ∧ true = true) := by kernel_rfl
theorem digit34 {base : World} (A : AtP base) : TotP base 110 [.int .i32 34] (.bool false) := tot_closed all_good A (rulesK0_ok A) Tryz.func110 (by kernel_rfl) (by kernel_rfl) (by kernel_rfl) digit34_run

set_option maxRecDepth 1000000 in
theorem digit40_run (off : Nat) (spot : Option Nat) : (funcK (envP 285 wildsP rulesK0) 300 110 [.int .i32 40] (tabsE off spot) (Tryz.prog.globals.size + 1) fun u _ _ mw => u = .bool false ∧ Nat.ble (Tryz.prog.globals.size + 1) mw = true) = ((.bool false : Value) = .bool false ∧ true = true) := by kernel_rfl
theorem digit40 {base : World} (A : AtP base) : TotP base 110 [.int .i32 40] (.bool false) := tot_closed all_good A (rulesK0_ok A) Tryz.func110 (by kernel_rfl) (by kernel_rfl) (by kernel_rfl) digit40_run

set_option maxRecDepth 1000000 in
theorem digit41_run (off : Nat) (spot : Option Nat) : (funcK (envP 285 wildsP rulesK0) 300 110 [.int .i32 41] (tabsE off spot) (Tryz.prog.globals.size + 1) fun u _ _ mw => u = .bool false ∧ Nat.ble (Tryz.prog.globals.size + 1) mw = true) = ((.bool false : Value) = .bool false ∧ true = true) := by kernel_rfl
theorem digit41 {base : World} (A : AtP base) : TotP base 110 [.int .i32 41] (.bool false) := tot_closed all_good A (rulesK0_ok A) Tryz.func110 (by kernel_rfl) (by kernel_rfl) (by kernel_rfl) digit41_run

set_option maxRecDepth 1000000 in
theorem digit43_run (off : Nat) (spot : Option Nat) : (funcK (envP 285 wildsP rulesK0) 300 110 [.int .i32 43] (tabsE off spot) (Tryz.prog.globals.size + 1) fun u _ _ mw => u = .bool false ∧ Nat.ble (Tryz.prog.globals.size + 1) mw = true) = ((.bool false : Value) = .bool false ∧ true = true) := by kernel_rfl
theorem digit43 {base : World} (A : AtP base) : TotP base 110 [.int .i32 43] (.bool false) := tot_closed all_good A (rulesK0_ok A) Tryz.func110 (by kernel_rfl) (by kernel_rfl) (by kernel_rfl) digit43_run

set_option maxRecDepth 1000000 in
theorem digit44_run (off : Nat) (spot : Option Nat) : (funcK (envP 285 wildsP rulesK0) 300 110 [.int .i32 44] (tabsE off spot) (Tryz.prog.globals.size + 1) fun u _ _ mw => u = .bool false ∧ Nat.ble (Tryz.prog.globals.size + 1) mw = true) = ((.bool false : Value) = .bool false ∧ true = true) := by kernel_rfl
theorem digit44 {base : World} (A : AtP base) : TotP base 110 [.int .i32 44] (.bool false) := tot_closed all_good A (rulesK0_ok A) Tryz.func110 (by kernel_rfl) (by kernel_rfl) (by kernel_rfl) digit44_run

set_option maxRecDepth 1000000 in
theorem digit49_run (off : Nat) (spot : Option Nat) : (funcK (envP 285 wildsP rulesK0) 300 110 [.int .i32 49] (tabsE off spot) (Tryz.prog.globals.size + 1) fun u _ _ mw => u = .bool true ∧ Nat.ble (Tryz.prog.globals.size + 1) mw = true) = ((.bool true : Value) = .bool true ∧ true = true) := by kernel_rfl
theorem digit49 {base : World} (A : AtP base) : TotP base 110 [.int .i32 49] (.bool true) := tot_closed all_good A (rulesK0_ok A) Tryz.func110 (by kernel_rfl) (by kernel_rfl) (by kernel_rfl) digit49_run

set_option maxRecDepth 1000000 in
theorem digit50_run (off : Nat) (spot : Option Nat) : (funcK (envP 285 wildsP rulesK0) 300 110 [.int .i32 50] (tabsE off spot) (Tryz.prog.globals.size + 1) fun u _ _ mw => u = .bool true ∧ Nat.ble (Tryz.prog.globals.size + 1) mw = true) = ((.bool true : Value) = .bool true ∧ true = true) := by kernel_rfl
theorem digit50 {base : World} (A : AtP base) : TotP base 110 [.int .i32 50] (.bool true) := tot_closed all_good A (rulesK0_ok A) Tryz.func110 (by kernel_rfl) (by kernel_rfl) (by kernel_rfl) digit50_run

set_option maxRecDepth 1000000 in
theorem digit58_run (off : Nat) (spot : Option Nat) : (funcK (envP 285 wildsP rulesK0) 300 110 [.int .i32 58] (tabsE off spot) (Tryz.prog.globals.size + 1) fun u _ _ mw => u = .bool false ∧ Nat.ble (Tryz.prog.globals.size + 1) mw = true) = ((.bool false : Value) = .bool false ∧ true = true) := by kernel_rfl
theorem digit58 {base : World} (A : AtP base) : TotP base 110 [.int .i32 58] (.bool false) := tot_closed all_good A (rulesK0_ok A) Tryz.func110 (by kernel_rfl) (by kernel_rfl) (by kernel_rfl) digit58_run

set_option maxRecDepth 1000000 in
theorem digit91_run (off : Nat) (spot : Option Nat) : (funcK (envP 285 wildsP rulesK0) 300 110 [.int .i32 91] (tabsE off spot) (Tryz.prog.globals.size + 1) fun u _ _ mw => u = .bool false ∧ Nat.ble (Tryz.prog.globals.size + 1) mw = true) = ((.bool false : Value) = .bool false ∧ true = true) := by kernel_rfl
theorem digit91 {base : World} (A : AtP base) : TotP base 110 [.int .i32 91] (.bool false) := tot_closed all_good A (rulesK0_ok A) Tryz.func110 (by kernel_rfl) (by kernel_rfl) (by kernel_rfl) digit91_run

set_option maxRecDepth 1000000 in
theorem digit93_run (off : Nat) (spot : Option Nat) : (funcK (envP 285 wildsP rulesK0) 300 110 [.int .i32 93] (tabsE off spot) (Tryz.prog.globals.size + 1) fun u _ _ mw => u = .bool false ∧ Nat.ble (Tryz.prog.globals.size + 1) mw = true) = ((.bool false : Value) = .bool false ∧ true = true) := by kernel_rfl
theorem digit93 {base : World} (A : AtP base) : TotP base 110 [.int .i32 93] (.bool false) := tot_closed all_good A (rulesK0_ok A) Tryz.func110 (by kernel_rfl) (by kernel_rfl) (by kernel_rfl) digit93_run

set_option maxRecDepth 1000000 in
theorem digit97_run (off : Nat) (spot : Option Nat) : (funcK (envP 285 wildsP rulesK0) 300 110 [.int .i32 97] (tabsE off spot) (Tryz.prog.globals.size + 1) fun u _ _ mw => u = .bool false ∧ Nat.ble (Tryz.prog.globals.size + 1) mw = true) = ((.bool false : Value) = .bool false ∧ true = true) := by kernel_rfl
theorem digit97 {base : World} (A : AtP base) : TotP base 110 [.int .i32 97] (.bool false) := tot_closed all_good A (rulesK0_ok A) Tryz.func110 (by kernel_rfl) (by kernel_rfl) (by kernel_rfl) digit97_run

set_option maxRecDepth 1000000 in
theorem digit98_run (off : Nat) (spot : Option Nat) : (funcK (envP 285 wildsP rulesK0) 300 110 [.int .i32 98] (tabsE off spot) (Tryz.prog.globals.size + 1) fun u _ _ mw => u = .bool false ∧ Nat.ble (Tryz.prog.globals.size + 1) mw = true) = ((.bool false : Value) = .bool false ∧ true = true) := by kernel_rfl
theorem digit98 {base : World} (A : AtP base) : TotP base 110 [.int .i32 98] (.bool false) := tot_closed all_good A (rulesK0_ok A) Tryz.func110 (by kernel_rfl) (by kernel_rfl) (by kernel_rfl) digit98_run

set_option maxRecDepth 1000000 in
theorem digit99_run (off : Nat) (spot : Option Nat) : (funcK (envP 285 wildsP rulesK0) 300 110 [.int .i32 99] (tabsE off spot) (Tryz.prog.globals.size + 1) fun u _ _ mw => u = .bool false ∧ Nat.ble (Tryz.prog.globals.size + 1) mw = true) = ((.bool false : Value) = .bool false ∧ true = true) := by kernel_rfl
theorem digit99 {base : World} (A : AtP base) : TotP base 110 [.int .i32 99] (.bool false) := tot_closed all_good A (rulesK0_ok A) Tryz.func110 (by kernel_rfl) (by kernel_rfl) (by kernel_rfl) digit99_run

set_option maxRecDepth 1000000 in
theorem digit100_run (off : Nat) (spot : Option Nat) : (funcK (envP 285 wildsP rulesK0) 300 110 [.int .i32 100] (tabsE off spot) (Tryz.prog.globals.size + 1) fun u _ _ mw => u = .bool false ∧ Nat.ble (Tryz.prog.globals.size + 1) mw = true) = ((.bool false : Value) = .bool false ∧ true = true) := by kernel_rfl
theorem digit100 {base : World} (A : AtP base) : TotP base 110 [.int .i32 100] (.bool false) := tot_closed all_good A (rulesK0_ok A) Tryz.func110 (by kernel_rfl) (by kernel_rfl) (by kernel_rfl) digit100_run

set_option maxRecDepth 1000000 in
theorem digit101_run (off : Nat) (spot : Option Nat) : (funcK (envP 285 wildsP rulesK0) 300 110 [.int .i32 101] (tabsE off spot) (Tryz.prog.globals.size + 1) fun u _ _ mw => u = .bool false ∧ Nat.ble (Tryz.prog.globals.size + 1) mw = true) = ((.bool false : Value) = .bool false ∧ true = true) := by kernel_rfl
theorem digit101 {base : World} (A : AtP base) : TotP base 110 [.int .i32 101] (.bool false) := tot_closed all_good A (rulesK0_ok A) Tryz.func110 (by kernel_rfl) (by kernel_rfl) (by kernel_rfl) digit101_run

set_option maxRecDepth 1000000 in
theorem digit102_run (off : Nat) (spot : Option Nat) : (funcK (envP 285 wildsP rulesK0) 300 110 [.int .i32 102] (tabsE off spot) (Tryz.prog.globals.size + 1) fun u _ _ mw => u = .bool false ∧ Nat.ble (Tryz.prog.globals.size + 1) mw = true) = ((.bool false : Value) = .bool false ∧ true = true) := by kernel_rfl
theorem digit102 {base : World} (A : AtP base) : TotP base 110 [.int .i32 102] (.bool false) := tot_closed all_good A (rulesK0_ok A) Tryz.func110 (by kernel_rfl) (by kernel_rfl) (by kernel_rfl) digit102_run

set_option maxRecDepth 1000000 in
theorem digit103_run (off : Nat) (spot : Option Nat) : (funcK (envP 285 wildsP rulesK0) 300 110 [.int .i32 103] (tabsE off spot) (Tryz.prog.globals.size + 1) fun u _ _ mw => u = .bool false ∧ Nat.ble (Tryz.prog.globals.size + 1) mw = true) = ((.bool false : Value) = .bool false ∧ true = true) := by kernel_rfl
theorem digit103 {base : World} (A : AtP base) : TotP base 110 [.int .i32 103] (.bool false) := tot_closed all_good A (rulesK0_ok A) Tryz.func110 (by kernel_rfl) (by kernel_rfl) (by kernel_rfl) digit103_run

set_option maxRecDepth 1000000 in
theorem digit104_run (off : Nat) (spot : Option Nat) : (funcK (envP 285 wildsP rulesK0) 300 110 [.int .i32 104] (tabsE off spot) (Tryz.prog.globals.size + 1) fun u _ _ mw => u = .bool false ∧ Nat.ble (Tryz.prog.globals.size + 1) mw = true) = ((.bool false : Value) = .bool false ∧ true = true) := by kernel_rfl
theorem digit104 {base : World} (A : AtP base) : TotP base 110 [.int .i32 104] (.bool false) := tot_closed all_good A (rulesK0_ok A) Tryz.func110 (by kernel_rfl) (by kernel_rfl) (by kernel_rfl) digit104_run

set_option maxRecDepth 1000000 in
theorem digit105_run (off : Nat) (spot : Option Nat) : (funcK (envP 285 wildsP rulesK0) 300 110 [.int .i32 105] (tabsE off spot) (Tryz.prog.globals.size + 1) fun u _ _ mw => u = .bool false ∧ Nat.ble (Tryz.prog.globals.size + 1) mw = true) = ((.bool false : Value) = .bool false ∧ true = true) := by kernel_rfl
theorem digit105 {base : World} (A : AtP base) : TotP base 110 [.int .i32 105] (.bool false) := tot_closed all_good A (rulesK0_ok A) Tryz.func110 (by kernel_rfl) (by kernel_rfl) (by kernel_rfl) digit105_run

set_option maxRecDepth 1000000 in
theorem digit106_run (off : Nat) (spot : Option Nat) : (funcK (envP 285 wildsP rulesK0) 300 110 [.int .i32 106] (tabsE off spot) (Tryz.prog.globals.size + 1) fun u _ _ mw => u = .bool false ∧ Nat.ble (Tryz.prog.globals.size + 1) mw = true) = ((.bool false : Value) = .bool false ∧ true = true) := by kernel_rfl
theorem digit106 {base : World} (A : AtP base) : TotP base 110 [.int .i32 106] (.bool false) := tot_closed all_good A (rulesK0_ok A) Tryz.func110 (by kernel_rfl) (by kernel_rfl) (by kernel_rfl) digit106_run

set_option maxRecDepth 1000000 in
theorem digit107_run (off : Nat) (spot : Option Nat) : (funcK (envP 285 wildsP rulesK0) 300 110 [.int .i32 107] (tabsE off spot) (Tryz.prog.globals.size + 1) fun u _ _ mw => u = .bool false ∧ Nat.ble (Tryz.prog.globals.size + 1) mw = true) = ((.bool false : Value) = .bool false ∧ true = true) := by kernel_rfl
theorem digit107 {base : World} (A : AtP base) : TotP base 110 [.int .i32 107] (.bool false) := tot_closed all_good A (rulesK0_ok A) Tryz.func110 (by kernel_rfl) (by kernel_rfl) (by kernel_rfl) digit107_run

set_option maxRecDepth 1000000 in
theorem digit108_run (off : Nat) (spot : Option Nat) : (funcK (envP 285 wildsP rulesK0) 300 110 [.int .i32 108] (tabsE off spot) (Tryz.prog.globals.size + 1) fun u _ _ mw => u = .bool false ∧ Nat.ble (Tryz.prog.globals.size + 1) mw = true) = ((.bool false : Value) = .bool false ∧ true = true) := by kernel_rfl
theorem digit108 {base : World} (A : AtP base) : TotP base 110 [.int .i32 108] (.bool false) := tot_closed all_good A (rulesK0_ok A) Tryz.func110 (by kernel_rfl) (by kernel_rfl) (by kernel_rfl) digit108_run

set_option maxRecDepth 1000000 in
theorem digit109_run (off : Nat) (spot : Option Nat) : (funcK (envP 285 wildsP rulesK0) 300 110 [.int .i32 109] (tabsE off spot) (Tryz.prog.globals.size + 1) fun u _ _ mw => u = .bool false ∧ Nat.ble (Tryz.prog.globals.size + 1) mw = true) = ((.bool false : Value) = .bool false ∧ true = true) := by kernel_rfl
theorem digit109 {base : World} (A : AtP base) : TotP base 110 [.int .i32 109] (.bool false) := tot_closed all_good A (rulesK0_ok A) Tryz.func110 (by kernel_rfl) (by kernel_rfl) (by kernel_rfl) digit109_run

set_option maxRecDepth 1000000 in
theorem digit110_run (off : Nat) (spot : Option Nat) : (funcK (envP 285 wildsP rulesK0) 300 110 [.int .i32 110] (tabsE off spot) (Tryz.prog.globals.size + 1) fun u _ _ mw => u = .bool false ∧ Nat.ble (Tryz.prog.globals.size + 1) mw = true) = ((.bool false : Value) = .bool false ∧ true = true) := by kernel_rfl
theorem digit110 {base : World} (A : AtP base) : TotP base 110 [.int .i32 110] (.bool false) := tot_closed all_good A (rulesK0_ok A) Tryz.func110 (by kernel_rfl) (by kernel_rfl) (by kernel_rfl) digit110_run

set_option maxRecDepth 1000000 in
theorem digit111_run (off : Nat) (spot : Option Nat) : (funcK (envP 285 wildsP rulesK0) 300 110 [.int .i32 111] (tabsE off spot) (Tryz.prog.globals.size + 1) fun u _ _ mw => u = .bool false ∧ Nat.ble (Tryz.prog.globals.size + 1) mw = true) = ((.bool false : Value) = .bool false ∧ true = true) := by kernel_rfl
theorem digit111 {base : World} (A : AtP base) : TotP base 110 [.int .i32 111] (.bool false) := tot_closed all_good A (rulesK0_ok A) Tryz.func110 (by kernel_rfl) (by kernel_rfl) (by kernel_rfl) digit111_run

set_option maxRecDepth 1000000 in
theorem digit112_run (off : Nat) (spot : Option Nat) : (funcK (envP 285 wildsP rulesK0) 300 110 [.int .i32 112] (tabsE off spot) (Tryz.prog.globals.size + 1) fun u _ _ mw => u = .bool false ∧ Nat.ble (Tryz.prog.globals.size + 1) mw = true) = ((.bool false : Value) = .bool false ∧ true = true) := by kernel_rfl
theorem digit112 {base : World} (A : AtP base) : TotP base 110 [.int .i32 112] (.bool false) := tot_closed all_good A (rulesK0_ok A) Tryz.func110 (by kernel_rfl) (by kernel_rfl) (by kernel_rfl) digit112_run

set_option maxRecDepth 1000000 in
theorem digit113_run (off : Nat) (spot : Option Nat) : (funcK (envP 285 wildsP rulesK0) 300 110 [.int .i32 113] (tabsE off spot) (Tryz.prog.globals.size + 1) fun u _ _ mw => u = .bool false ∧ Nat.ble (Tryz.prog.globals.size + 1) mw = true) = ((.bool false : Value) = .bool false ∧ true = true) := by kernel_rfl
theorem digit113 {base : World} (A : AtP base) : TotP base 110 [.int .i32 113] (.bool false) := tot_closed all_good A (rulesK0_ok A) Tryz.func110 (by kernel_rfl) (by kernel_rfl) (by kernel_rfl) digit113_run

set_option maxRecDepth 1000000 in
theorem digit114_run (off : Nat) (spot : Option Nat) : (funcK (envP 285 wildsP rulesK0) 300 110 [.int .i32 114] (tabsE off spot) (Tryz.prog.globals.size + 1) fun u _ _ mw => u = .bool false ∧ Nat.ble (Tryz.prog.globals.size + 1) mw = true) = ((.bool false : Value) = .bool false ∧ true = true) := by kernel_rfl
theorem digit114 {base : World} (A : AtP base) : TotP base 110 [.int .i32 114] (.bool false) := tot_closed all_good A (rulesK0_ok A) Tryz.func110 (by kernel_rfl) (by kernel_rfl) (by kernel_rfl) digit114_run

set_option maxRecDepth 1000000 in
theorem digit115_run (off : Nat) (spot : Option Nat) : (funcK (envP 285 wildsP rulesK0) 300 110 [.int .i32 115] (tabsE off spot) (Tryz.prog.globals.size + 1) fun u _ _ mw => u = .bool false ∧ Nat.ble (Tryz.prog.globals.size + 1) mw = true) = ((.bool false : Value) = .bool false ∧ true = true) := by kernel_rfl
theorem digit115 {base : World} (A : AtP base) : TotP base 110 [.int .i32 115] (.bool false) := tot_closed all_good A (rulesK0_ok A) Tryz.func110 (by kernel_rfl) (by kernel_rfl) (by kernel_rfl) digit115_run

set_option maxRecDepth 1000000 in
theorem digit116_run (off : Nat) (spot : Option Nat) : (funcK (envP 285 wildsP rulesK0) 300 110 [.int .i32 116] (tabsE off spot) (Tryz.prog.globals.size + 1) fun u _ _ mw => u = .bool false ∧ Nat.ble (Tryz.prog.globals.size + 1) mw = true) = ((.bool false : Value) = .bool false ∧ true = true) := by kernel_rfl
theorem digit116 {base : World} (A : AtP base) : TotP base 110 [.int .i32 116] (.bool false) := tot_closed all_good A (rulesK0_ok A) Tryz.func110 (by kernel_rfl) (by kernel_rfl) (by kernel_rfl) digit116_run

set_option maxRecDepth 1000000 in
theorem digit117_run (off : Nat) (spot : Option Nat) : (funcK (envP 285 wildsP rulesK0) 300 110 [.int .i32 117] (tabsE off spot) (Tryz.prog.globals.size + 1) fun u _ _ mw => u = .bool false ∧ Nat.ble (Tryz.prog.globals.size + 1) mw = true) = ((.bool false : Value) = .bool false ∧ true = true) := by kernel_rfl
theorem digit117 {base : World} (A : AtP base) : TotP base 110 [.int .i32 117] (.bool false) := tot_closed all_good A (rulesK0_ok A) Tryz.func110 (by kernel_rfl) (by kernel_rfl) (by kernel_rfl) digit117_run

set_option maxRecDepth 1000000 in
theorem digit118_run (off : Nat) (spot : Option Nat) : (funcK (envP 285 wildsP rulesK0) 300 110 [.int .i32 118] (tabsE off spot) (Tryz.prog.globals.size + 1) fun u _ _ mw => u = .bool false ∧ Nat.ble (Tryz.prog.globals.size + 1) mw = true) = ((.bool false : Value) = .bool false ∧ true = true) := by kernel_rfl
theorem digit118 {base : World} (A : AtP base) : TotP base 110 [.int .i32 118] (.bool false) := tot_closed all_good A (rulesK0_ok A) Tryz.func110 (by kernel_rfl) (by kernel_rfl) (by kernel_rfl) digit118_run

set_option maxRecDepth 1000000 in
theorem digit119_run (off : Nat) (spot : Option Nat) : (funcK (envP 285 wildsP rulesK0) 300 110 [.int .i32 119] (tabsE off spot) (Tryz.prog.globals.size + 1) fun u _ _ mw => u = .bool false ∧ Nat.ble (Tryz.prog.globals.size + 1) mw = true) = ((.bool false : Value) = .bool false ∧ true = true) := by kernel_rfl
theorem digit119 {base : World} (A : AtP base) : TotP base 110 [.int .i32 119] (.bool false) := tot_closed all_good A (rulesK0_ok A) Tryz.func110 (by kernel_rfl) (by kernel_rfl) (by kernel_rfl) digit119_run

set_option maxRecDepth 1000000 in
theorem digit120_run (off : Nat) (spot : Option Nat) : (funcK (envP 285 wildsP rulesK0) 300 110 [.int .i32 120] (tabsE off spot) (Tryz.prog.globals.size + 1) fun u _ _ mw => u = .bool false ∧ Nat.ble (Tryz.prog.globals.size + 1) mw = true) = ((.bool false : Value) = .bool false ∧ true = true) := by kernel_rfl
theorem digit120 {base : World} (A : AtP base) : TotP base 110 [.int .i32 120] (.bool false) := tot_closed all_good A (rulesK0_ok A) Tryz.func110 (by kernel_rfl) (by kernel_rfl) (by kernel_rfl) digit120_run

set_option maxRecDepth 1000000 in
theorem digit121_run (off : Nat) (spot : Option Nat) : (funcK (envP 285 wildsP rulesK0) 300 110 [.int .i32 121] (tabsE off spot) (Tryz.prog.globals.size + 1) fun u _ _ mw => u = .bool false ∧ Nat.ble (Tryz.prog.globals.size + 1) mw = true) = ((.bool false : Value) = .bool false ∧ true = true) := by kernel_rfl
theorem digit121 {base : World} (A : AtP base) : TotP base 110 [.int .i32 121] (.bool false) := tot_closed all_good A (rulesK0_ok A) Tryz.func110 (by kernel_rfl) (by kernel_rfl) (by kernel_rfl) digit121_run

set_option maxRecDepth 1000000 in
theorem digitm_run (off : Nat) (spot : Option Nat) : (funcK (envP 285 wildsP rulesK0) 300 110 [.int .i32 (-1)] (tabsE off spot) (Tryz.prog.globals.size + 1) fun u _ _ mw => u = .bool false ∧ Nat.ble (Tryz.prog.globals.size + 1) mw = true) = ((.bool false : Value) = .bool false ∧ true = true) := by kernel_rfl
theorem digitm {base : World} (A : AtP base) : TotP base 110 [.int .i32 (-1)] (.bool false) := tot_closed all_good A (rulesK0_ok A) Tryz.func110 (by kernel_rfl) (by kernel_rfl) (by kernel_rfl) digitm_run

def tabDigit : List (List Value × Value) := [([.int .i32 32], .bool false), ([.int .i32 34], .bool false), ([.int .i32 40], .bool false), ([.int .i32 41], .bool false), ([.int .i32 43], .bool false), ([.int .i32 44], .bool false), ([.int .i32 49], .bool true), ([.int .i32 50], .bool true), ([.int .i32 58], .bool false), ([.int .i32 91], .bool false), ([.int .i32 93], .bool false), ([.int .i32 97], .bool false), ([.int .i32 98], .bool false), ([.int .i32 99], .bool false), ([.int .i32 100], .bool false), ([.int .i32 101], .bool false), ([.int .i32 102], .bool false), ([.int .i32 103], .bool false), ([.int .i32 104], .bool false), ([.int .i32 105], .bool false), ([.int .i32 106], .bool false), ([.int .i32 107], .bool false), ([.int .i32 108], .bool false), ([.int .i32 109], .bool false), ([.int .i32 110], .bool false), ([.int .i32 111], .bool false), ([.int .i32 112], .bool false), ([.int .i32 113], .bool false), ([.int .i32 114], .bool false), ([.int .i32 115], .bool false), ([.int .i32 116], .bool false), ([.int .i32 117], .bool false), ([.int .i32 118], .bool false), ([.int .i32 119], .bool false), ([.int .i32 120], .bool false), ([.int .i32 121], .bool false), ([.int .i32 (-1)], .bool false)]
theorem tabDigit_ok {base : World} (A : AtP base) : RuleOk Tryz.prog base 110 (ruleTab tabDigit) := ruleOk_tab (by
  unfold tabDigit
  exact List.forall_mem_cons.2 ⟨digit32 A, List.forall_mem_cons.2 ⟨digit34 A, List.forall_mem_cons.2 ⟨digit40 A, List.forall_mem_cons.2 ⟨digit41 A, List.forall_mem_cons.2 ⟨digit43 A, List.forall_mem_cons.2 ⟨digit44 A, List.forall_mem_cons.2 ⟨digit49 A, List.forall_mem_cons.2 ⟨digit50 A, List.forall_mem_cons.2 ⟨digit58 A, List.forall_mem_cons.2 ⟨digit91 A, List.forall_mem_cons.2 ⟨digit93 A, List.forall_mem_cons.2 ⟨digit97 A, List.forall_mem_cons.2 ⟨digit98 A, List.forall_mem_cons.2 ⟨digit99 A, List.forall_mem_cons.2 ⟨digit100 A, List.forall_mem_cons.2 ⟨digit101 A, List.forall_mem_cons.2 ⟨digit102 A, List.forall_mem_cons.2 ⟨digit103 A, List.forall_mem_cons.2 ⟨digit104 A, List.forall_mem_cons.2 ⟨digit105 A, List.forall_mem_cons.2 ⟨digit106 A, List.forall_mem_cons.2 ⟨digit107 A, List.forall_mem_cons.2 ⟨digit108 A, List.forall_mem_cons.2 ⟨digit109 A, List.forall_mem_cons.2 ⟨digit110 A, List.forall_mem_cons.2 ⟨digit111 A, List.forall_mem_cons.2 ⟨digit112 A, List.forall_mem_cons.2 ⟨digit113 A, List.forall_mem_cons.2 ⟨digit114 A, List.forall_mem_cons.2 ⟨digit115 A, List.forall_mem_cons.2 ⟨digit116 A, List.forall_mem_cons.2 ⟨digit117 A, List.forall_mem_cons.2 ⟨digit118 A, List.forall_mem_cons.2 ⟨digit119 A, List.forall_mem_cons.2 ⟨digit120 A, List.forall_mem_cons.2 ⟨digit121 A, List.forall_mem_cons.2 ⟨digitm A, fun _ h => nomatch h⟩⟩⟩⟩⟩⟩⟩⟩⟩⟩⟩⟩⟩⟩⟩⟩⟩⟩⟩⟩⟩⟩⟩⟩⟩⟩⟩⟩⟩⟩⟩⟩⟩⟩⟩⟩⟩)

set_option maxRecDepth 1000000 in
theorem op0_run (off : Nat) (spot : Option Nat) : (funcK (envP 285 wildsP rulesK0) 300 19 [.string ⟨#[49]⟩] (tabsE off spot) (Tryz.prog.globals.size + 1) fun u _ _ mw => u = .int .i64 0 ∧ Nat.ble (Tryz.prog.globals.size + 1) mw = true) = ((.int .i64 0 : Value) = .int .i64 0 ∧ true = true) := by kernel_rfl
theorem op0 {base : World} (A : AtP base) : TotP base 19 [.string ⟨#[49]⟩] (.int .i64 0) := tot_closed all_good A (rulesK0_ok A) Tryz.func19 (by kernel_rfl) (by kernel_rfl) (by kernel_rfl) op0_run

set_option maxRecDepth 1000000 in
theorem op1_run (off : Nat) (spot : Option Nat) : (funcK (envP 285 wildsP rulesK0) 300 19 [.string ⟨#[50]⟩] (tabsE off spot) (Tryz.prog.globals.size + 1) fun u _ _ mw => u = .int .i64 0 ∧ Nat.ble (Tryz.prog.globals.size + 1) mw = true) = ((.int .i64 0 : Value) = .int .i64 0 ∧ true = true) := by kernel_rfl
theorem op1 {base : World} (A : AtP base) : TotP base 19 [.string ⟨#[50]⟩] (.int .i64 0) := tot_closed all_good A (rulesK0_ok A) Tryz.func19 (by kernel_rfl) (by kernel_rfl) (by kernel_rfl) op1_run

set_option maxRecDepth 1000000 in
theorem op2_run (off : Nat) (spot : Option Nat) : (funcK (envP 285 wildsP rulesK0) 300 19 [.string ⟨#[43]⟩] (tabsE off spot) (Tryz.prog.globals.size + 1) fun u _ _ mw => u = .int .i64 4 ∧ Nat.ble (Tryz.prog.globals.size + 1) mw = true) = ((.int .i64 4 : Value) = .int .i64 4 ∧ true = true) := by kernel_rfl
theorem op2 {base : World} (A : AtP base) : TotP base 19 [.string ⟨#[43]⟩] (.int .i64 4) := tot_closed all_good A (rulesK0_ok A) Tryz.func19 (by kernel_rfl) (by kernel_rfl) (by kernel_rfl) op2_run

set_option maxRecDepth 1000000 in
theorem op3_run (off : Nat) (spot : Option Nat) : (funcK (envP 285 wildsP rulesK0) 300 19 [.string ⟨#[97]⟩] (tabsE off spot) (Tryz.prog.globals.size + 1) fun u _ _ mw => u = .int .i64 0 ∧ Nat.ble (Tryz.prog.globals.size + 1) mw = true) = ((.int .i64 0 : Value) = .int .i64 0 ∧ true = true) := by kernel_rfl
theorem op3 {base : World} (A : AtP base) : TotP base 19 [.string ⟨#[97]⟩] (.int .i64 0) := tot_closed all_good A (rulesK0_ok A) Tryz.func19 (by kernel_rfl) (by kernel_rfl) (by kernel_rfl) op3_run

set_option maxRecDepth 1000000 in
theorem op4_run (off : Nat) (spot : Option Nat) : (funcK (envP 285 wildsP rulesK0) 300 19 [.string ⟨#[91]⟩] (tabsE off spot) (Tryz.prog.globals.size + 1) fun u _ _ mw => u = .int .i64 0 ∧ Nat.ble (Tryz.prog.globals.size + 1) mw = true) = ((.int .i64 0 : Value) = .int .i64 0 ∧ true = true) := by kernel_rfl
theorem op4 {base : World} (A : AtP base) : TotP base 19 [.string ⟨#[91]⟩] (.int .i64 0) := tot_closed all_good A (rulesK0_ok A) Tryz.func19 (by kernel_rfl) (by kernel_rfl) (by kernel_rfl) op4_run

set_option maxRecDepth 1000000 in
theorem op5_run (off : Nat) (spot : Option Nat) : (funcK (envP 285 wildsP rulesK0) 300 19 [.string ⟨#[93]⟩] (tabsE off spot) (Tryz.prog.globals.size + 1) fun u _ _ mw => u = .int .i64 0 ∧ Nat.ble (Tryz.prog.globals.size + 1) mw = true) = ((.int .i64 0 : Value) = .int .i64 0 ∧ true = true) := by kernel_rfl
theorem op5 {base : World} (A : AtP base) : TotP base 19 [.string ⟨#[93]⟩] (.int .i64 0) := tot_closed all_good A (rulesK0_ok A) Tryz.func19 (by kernel_rfl) (by kernel_rfl) (by kernel_rfl) op5_run

set_option maxRecDepth 1000000 in
theorem op6_run (off : Nat) (spot : Option Nat) : (funcK (envP 285 wildsP rulesK0) 300 19 [.string ⟨#[44]⟩] (tabsE off spot) (Tryz.prog.globals.size + 1) fun u _ _ mw => u = .int .i64 0 ∧ Nat.ble (Tryz.prog.globals.size + 1) mw = true) = ((.int .i64 0 : Value) = .int .i64 0 ∧ true = true) := by kernel_rfl
theorem op6 {base : World} (A : AtP base) : TotP base 19 [.string ⟨#[44]⟩] (.int .i64 0) := tot_closed all_good A (rulesK0_ok A) Tryz.func19 (by kernel_rfl) (by kernel_rfl) (by kernel_rfl) op6_run

set_option maxRecDepth 1000000 in
theorem op7_run (off : Nat) (spot : Option Nat) : (funcK (envP 285 wildsP rulesK0) 300 19 [.string ⟨#[105, 102]⟩] (tabsE off spot) (Tryz.prog.globals.size + 1) fun u _ _ mw => u = .int .i64 0 ∧ Nat.ble (Tryz.prog.globals.size + 1) mw = true) = ((.int .i64 0 : Value) = .int .i64 0 ∧ true = true) := by kernel_rfl
theorem op7 {base : World} (A : AtP base) : TotP base 19 [.string ⟨#[105, 102]⟩] (.int .i64 0) := tot_closed all_good A (rulesK0_ok A) Tryz.func19 (by kernel_rfl) (by kernel_rfl) (by kernel_rfl) op7_run

set_option maxRecDepth 1000000 in
theorem op8_run (off : Nat) (spot : Option Nat) : (funcK (envP 285 wildsP rulesK0) 300 19 [.string ⟨#[110, 117, 108, 108]⟩] (tabsE off spot) (Tryz.prog.globals.size + 1) fun u _ _ mw => u = .int .i64 0 ∧ Nat.ble (Tryz.prog.globals.size + 1) mw = true) = ((.int .i64 0 : Value) = .int .i64 0 ∧ true = true) := by kernel_rfl
theorem op8 {base : World} (A : AtP base) : TotP base 19 [.string ⟨#[110, 117, 108, 108]⟩] (.int .i64 0) := tot_closed all_good A (rulesK0_ok A) Tryz.func19 (by kernel_rfl) (by kernel_rfl) (by kernel_rfl) op8_run

set_option maxRecDepth 1000000 in
theorem op9_run (off : Nat) (spot : Option Nat) : (funcK (envP 285 wildsP rulesK0) 300 19 [.string ⟨#[116, 104, 101, 110]⟩] (tabsE off spot) (Tryz.prog.globals.size + 1) fun u _ _ mw => u = .int .i64 0 ∧ Nat.ble (Tryz.prog.globals.size + 1) mw = true) = ((.int .i64 0 : Value) = .int .i64 0 ∧ true = true) := by kernel_rfl
theorem op9 {base : World} (A : AtP base) : TotP base 19 [.string ⟨#[116, 104, 101, 110]⟩] (.int .i64 0) := tot_closed all_good A (rulesK0_ok A) Tryz.func19 (by kernel_rfl) (by kernel_rfl) (by kernel_rfl) op9_run

set_option maxRecDepth 1000000 in
theorem op10_run (off : Nat) (spot : Option Nat) : (funcK (envP 285 wildsP rulesK0) 300 19 [.string ⟨#[101, 108, 115, 101]⟩] (tabsE off spot) (Tryz.prog.globals.size + 1) fun u _ _ mw => u = .int .i64 0 ∧ Nat.ble (Tryz.prog.globals.size + 1) mw = true) = ((.int .i64 0 : Value) = .int .i64 0 ∧ true = true) := by kernel_rfl
theorem op10 {base : World} (A : AtP base) : TotP base 19 [.string ⟨#[101, 108, 115, 101]⟩] (.int .i64 0) := tot_closed all_good A (rulesK0_ok A) Tryz.func19 (by kernel_rfl) (by kernel_rfl) (by kernel_rfl) op10_run

set_option maxRecDepth 1000000 in
theorem op11_run (off : Nat) (spot : Option Nat) : (funcK (envP 285 wildsP rulesK0) 300 19 [.string ⟨#[115, 117, 109]⟩] (tabsE off spot) (Tryz.prog.globals.size + 1) fun u _ _ mw => u = .int .i64 0 ∧ Nat.ble (Tryz.prog.globals.size + 1) mw = true) = ((.int .i64 0 : Value) = .int .i64 0 ∧ true = true) := by kernel_rfl
theorem op11 {base : World} (A : AtP base) : TotP base 19 [.string ⟨#[115, 117, 109]⟩] (.int .i64 0) := tot_closed all_good A (rulesK0_ok A) Tryz.func19 (by kernel_rfl) (by kernel_rfl) (by kernel_rfl) op11_run

set_option maxRecDepth 1000000 in
theorem op12_run (off : Nat) (spot : Option Nat) : (funcK (envP 285 wildsP rulesK0) 300 19 [.string ⟨#[40]⟩] (tabsE off spot) (Tryz.prog.globals.size + 1) fun u _ _ mw => u = .int .i64 0 ∧ Nat.ble (Tryz.prog.globals.size + 1) mw = true) = ((.int .i64 0 : Value) = .int .i64 0 ∧ true = true) := by kernel_rfl
theorem op12 {base : World} (A : AtP base) : TotP base 19 [.string ⟨#[40]⟩] (.int .i64 0) := tot_closed all_good A (rulesK0_ok A) Tryz.func19 (by kernel_rfl) (by kernel_rfl) (by kernel_rfl) op12_run

set_option maxRecDepth 1000000 in
theorem op13_run (off : Nat) (spot : Option Nat) : (funcK (envP 285 wildsP rulesK0) 300 19 [.string ⟨#[41]⟩] (tabsE off spot) (Tryz.prog.globals.size + 1) fun u _ _ mw => u = .int .i64 0 ∧ Nat.ble (Tryz.prog.globals.size + 1) mw = true) = ((.int .i64 0 : Value) = .int .i64 0 ∧ true = true) := by kernel_rfl
theorem op13 {base : World} (A : AtP base) : TotP base 19 [.string ⟨#[41]⟩] (.int .i64 0) := tot_closed all_good A (rulesK0_ok A) Tryz.func19 (by kernel_rfl) (by kernel_rfl) (by kernel_rfl) op13_run

set_option maxRecDepth 1000000 in
theorem op14_run (off : Nat) (spot : Option Nat) : (funcK (envP 285 wildsP rulesK0) 300 19 [.string ⟨#[102, 117, 110, 99, 116, 105, 111, 110]⟩] (tabsE off spot) (Tryz.prog.globals.size + 1) fun u _ _ mw => u = .int .i64 0 ∧ Nat.ble (Tryz.prog.globals.size + 1) mw = true) = ((.int .i64 0 : Value) = .int .i64 0 ∧ true = true) := by kernel_rfl
theorem op14 {base : World} (A : AtP base) : TotP base 19 [.string ⟨#[102, 117, 110, 99, 116, 105, 111, 110]⟩] (.int .i64 0) := tot_closed all_good A (rulesK0_ok A) Tryz.func19 (by kernel_rfl) (by kernel_rfl) (by kernel_rfl) op14_run

set_option maxRecDepth 1000000 in
theorem op15_run (off : Nat) (spot : Option Nat) : (funcK (envP 285 wildsP rulesK0) 300 19 [.string ⟨#[120]⟩] (tabsE off spot) (Tryz.prog.globals.size + 1) fun u _ _ mw => u = .int .i64 0 ∧ Nat.ble (Tryz.prog.globals.size + 1) mw = true) = ((.int .i64 0 : Value) = .int .i64 0 ∧ true = true) := by kernel_rfl
theorem op15 {base : World} (A : AtP base) : TotP base 19 [.string ⟨#[120]⟩] (.int .i64 0) := tot_closed all_good A (rulesK0_ok A) Tryz.func19 (by kernel_rfl) (by kernel_rfl) (by kernel_rfl) op15_run

set_option maxRecDepth 1000000 in
theorem op16_run (off : Nat) (spot : Option Nat) : (funcK (envP 285 wildsP rulesK0) 300 19 [.string ⟨#[58]⟩] (tabsE off spot) (Tryz.prog.globals.size + 1) fun u _ _ mw => u = .int .i64 0 ∧ Nat.ble (Tryz.prog.globals.size + 1) mw = true) = ((.int .i64 0 : Value) = .int .i64 0 ∧ true = true) := by kernel_rfl
theorem op16 {base : World} (A : AtP base) : TotP base 19 [.string ⟨#[58]⟩] (.int .i64 0) := tot_closed all_good A (rulesK0_ok A) Tryz.func19 (by kernel_rfl) (by kernel_rfl) (by kernel_rfl) op16_run

set_option maxRecDepth 1000000 in
theorem op17_run (off : Nat) (spot : Option Nat) : (funcK (envP 285 wildsP rulesK0) 300 19 [.string ⟨#[110, 117, 109, 98, 101, 114]⟩] (tabsE off spot) (Tryz.prog.globals.size + 1) fun u _ _ mw => u = .int .i64 0 ∧ Nat.ble (Tryz.prog.globals.size + 1) mw = true) = ((.int .i64 0 : Value) = .int .i64 0 ∧ true = true) := by kernel_rfl
theorem op17 {base : World} (A : AtP base) : TotP base 19 [.string ⟨#[110, 117, 109, 98, 101, 114]⟩] (.int .i64 0) := tot_closed all_good A (rulesK0_ok A) Tryz.func19 (by kernel_rfl) (by kernel_rfl) (by kernel_rfl) op17_run

set_option maxRecDepth 1000000 in
theorem op18_run (off : Nat) (spot : Option Nat) : (funcK (envP 285 wildsP rulesK0) 300 19 [.string ⟨#[]⟩] (tabsE off spot) (Tryz.prog.globals.size + 1) fun u _ _ mw => u = .int .i64 0 ∧ Nat.ble (Tryz.prog.globals.size + 1) mw = true) = ((.int .i64 0 : Value) = .int .i64 0 ∧ true = true) := by kernel_rfl
theorem op18 {base : World} (A : AtP base) : TotP base 19 [.string ⟨#[]⟩] (.int .i64 0) := tot_closed all_good A (rulesK0_ok A) Tryz.func19 (by kernel_rfl) (by kernel_rfl) (by kernel_rfl) op18_run

def tabOp : List (List Value × Value) := [([.string ⟨#[49]⟩], .int .i64 0), ([.string ⟨#[50]⟩], .int .i64 0), ([.string ⟨#[43]⟩], .int .i64 4), ([.string ⟨#[97]⟩], .int .i64 0), ([.string ⟨#[91]⟩], .int .i64 0), ([.string ⟨#[93]⟩], .int .i64 0), ([.string ⟨#[44]⟩], .int .i64 0), ([.string ⟨#[105, 102]⟩], .int .i64 0), ([.string ⟨#[110, 117, 108, 108]⟩], .int .i64 0), ([.string ⟨#[116, 104, 101, 110]⟩], .int .i64 0), ([.string ⟨#[101, 108, 115, 101]⟩], .int .i64 0), ([.string ⟨#[115, 117, 109]⟩], .int .i64 0), ([.string ⟨#[40]⟩], .int .i64 0), ([.string ⟨#[41]⟩], .int .i64 0), ([.string ⟨#[102, 117, 110, 99, 116, 105, 111, 110]⟩], .int .i64 0), ([.string ⟨#[120]⟩], .int .i64 0), ([.string ⟨#[58]⟩], .int .i64 0), ([.string ⟨#[110, 117, 109, 98, 101, 114]⟩], .int .i64 0), ([.string ⟨#[]⟩], .int .i64 0)]
theorem tabOp_ok {base : World} (A : AtP base) : RuleOk Tryz.prog base 19 (ruleTab tabOp) := ruleOk_tab (by
  unfold tabOp
  exact List.forall_mem_cons.2 ⟨op0 A, List.forall_mem_cons.2 ⟨op1 A, List.forall_mem_cons.2 ⟨op2 A, List.forall_mem_cons.2 ⟨op3 A, List.forall_mem_cons.2 ⟨op4 A, List.forall_mem_cons.2 ⟨op5 A, List.forall_mem_cons.2 ⟨op6 A, List.forall_mem_cons.2 ⟨op7 A, List.forall_mem_cons.2 ⟨op8 A, List.forall_mem_cons.2 ⟨op9 A, List.forall_mem_cons.2 ⟨op10 A, List.forall_mem_cons.2 ⟨op11 A, List.forall_mem_cons.2 ⟨op12 A, List.forall_mem_cons.2 ⟨op13 A, List.forall_mem_cons.2 ⟨op14 A, List.forall_mem_cons.2 ⟨op15 A, List.forall_mem_cons.2 ⟨op16 A, List.forall_mem_cons.2 ⟨op17 A, List.forall_mem_cons.2 ⟨op18 A, fun _ h => nomatch h⟩⟩⟩⟩⟩⟩⟩⟩⟩⟩⟩⟩⟩⟩⟩⟩⟩⟩⟩)

set_option maxRecDepth 1000000 in
theorem kw0_run (off : Nat) (spot : Option Nat) : (funcK (envP 285 wildsP rulesK0) 300 97 [.string ⟨#[97]⟩] (tabsE off spot) (Tryz.prog.globals.size + 1) fun u _ _ mw => u = .bool false ∧ Nat.ble (Tryz.prog.globals.size + 1) mw = true) = ((.bool false : Value) = .bool false ∧ true = true) := by kernel_rfl
theorem kw0 {base : World} (A : AtP base) : TotP base 97 [.string ⟨#[97]⟩] (.bool false) := tot_closed all_good A (rulesK0_ok A) Tryz.func97 (by kernel_rfl) (by kernel_rfl) (by kernel_rfl) kw0_run

set_option maxRecDepth 1000000 in
theorem kw1_run (off : Nat) (spot : Option Nat) : (funcK (envP 285 wildsP rulesK0) 300 97 [.string ⟨#[97, 98, 115]⟩] (tabsE off spot) (Tryz.prog.globals.size + 1) fun u _ _ mw => u = .bool false ∧ Nat.ble (Tryz.prog.globals.size + 1) mw = true) = ((.bool false : Value) = .bool false ∧ true = true) := by kernel_rfl
theorem kw1 {base : World} (A : AtP base) : TotP base 97 [.string ⟨#[97, 98, 115]⟩] (.bool false) := tot_closed all_good A (rulesK0_ok A) Tryz.func97 (by kernel_rfl) (by kernel_rfl) (by kernel_rfl) kw1_run

set_option maxRecDepth 1000000 in
theorem kw2_run (off : Nat) (spot : Option Nat) : (funcK (envP 285 wildsP rulesK0) 300 97 [.string ⟨#[97, 102, 116, 101, 114]⟩] (tabsE off spot) (Tryz.prog.globals.size + 1) fun u _ _ mw => u = .bool false ∧ Nat.ble (Tryz.prog.globals.size + 1) mw = true) = ((.bool false : Value) = .bool false ∧ true = true) := by kernel_rfl
theorem kw2 {base : World} (A : AtP base) : TotP base 97 [.string ⟨#[97, 102, 116, 101, 114]⟩] (.bool false) := tot_closed all_good A (rulesK0_ok A) Tryz.func97 (by kernel_rfl) (by kernel_rfl) (by kernel_rfl) kw2_run

set_option maxRecDepth 1000000 in
theorem kw3_run (off : Nat) (spot : Option Nat) : (funcK (envP 285 wildsP rulesK0) 300 97 [.string ⟨#[97, 108, 108]⟩] (tabsE off spot) (Tryz.prog.globals.size + 1) fun u _ _ mw => u = .bool false ∧ Nat.ble (Tryz.prog.globals.size + 1) mw = true) = ((.bool false : Value) = .bool false ∧ true = true) := by kernel_rfl
theorem kw3 {base : World} (A : AtP base) : TotP base 97 [.string ⟨#[97, 108, 108]⟩] (.bool false) := tot_closed all_good A (rulesK0_ok A) Tryz.func97 (by kernel_rfl) (by kernel_rfl) (by kernel_rfl) kw3_run

set_option maxRecDepth 1000000 in
theorem kw4_run (off : Nat) (spot : Option Nat) : (funcK (envP 285 wildsP rulesK0) 300 97 [.string ⟨#[97, 110, 100]⟩] (tabsE off spot) (Tryz.prog.globals.size + 1) fun u _ _ mw => u = .bool true ∧ Nat.ble (Tryz.prog.globals.size + 1) mw = true) = ((.bool true : Value) = .bool true ∧ true = true) := by kernel_rfl
theorem kw4 {base : World} (A : AtP base) : TotP base 97 [.string ⟨#[97, 110, 100]⟩] (.bool true) := tot_closed all_good A (rulesK0_ok A) Tryz.func97 (by kernel_rfl) (by kernel_rfl) (by kernel_rfl) kw4_run

set_option maxRecDepth 1000000 in
theorem kw5_run (off : Nat) (spot : Option Nat) : (funcK (envP 285 wildsP rulesK0) 300 97 [.string ⟨#[97, 110, 121]⟩] (tabsE off spot) (Tryz.prog.globals.size + 1) fun u _ _ mw => u = .bool false ∧ Nat.ble (Tryz.prog.globals.size + 1) mw = true) = ((.bool false : Value) = .bool false ∧ true = true) := by kernel_rfl
theorem kw5 {base : World} (A : AtP base) : TotP base 97 [.string ⟨#[97, 110, 121]⟩] (.bool false) := tot_closed all_good A (rulesK0_ok A) Tryz.func97 (by kernel_rfl) (by kernel_rfl) (by kernel_rfl) kw5_run

set_option maxRecDepth 1000000 in
theorem kw6_run (off : Nat) (spot : Option Nat) : (funcK (envP 285 wildsP rulesK0) 300 97 [.string ⟨#[97, 112, 112, 101, 110, 100]⟩] (tabsE off spot) (Tryz.prog.globals.size + 1) fun u _ _ mw => u = .bool false ∧ Nat.ble (Tryz.prog.globals.size + 1) mw = true) = ((.bool false : Value) = .bool false ∧ true = true) := by kernel_rfl
theorem kw6 {base : World} (A : AtP base) : TotP base 97 [.string ⟨#[97, 112, 112, 101, 110, 100]⟩] (.bool false) := tot_closed all_good A (rulesK0_ok A) Tryz.func97 (by kernel_rfl) (by kernel_rfl) (by kernel_rfl) kw6_run

set_option maxRecDepth 1000000 in
theorem kw7_run (off : Nat) (spot : Option Nat) : (funcK (envP 285 wildsP rulesK0) 300 97 [.string ⟨#[98, 101, 102, 111, 114, 101]⟩] (tabsE off spot) (Tryz.prog.globals.size + 1) fun u _ _ mw => u = .bool false ∧ Nat.ble (Tryz.prog.globals.size + 1) mw = true) = ((.bool false : Value) = .bool false ∧ true = true) := by kernel_rfl
theorem kw7 {base : World} (A : AtP base) : TotP base 97 [.string ⟨#[98, 101, 102, 111, 114, 101]⟩] (.bool false) := tot_closed all_good A (rulesK0_ok A) Tryz.func97 (by kernel_rfl) (by kernel_rfl) (by kernel_rfl) kw7_run

set_option maxRecDepth 1000000 in
theorem kw8_run (off : Nat) (spot : Option Nat) : (funcK (envP 285 wildsP rulesK0) 300 97 [.string ⟨#[98, 121]⟩] (tabsE off spot) (Tryz.prog.globals.size + 1) fun u _ _ mw => u = .bool false ∧ Nat.ble (Tryz.prog.globals.size + 1) mw = true) = ((.bool false : Value) = .bool false ∧ true = true) := by kernel_rfl
theorem kw8 {base : World} (A : AtP base) : TotP base 97 [.string ⟨#[98, 121]⟩] (.bool false) := tot_closed all_good A (rulesK0_ok A) Tryz.func97 (by kernel_rfl) (by kernel_rfl) (by kernel_rfl) kw8_run

set_option maxRecDepth 1000000 in
theorem kw9_run (off : Nat) (spot : Option Nat) : (funcK (envP 285 wildsP rulesK0) 300 97 [.string ⟨#[99, 97, 115, 101]⟩] (tabsE off spot) (Tryz.prog.globals.size + 1) fun u _ _ mw => u = .bool false ∧ Nat.ble (Tryz.prog.globals.size + 1) mw = true) = ((.bool false : Value) = .bool false ∧ true = true) := by kernel_rfl
theorem kw9 {base : World} (A : AtP base) : TotP base 97 [.string ⟨#[99, 97, 115, 101]⟩] (.bool false) := tot_closed all_good A (rulesK0_ok A) Tryz.func97 (by kernel_rfl) (by kernel_rfl) (by kernel_rfl) kw9_run

set_option maxRecDepth 1000000 in
theorem kw10_run (off : Nat) (spot : Option Nat) : (funcK (envP 285 wildsP rulesK0) 300 97 [.string ⟨#[99, 101, 105, 108, 105, 110, 103]⟩] (tabsE off spot) (Tryz.prog.globals.size + 1) fun u _ _ mw => u = .bool false ∧ Nat.ble (Tryz.prog.globals.size + 1) mw = true) = ((.bool false : Value) = .bool false ∧ true = true) := by kernel_rfl
theorem kw10 {base : World} (A : AtP base) : TotP base 97 [.string ⟨#[99, 101, 105, 108, 105, 110, 103]⟩] (.bool false) := tot_closed all_good A (rulesK0_ok A) Tryz.func97 (by kernel_rfl) (by kernel_rfl) (by kernel_rfl) kw10_run

set_option maxRecDepth 1000000 in
theorem kw11_run (off : Nat) (spot : Option Nat) : (funcK (envP 285 wildsP rulesK0) 300 97 [.string ⟨#[99, 111, 105, 110, 99, 105, 100, 101, 115]⟩] (tabsE off spot) (Tryz.prog.globals.size + 1) fun u _ _ mw => u = .bool false ∧ Nat.ble (Tryz.prog.globals.size + 1) mw = true) = ((.bool false : Value) = .bool false ∧ true = true) := by kernel_rfl
theorem kw11 {base : World} (A : AtP base) : TotP base 97 [.string ⟨#[99, 111, 105, 110, 99, 105, 100, 101, 115]⟩] (.bool false) := tot_closed all_good A (rulesK0_ok A) Tryz.func97 (by kernel_rfl) (by kernel_rfl) (by kernel_rfl) kw11_run

set_option maxRecDepth 1000000 in
theorem kw12_run (off : Nat) (spot : Option Nat) : (funcK (envP 285 wildsP rulesK0) 300 97 [.string ⟨#[99, 111, 110, 99, 97, 116, 101, 110, 97, 116, 101]⟩] (tabsE off spot) (Tryz.prog.globals.size + 1) fun u _ _ mw => u = .bool false ∧ Nat.ble (Tryz.prog.globals.size + 1) mw = true) = ((.bool false : Value) = .bool false ∧ true = true) := by kernel_rfl
theorem kw12 {base : World} (A : AtP base) : TotP base 97 [.string ⟨#[99, 111, 110, 99, 97, 116, 101, 110, 97, 116, 101]⟩] (.bool false) := tot_closed all_good A (rulesK0_ok A) Tryz.func97 (by kernel_rfl) (by kernel_rfl) (by kernel_rfl) kw12_run

set_option maxRecDepth 1000000 in
theorem kw13_run (off : Nat) (spot : Option Nat) : (funcK (envP 285 wildsP rulesK0) 300 97 [.string ⟨#[99, 111, 110, 116, 97, 105, 110, 115]⟩] (tabsE off spot) (Tryz.prog.globals.size + 1) fun u _ _ mw => u = .bool false ∧ Nat.ble (Tryz.prog.globals.size + 1) mw = true) = ((.bool false : Value) = .bool false ∧ true = true) := by kernel_rfl
theorem kw13 {base : World} (A : AtP base) : TotP base 97 [.string ⟨#[99, 111, 110, 116, 97, 105, 110, 115]⟩] (.bool false) := tot_closed all_good A (rulesK0_ok A) Tryz.func97 (by kernel_rfl) (by kernel_rfl) (by kernel_rfl) kw13_run

set_option maxRecDepth 1000000 in
theorem kw14_run (off : Nat) (spot : Option Nat) : (funcK (envP 285 wildsP rulesK0) 300 97 [.string ⟨#[99, 111, 110, 116, 101, 120, 116]⟩] (tabsE off spot) (Tryz.prog.globals.size + 1) fun u _ _ mw => u = .bool false ∧ Nat.ble (Tryz.prog.globals.size + 1) mw = true) = ((.bool false : Value) = .bool false ∧ true = true) := by kernel_rfl
theorem kw14 {base : World} (A : AtP base) : TotP base 97 [.string ⟨#[99, 111, 110, 116, 101, 120, 116]⟩] (.bool false) := tot_closed all_good A (rulesK0_ok A) Tryz.func97 (by kernel_rfl) (by kernel_rfl) (by kernel_rfl) kw14_run

set_option maxRecDepth 1000000 in
theorem kw15_run (off : Nat) (spot : Option Nat) : (funcK (envP 285 wildsP rulesK0) 300 97 [.string ⟨#[99, 111, 117, 110, 116]⟩] (tabsE off spot) (Tryz.prog.globals.size + 1) fun u _ _ mw => u = .bool false ∧ Nat.ble (Tryz.prog.globals.size + 1) mw = true) = ((.bool false : Value) = .bool false ∧ true = true) := by kernel_rfl
theorem kw15 {base : World} (A : AtP base) : TotP base 97 [.string ⟨#[99, 111, 117, 110, 116]⟩] (.bool false) := tot_closed all_good A (rulesK0_ok A) Tryz.func97 (by kernel_rfl) (by kernel_rfl) (by kernel_rfl) kw15_run

set_option maxRecDepth 1000000 in
theorem kw16_run (off : Nat) (spot : Option Nat) : (funcK (envP 285 wildsP rulesK0) 300 97 [.string ⟨#[100, 97, 116, 101]⟩] (tabsE off spot) (Tryz.prog.globals.size + 1) fun u _ _ mw => u = .bool false ∧ Nat.ble (Tryz.prog.globals.size + 1) mw = true) = ((.bool false : Value) = .bool false ∧ true = true) := by kernel_rfl
theorem kw16 {base : World} (A : AtP base) : TotP base 97 [.string ⟨#[100, 97, 116, 101]⟩] (.bool false) := tot_closed all_good A (rulesK0_ok A) Tryz.func97 (by kernel_rfl) (by kernel_rfl) (by kernel_rfl) kw16_run

set_option maxRecDepth 1000000 in
theorem kw17_run (off : Nat) (spot : Option Nat) : (funcK (envP 285 wildsP rulesK0) 300 97 [.string ⟨#[100, 97, 121]⟩] (tabsE off spot) (Tryz.prog.globals.size + 1) fun u _ _ mw => u = .bool false ∧ Nat.ble (Tryz.prog.globals.size + 1) mw = true) = ((.bool false : Value) = .bool false ∧ true = true) := by kernel_rfl
theorem kw17 {base : World} (A : AtP base) : TotP base 97 [.string ⟨#[100, 97, 121]⟩] (.bool false) := tot_closed all_good A (rulesK0_ok A) Tryz.func97 (by kernel_rfl) (by kernel_rfl) (by kernel_rfl) kw17_run

set_option maxRecDepth 1000000 in
theorem kw18_run (off : Nat) (spot : Option Nat) : (funcK (envP 285 wildsP rulesK0) 300 97 [.string ⟨#[100, 101, 99, 105, 109, 97, 108]⟩] (tabsE off spot) (Tryz.prog.globals.size + 1) fun u _ _ mw => u = .bool false ∧ Nat.ble (Tryz.prog.globals.size + 1) mw = true) = ((.bool false : Value) = .bool false ∧ true = true) := by kernel_rfl
theorem kw18 {base : World} (A : AtP base) : TotP base 97 [.string ⟨#[100, 101, 99, 105, 109, 97, 108]⟩] (.bool false) := tot_closed all_good A (rulesK0_ok A) Tryz.func97 (by kernel_rfl) (by kernel_rfl) (by kernel_rfl) kw18_run

set_option maxRecDepth 1000000 in
theorem kw19_run (off : Nat) (spot : Option Nat) : (funcK (envP 285 wildsP rulesK0) 300 97 [.string ⟨#[100, 105, 115, 116, 105, 110, 99, 116]⟩] (tabsE off spot) (Tryz.prog.globals.size + 1) fun u _ _ mw => u = .bool false ∧ Nat.ble (Tryz.prog.globals.size + 1) mw = true) = ((.bool false : Value) = .bool false ∧ true = true) := by kernel_rfl
theorem kw19 {base : World} (A : AtP base) : TotP base 97 [.string ⟨#[100, 105, 115, 116, 105, 110, 99, 116]⟩] (.bool false) := tot_closed all_good A (rulesK0_ok A) Tryz.func97 (by kernel_rfl) (by kernel_rfl) (by kernel_rfl) kw19_run

set_option maxRecDepth 1000000 in
theorem kw20_run (off : Nat) (spot : Option Nat) : (funcK (envP 285 wildsP rulesK0) 300 97 [.string ⟨#[100, 111, 119, 110]⟩] (tabsE off spot) (Tryz.prog.globals.size + 1) fun u _ _ mw => u = .bool false ∧ Nat.ble (Tryz.prog.globals.size + 1) mw = true) = ((.bool false : Value) = .bool false ∧ true = true) := by kernel_rfl
theorem kw20 {base : World} (A : AtP base) : TotP base 97 [.string ⟨#[100, 111, 119, 110]⟩] (.bool false) := tot_closed all_good A (rulesK0_ok A) Tryz.func97 (by kernel_rfl) (by kernel_rfl) (by kernel_rfl) kw20_run

set_option maxRecDepth 1000000 in
theorem kw21_run (off : Nat) (spot : Option Nat) : (funcK (envP 285 wildsP rulesK0) 300 97 [.string ⟨#[100, 117, 114, 97, 116, 105, 111, 110]⟩] (tabsE off spot) (Tryz.prog.globals.size + 1) fun u _ _ mw => u = .bool false ∧ Nat.ble (Tryz.prog.globals.size + 1) mw = true) = ((.bool false : Value) = .bool false ∧ true = true) := by kernel_rfl
theorem kw21 {base : World} (A : AtP base) : TotP base 97 [.string ⟨#[100, 117, 114, 97, 116, 105, 111, 110]⟩] (.bool false) := tot_closed all_good A (rulesK0_ok A) Tryz.func97 (by kernel_rfl) (by kernel_rfl) (by kernel_rfl) kw21_run

set_option maxRecDepth 1000000 in
theorem kw22_run (off : Nat) (spot : Option Nat) : (funcK (envP 285 wildsP rulesK0) 300 97 [.string ⟨#[100, 117, 114, 105, 110, 103]⟩] (tabsE off spot) (Tryz.prog.globals.size + 1) fun u _ _ mw => u = .bool false ∧ Nat.ble (Tryz.prog.globals.size + 1) mw = true) = ((.bool false : Value) = .bool false ∧ true = true) := by kernel_rfl
theorem kw22 {base : World} (A : AtP base) : TotP base 97 [.string ⟨#[100, 117, 114, 105, 110, 103]⟩] (.bool false) := tot_closed all_good A (rulesK0_ok A) Tryz.func97 (by kernel_rfl) (by kernel_rfl) (by kernel_rfl) kw22_run

set_option maxRecDepth 1000000 in
theorem kw23_run (off : Nat) (spot : Option Nat) : (funcK (envP 285 wildsP rulesK0) 300 97 [.string ⟨#[101, 108, 115, 101]⟩] (tabsE off spot) (Tryz.prog.globals.size + 1) fun u _ _ mw => u = .bool true ∧ Nat.ble (Tryz.prog.globals.size + 1) mw = true) = ((.bool true : Value) = .bool true ∧ true = true) := by kernel_rfl
theorem kw23 {base : World} (A : AtP base) : TotP base 97 [.string ⟨#[101, 108, 115, 101]⟩] (.bool true) := tot_closed all_good A (rulesK0_ok A) Tryz.func97 (by kernel_rfl) (by kernel_rfl) (by kernel_rfl) kw23_run

set_option maxRecDepth 1000000 in
theorem kw24_run (off : Nat) (spot : Option Nat) : (funcK (envP 285 wildsP rulesK0) 300 97 [.string ⟨#[101, 110, 100, 115]⟩] (tabsE off spot) (Tryz.prog.globals.size + 1) fun u _ _ mw => u = .bool false ∧ Nat.ble (Tryz.prog.globals.size + 1) mw = true) = ((.bool false : Value) = .bool false ∧ true = true) := by kernel_rfl
theorem kw24 {base : World} (A : AtP base) : TotP base 97 [.string ⟨#[101, 110, 100, 115]⟩] (.bool false) := tot_closed all_good A (rulesK0_ok A) Tryz.func97 (by kernel_rfl) (by kernel_rfl) (by kernel_rfl) kw24_run

set_option maxRecDepth 1000000 in
theorem kw25_run (off : Nat) (spot : Option Nat) : (funcK (envP 285 wildsP rulesK0) 300 97 [.string ⟨#[101, 110, 116, 114, 105, 101, 115]⟩] (tabsE off spot) (Tryz.prog.globals.size + 1) fun u _ _ mw => u = .bool false ∧ Nat.ble (Tryz.prog.globals.size + 1) mw = true) = ((.bool false : Value) = .bool false ∧ true = true) := by kernel_rfl
theorem kw25 {base : World} (A : AtP base) : TotP base 97 [.string ⟨#[101, 110, 116, 114, 105, 101, 115]⟩] (.bool false) := tot_closed all_good A (rulesK0_ok A) Tryz.func97 (by kernel_rfl) (by kernel_rfl) (by kernel_rfl) kw25_run

set_option maxRecDepth 1000000 in
theorem kw26_run (off : Nat) (spot : Option Nat) : (funcK (envP 285 wildsP rulesK0) 300 97 [.string ⟨#[101, 118, 101, 110]⟩] (tabsE off spot) (Tryz.prog.globals.size + 1) fun u _ _ mw => u = .bool false ∧ Nat.ble (Tryz.prog.globals.size + 1) mw = true) = ((.bool false : Value) = .bool false ∧ true = true) := by kernel_rfl
theorem kw26 {base : World} (A : AtP base) : TotP base 97 [.string ⟨#[101, 118, 101, 110]⟩] (.bool false) := tot_closed all_good A (rulesK0_ok A) Tryz.func97 (by kernel_rfl) (by kernel_rfl) (by kernel_rfl) kw26_run

set_option maxRecDepth 1000000 in
theorem kw27_run (off : Nat) (spot : Option Nat) : (funcK (envP 285 wildsP rulesK0) 300 97 [.string ⟨#[102, 105, 110, 105, 115, 104, 101, 100]⟩] (tabsE off spot) (Tryz.prog.globals.size + 1) fun u _ _ mw => u = .bool false ∧ Nat.ble (Tryz.prog.globals.size + 1) mw = true) = ((.bool false : Value) = .bool false ∧ true = true) := by kernel_rfl
theorem kw27 {base : World} (A : AtP base) : TotP base 97 [.string ⟨#[102, 105, 110, 105, 115, 104, 101, 100]⟩] (.bool false) := tot_closed all_good A (rulesK0_ok A) Tryz.func97 (by kernel_rfl) (by kernel_rfl) (by kernel_rfl) kw27_run

set_option maxRecDepth 1000000 in
theorem kw28_run (off : Nat) (spot : Option Nat) : (funcK (envP 285 wildsP rulesK0) 300 97 [.string ⟨#[102, 105, 110, 105, 115, 104, 101, 115]⟩] (tabsE off spot) (Tryz.prog.globals.size + 1) fun u _ _ mw => u = .bool false ∧ Nat.ble (Tryz.prog.globals.size + 1) mw = true) = ((.bool false : Value) = .bool false ∧ true = true) := by kernel_rfl
theorem kw28 {base : World} (A : AtP base) : TotP base 97 [.string ⟨#[102, 105, 110, 105, 115, 104, 101, 115]⟩] (.bool false) := tot_closed all_good A (rulesK0_ok A) Tryz.func97 (by kernel_rfl) (by kernel_rfl) (by kernel_rfl) kw28_run

set_option maxRecDepth 1000000 in
theorem kw29_run (off : Nat) (spot : Option Nat) : (funcK (envP 285 wildsP rulesK0) 300 97 [.string ⟨#[102, 108, 97, 116, 116, 101, 110]⟩] (tabsE off spot) (Tryz.prog.globals.size + 1) fun u _ _ mw => u = .bool false ∧ Nat.ble (Tryz.prog.globals.size + 1) mw = true) = ((.bool false : Value) = .bool false ∧ true = true) := by kernel_rfl
theorem kw29 {base : World} (A : AtP base) : TotP base 97 [.string ⟨#[102, 108, 97, 116, 116, 101, 110]⟩] (.bool false) := tot_closed all_good A (rulesK0_ok A) Tryz.func97 (by kernel_rfl) (by kernel_rfl) (by kernel_rfl) kw29_run

set_option maxRecDepth 1000000 in
theorem kw30_run (off : Nat) (spot : Option Nat) : (funcK (envP 285 wildsP rulesK0) 300 97 [.string ⟨#[102, 108, 111, 111, 114]⟩] (tabsE off spot) (Tryz.prog.globals.size + 1) fun u _ _ mw => u = .bool false ∧ Nat.ble (Tryz.prog.globals.size + 1) mw = true) = ((.bool false : Value) = .bool false ∧ true = true) := by kernel_rfl
theorem kw30 {base : World} (A : AtP base) : TotP base 97 [.string ⟨#[102, 108, 111, 111, 114]⟩] (.bool false) := tot_closed all_good A (rulesK0_ok A) Tryz.func97 (by kernel_rfl) (by kernel_rfl) (by kernel_rfl) kw30_run

set_option maxRecDepth 1000000 in
theorem kw31_run (off : Nat) (spot : Option Nat) : (funcK (envP 285 wildsP rulesK0) 300 97 [.string ⟨#[102, 117, 110, 99, 116, 105, 111, 110]⟩] (tabsE off spot) (Tryz.prog.globals.size + 1) fun u _ _ mw => u = .bool true ∧ Nat.ble (Tryz.prog.globals.size + 1) mw = true) = ((.bool true : Value) = .bool true ∧ true = true) := by kernel_rfl
theorem kw31 {base : World} (A : AtP base) : TotP base 97 [.string ⟨#[102, 117, 110, 99, 116, 105, 111, 110]⟩] (.bool true) := tot_closed all_good A (rulesK0_ok A) Tryz.func97 (by kernel_rfl) (by kernel_rfl) (by kernel_rfl) kw31_run

set_option maxRecDepth 1000000 in
theorem kw32_run (off : Nat) (spot : Option Nat) : (funcK (envP 285 wildsP rulesK0) 300 97 [.string ⟨#[103, 101, 116]⟩] (tabsE off spot) (Tryz.prog.globals.size + 1) fun u _ _ mw => u = .bool false ∧ Nat.ble (Tryz.prog.globals.size + 1) mw = true) = ((.bool false : Value) = .bool false ∧ true = true) := by kernel_rfl
theorem kw32 {base : World} (A : AtP base) : TotP base 97 [.string ⟨#[103, 101, 116]⟩] (.bool false) := tot_closed all_good A (rulesK0_ok A) Tryz.func97 (by kernel_rfl) (by kernel_rfl) (by kernel_rfl) kw32_run

set_option maxRecDepth 1000000 in
theorem kw33_run (off : Nat) (spot : Option Nat) : (funcK (envP 285 wildsP rulesK0) 300 97 [.string ⟨#[104, 97, 108, 102]⟩] (tabsE off spot) (Tryz.prog.globals.size + 1) fun u _ _ mw => u = .bool false ∧ Nat.ble (Tryz.prog.globals.size + 1) mw = true) = ((.bool false : Value) = .bool false ∧ true = true) := by kernel_rfl
theorem kw33 {base : World} (A : AtP base) : TotP base 97 [.string ⟨#[104, 97, 108, 102]⟩] (.bool false) := tot_closed all_good A (rulesK0_ok A) Tryz.func97 (by kernel_rfl) (by kernel_rfl) (by kernel_rfl) kw33_run

set_option maxRecDepth 1000000 in
theorem kw34_run (off : Nat) (spot : Option Nat) : (funcK (envP 285 wildsP rulesK0) 300 97 [.string ⟨#[105, 102]⟩] (tabsE off spot) (Tryz.prog.globals.size + 1) fun u _ _ mw => u = .bool true ∧ Nat.ble (Tryz.prog.globals.size + 1) mw = true) = ((.bool true : Value) = .bool true ∧ true = true) := by kernel_rfl
theorem kw34 {base : World} (A : AtP base) : TotP base 97 [.string ⟨#[105, 102]⟩] (.bool true) := tot_closed all_good A (rulesK0_ok A) Tryz.func97 (by kernel_rfl) (by kernel_rfl) (by kernel_rfl) kw34_run

set_option maxRecDepth 1000000 in
theorem kw35_run (off : Nat) (spot : Option Nat) : (funcK (envP 285 wildsP rulesK0) 300 97 [.string ⟨#[105, 110, 99, 108, 117, 100, 101, 115]⟩] (tabsE off spot) (Tryz.prog.globals.size + 1) fun u _ _ mw => u = .bool false ∧ Nat.ble (Tryz.prog.globals.size + 1) mw = true) = ((.bool false : Value) = .bool false ∧ true = true) := by kernel_rfl
theorem kw35 {base : World} (A : AtP base) : TotP base 97 [.string ⟨#[105, 110, 99, 108, 117, 100, 101, 115]⟩] (.bool false) := tot_closed all_good A (rulesK0_ok A) Tryz.func97 (by kernel_rfl) (by kernel_rfl) (by kernel_rfl) kw35_run

set_option maxRecDepth 1000000 in
theorem kw36_run (off : Nat) (spot : Option Nat) : (funcK (envP 285 wildsP rulesK0) 300 97 [.string ⟨#[105, 110, 100, 101, 120]⟩] (tabsE off spot) (Tryz.prog.globals.size + 1) fun u _ _ mw => u = .bool false ∧ Nat.ble (Tryz.prog.globals.size + 1) mw = true) = ((.bool false : Value) = .bool false ∧ true = true) := by kernel_rfl
theorem kw36 {base : World} (A : AtP base) : TotP base 97 [.string ⟨#[105, 110, 100, 101, 120]⟩] (.bool false) := tot_closed all_good A (rulesK0_ok A) Tryz.func97 (by kernel_rfl) (by kernel_rfl) (by kernel_rfl) kw36_run

set_option maxRecDepth 1000000 in
theorem kw37_run (off : Nat) (spot : Option Nat) : (funcK (envP 285 wildsP rulesK0) 300 97 [.string ⟨#[105, 110, 115, 101, 114, 116]⟩] (tabsE off spot) (Tryz.prog.globals.size + 1) fun u _ _ mw => u = .bool false ∧ Nat.ble (Tryz.prog.globals.size + 1) mw = true) = ((.bool false : Value) = .bool false ∧ true = true) := by kernel_rfl
theorem kw37 {base : World} (A : AtP base) : TotP base 97 [.string ⟨#[105, 110, 115, 101, 114, 116]⟩] (.bool false) := tot_closed all_good A (rulesK0_ok A) Tryz.func97 (by kernel_rfl) (by kernel_rfl) (by kernel_rfl) kw37_run

set_option maxRecDepth 1000000 in
theorem kw38_run (off : Nat) (spot : Option Nat) : (funcK (envP 285 wildsP rulesK0) 300 97 [.string ⟨#[106, 111, 105, 110]⟩] (tabsE off spot) (Tryz.prog.globals.size + 1) fun u _ _ mw => u = .bool false ∧ Nat.ble (Tryz.prog.globals.size + 1) mw = true) = ((.bool false : Value) = .bool false ∧ true = true) := by kernel_rfl
theorem kw38 {base : World} (A : AtP base) : TotP base 97 [.string ⟨#[106, 111, 105, 110]⟩] (.bool false) := tot_closed all_good A (rulesK0_ok A) Tryz.func97 (by kernel_rfl) (by kernel_rfl) (by kernel_rfl) kw38_run

set_option maxRecDepth 1000000 in
theorem kw39_run (off : Nat) (spot : Option Nat) : (funcK (envP 285 wildsP rulesK0) 300 97 [.string ⟨#[108, 101, 110, 103, 116, 104]⟩] (tabsE off spot) (Tryz.prog.globals.size + 1) fun u _ _ mw => u = .bool false ∧ Nat.ble (Tryz.prog.globals.size + 1) mw = true) = ((.bool false : Value) = .bool false ∧ true = true) := by kernel_rfl
theorem kw39 {base : World} (A : AtP base) : TotP base 97 [.string ⟨#[108, 101, 110, 103, 116, 104]⟩] (.bool false) := tot_closed all_good A (rulesK0_ok A) Tryz.func97 (by kernel_rfl) (by kernel_rfl) (by kernel_rfl) kw39_run

set_option maxRecDepth 1000000 in
theorem kw40_run (off : Nat) (spot : Option Nat) : (funcK (envP 285 wildsP rulesK0) 300 97 [.string ⟨#[108, 105, 115, 116]⟩] (tabsE off spot) (Tryz.prog.globals.size + 1) fun u _ _ mw => u = .bool false ∧ Nat.ble (Tryz.prog.globals.size + 1) mw = true) = ((.bool false : Value) = .bool false ∧ true = true) := by kernel_rfl
theorem kw40 {base : World} (A : AtP base) : TotP base 97 [.string ⟨#[108, 105, 115, 116]⟩] (.bool false) := tot_closed all_good A (rulesK0_ok A) Tryz.func97 (by kernel_rfl) (by kernel_rfl) (by kernel_rfl) kw40_run

set_option maxRecDepth 1000000 in
theorem kw41_run (off : Nat) (spot : Option Nat) : (funcK (envP 285 wildsP rulesK0) 300 97 [.string ⟨#[108, 111, 119, 101, 114]⟩] (tabsE off spot) (Tryz.prog.globals.size + 1) fun u _ _ mw => u = .bool false ∧ Nat.ble (Tryz.prog.globals.size + 1) mw = true) = ((.bool false : Value) = .bool false ∧ true = true) := by kernel_rfl
theorem kw41 {base : World} (A : AtP base) : TotP base 97 [.string ⟨#[108, 111, 119, 101, 114]⟩] (.bool false) := tot_closed all_good A (rulesK0_ok A) Tryz.func97 (by kernel_rfl) (by kernel_rfl) (by kernel_rfl) kw41_run

set_option maxRecDepth 1000000 in
theorem kw42_run (off : Nat) (spot : Option Nat) : (funcK (envP 285 wildsP rulesK0) 300 97 [.string ⟨#[109, 97, 120]⟩] (tabsE off spot) (Tryz.prog.globals.size + 1) fun u _ _ mw => u = .bool false ∧ Nat.ble (Tryz.prog.globals.size + 1) mw = true) = ((.bool false : Value) = .bool false ∧ true = true) := by kernel_rfl
theorem kw42 {base : World} (A : AtP base) : TotP base 97 [.string ⟨#[109, 97, 120]⟩] (.bool false) := tot_closed all_good A (rulesK0_ok A) Tryz.func97 (by kernel_rfl) (by kernel_rfl) (by kernel_rfl) kw42_run

set_option maxRecDepth 1000000 in
theorem kw43_run (off : Nat) (spot : Option Nat) : (funcK (envP 285 wildsP rulesK0) 300 97 [.string ⟨#[109, 101, 97, 110]⟩] (tabsE off spot) (Tryz.prog.globals.size + 1) fun u _ _ mw => u = .bool false ∧ Nat.ble (Tryz.prog.globals.size + 1) mw = true) = ((.bool false : Value) = .bool false ∧ true = true) := by kernel_rfl
theorem kw43 {base : World} (A : AtP base) : TotP base 97 [.string ⟨#[109, 101, 97, 110]⟩] (.bool false) := tot_closed all_good A (rulesK0_ok A) Tryz.func97 (by kernel_rfl) (by kernel_rfl) (by kernel_rfl) kw43_run

set_option maxRecDepth 1000000 in
theorem kw44_run (off : Nat) (spot : Option Nat) : (funcK (envP 285 wildsP rulesK0) 300 97 [.string ⟨#[109, 101, 100, 105, 97, 110]⟩] (tabsE off spot) (Tryz.prog.globals.size + 1) fun u _ _ mw => u = .bool false ∧ Nat.ble (Tryz.prog.globals.size + 1) mw = true) = ((.bool false : Value) = .bool false ∧ true = true) := by kernel_rfl
theorem kw44 {base : World} (A : AtP base) : TotP base 97 [.string ⟨#[109, 101, 100, 105, 97, 110]⟩] (.bool false) := tot_closed all_good A (rulesK0_ok A) Tryz.func97 (by kernel_rfl) (by kernel_rfl) (by kernel_rfl) kw44_run

set_option maxRecDepth 1000000 in
theorem kw45_run (off : Nat) (spot : Option Nat) : (funcK (envP 285 wildsP rulesK0) 300 97 [.string ⟨#[109, 101, 101, 116, 115]⟩] (tabsE off spot) (Tryz.prog.globals.size + 1) fun u _ _ mw => u = .bool false ∧ Nat.ble (Tryz.prog.globals.size + 1) mw = true) = ((.bool false : Value) = .bool false ∧ true = true) := by kernel_rfl
theorem kw45 {base : World} (A : AtP base) : TotP base 97 [.string ⟨#[109, 101, 101, 116, 115]⟩] (.bool false) := tot_closed all_good A (rulesK0_ok A) Tryz.func97 (by kernel_rfl) (by kernel_rfl) (by kernel_rfl) kw45_run

set_option maxRecDepth 1000000 in
theorem kw46_run (off : Nat) (spot : Option Nat) : (funcK (envP 285 wildsP rulesK0) 300 97 [.string ⟨#[109, 101, 114, 103, 101]⟩] (tabsE off spot) (Tryz.prog.globals.size + 1) fun u _ _ mw => u = .bool false ∧ Nat.ble (Tryz.prog.globals.size + 1) mw = true) = ((.bool false : Value) = .bool false ∧ true = true) := by kernel_rfl
theorem kw46 {base : World} (A : AtP base) : TotP base 97 [.string ⟨#[109, 101, 114, 103, 101]⟩] (.bool false) := tot_closed all_good A (rulesK0_ok A) Tryz.func97 (by kernel_rfl) (by kernel_rfl) (by kernel_rfl) kw46_run

set_option maxRecDepth 1000000 in
theorem kw47_run (off : Nat) (spot : Option Nat) : (funcK (envP 285 wildsP rulesK0) 300 97 [.string ⟨#[109, 101, 116]⟩] (tabsE off spot) (Tryz.prog.globals.size + 1) fun u _ _ mw => u = .bool false ∧ Nat.ble (Tryz.prog.globals.size + 1) mw = true) = ((.bool false : Value) = .bool false ∧ true = true) := by kernel_rfl
theorem kw47 {base : World} (A : AtP base) : TotP base 97 [.string ⟨#[109, 101, 116]⟩] (.bool false) := tot_closed all_good A (rulesK0_ok A) Tryz.func97 (by kernel_rfl) (by kernel_rfl) (by kernel_rfl) kw47_run

set_option maxRecDepth 1000000 in
theorem kw48_run (off : Nat) (spot : Option Nat) : (funcK (envP 285 wildsP rulesK0) 300 97 [.string ⟨#[109, 105, 110]⟩] (tabsE off spot) (Tryz.prog.globals.size + 1) fun u _ _ mw => u = .bool false ∧ Nat.ble (Tryz.prog.globals.size + 1) mw = true) = ((.bool false : Value) = .bool false ∧ true = true) := by kernel_rfl
theorem kw48 {base : World} (A : AtP base) : TotP base 97 [.string ⟨#[109, 105, 110]⟩] (.bool false) := tot_closed all_good A (rulesK0_ok A) Tryz.func97 (by kernel_rfl) (by kernel_rfl) (by kernel_rfl) kw48_run

set_option maxRecDepth 1000000 in
theorem kw49_run (off : Nat) (spot : Option Nat) : (funcK (envP 285 wildsP rulesK0) 300 97 [.string ⟨#[109, 111, 100, 101]⟩] (tabsE off spot) (Tryz.prog.globals.size + 1) fun u _ _ mw => u = .bool false ∧ Nat.ble (Tryz.prog.globals.size + 1) mw = true) = ((.bool false : Value) = .bool false ∧ true = true) := by kernel_rfl
theorem kw49 {base : World} (A : AtP base) : TotP base 97 [.string ⟨#[109, 111, 100, 101]⟩] (.bool false) := tot_closed all_good A (rulesK0_ok A) Tryz.func97 (by kernel_rfl) (by kernel_rfl) (by kernel_rfl) kw49_run

set_option maxRecDepth 1000000 in
theorem kw50_run (off : Nat) (spot : Option Nat) : (funcK (envP 285 wildsP rulesK0) 300 97 [.string ⟨#[109, 111, 100, 117, 108, 111]⟩] (tabsE off spot) (Tryz.prog.globals.size + 1) fun u _ _ mw => u = .bool false ∧ Nat.ble (Tryz.prog.globals.size + 1) mw = true) = ((.bool false : Value) = .bool false ∧ true = true) := by kernel_rfl
theorem kw50 {base : World} (A : AtP base) : TotP base 97 [.string ⟨#[109, 111, 100, 117, 108, 111]⟩] (.bool false) := tot_closed all_good A (rulesK0_ok A) Tryz.func97 (by kernel_rfl) (by kernel_rfl) (by kernel_rfl) kw50_run

set_option maxRecDepth 1000000 in
theorem kw51_run (off : Nat) (spot : Option Nat) : (funcK (envP 285 wildsP rulesK0) 300 97 [.string ⟨#[109, 111, 110, 116, 104]⟩] (tabsE off spot) (Tryz.prog.globals.size + 1) fun u _ _ mw => u = .bool false ∧ Nat.ble (Tryz.prog.globals.size + 1) mw = true) = ((.bool false : Value) = .bool false ∧ true = true) := by kernel_rfl
theorem kw51 {base : World} (A : AtP base) : TotP base 97 [.string ⟨#[109, 111, 110, 116, 104]⟩] (.bool false) := tot_closed all_good A (rulesK0_ok A) Tryz.func97 (by kernel_rfl) (by kernel_rfl) (by kernel_rfl) kw51_run

set_option maxRecDepth 1000000 in
theorem kw52_run (off : Nat) (spot : Option Nat) : (funcK (envP 285 wildsP rulesK0) 300 97 [.string ⟨#[109, 111, 110, 116, 104, 115]⟩] (tabsE off spot) (Tryz.prog.globals.size + 1) fun u _ _ mw => u = .bool false ∧ Nat.ble (Tryz.prog.globals.size + 1) mw = true) = ((.bool false : Value) = .bool false ∧ true = true) := by kernel_rfl
theorem kw52 {base : World} (A : AtP base) : TotP base 97 [.string ⟨#[109, 111, 110, 116, 104, 115]⟩] (.bool false) := tot_closed all_good A (rulesK0_ok A) Tryz.func97 (by kernel_rfl) (by kernel_rfl) (by kernel_rfl) kw52_run

set_option maxRecDepth 1000000 in
theorem kw53_run (off : Nat) (spot : Option Nat) : (funcK (envP 285 wildsP rulesK0) 300 97 [.string ⟨#[110, 111, 116]⟩] (tabsE off spot) (Tryz.prog.globals.size + 1) fun u _ _ mw => u = .bool false ∧ Nat.ble (Tryz.prog.globals.size + 1) mw = true) = ((.bool false : Value) = .bool false ∧ true = true) := by kernel_rfl
theorem kw53 {base : World} (A : AtP base) : TotP base 97 [.string ⟨#[110, 111, 116]⟩] (.bool false) := tot_closed all_good A (rulesK0_ok A) Tryz.func97 (by kernel_rfl) (by kernel_rfl) (by kernel_rfl) kw53_run

set_option maxRecDepth 1000000 in
theorem kw54_run (off : Nat) (spot : Option Nat) : (funcK (envP 285 wildsP rulesK0) 300 97 [.string ⟨#[110, 117, 108, 108]⟩] (tabsE off spot) (Tryz.prog.globals.size + 1) fun u _ _ mw => u = .bool true ∧ Nat.ble (Tryz.prog.globals.size + 1) mw = true) = ((.bool true : Value) = .bool true ∧ true = true) := by kernel_rfl
theorem kw54 {base : World} (A : AtP base) : TotP base 97 [.string ⟨#[110, 117, 108, 108]⟩] (.bool true) := tot_closed all_good A (rulesK0_ok A) Tryz.func97 (by kernel_rfl) (by kernel_rfl) (by kernel_rfl) kw54_run

set_option maxRecDepth 1000000 in
theorem kw55_run (off : Nat) (spot : Option Nat) : (funcK (envP 285 wildsP rulesK0) 300 97 [.string ⟨#[110, 117, 109, 98, 101, 114]⟩] (tabsE off spot) (Tryz.prog.globals.size + 1) fun u _ _ mw => u = .bool false ∧ Nat.ble (Tryz.prog.globals.size + 1) mw = true) = ((.bool false : Value) = .bool false ∧ true = true) := by kernel_rfl
theorem kw55 {base : World} (A : AtP base) : TotP base 97 [.string ⟨#[110, 117, 109, 98, 101, 114]⟩] (.bool false) := tot_closed all_good A (rulesK0_ok A) Tryz.func97 (by kernel_rfl) (by kernel_rfl) (by kernel_rfl) kw55_run

set_option maxRecDepth 1000000 in
theorem kw56_run (off : Nat) (spot : Option Nat) : (funcK (envP 285 wildsP rulesK0) 300 97 [.string ⟨#[111, 100, 100]⟩] (tabsE off spot) (Tryz.prog.globals.size + 1) fun u _ _ mw => u = .bool false ∧ Nat.ble (Tryz.prog.globals.size + 1) mw = true) = ((.bool false : Value) = .bool false ∧ true = true) := by kernel_rfl
theorem kw56 {base : World} (A : AtP base) : TotP base 97 [.string ⟨#[111, 100, 100]⟩] (.bool false) := tot_closed all_good A (rulesK0_ok A) Tryz.func97 (by kernel_rfl) (by kernel_rfl) (by kernel_rfl) kw56_run

set_option maxRecDepth 1000000 in
theorem kw57_run (off : Nat) (spot : Option Nat) : (funcK (envP 285 wildsP rulesK0) 300 97 [.string ⟨#[111, 102]⟩] (tabsE off spot) (Tryz.prog.globals.size + 1) fun u _ _ mw => u = .bool true ∧ Nat.ble (Tryz.prog.globals.size + 1) mw = true) = ((.bool true : Value) = .bool true ∧ true = true) := by kernel_rfl
theorem kw57 {base : World} (A : AtP base) : TotP base 97 [.string ⟨#[111, 102]⟩] (.bool true) := tot_closed all_good A (rulesK0_ok A) Tryz.func97 (by kernel_rfl) (by kernel_rfl) (by kernel_rfl) kw57_run

set_option maxRecDepth 1000000 in
theorem kw58_run (off : Nat) (spot : Option Nat) : (funcK (envP 285 wildsP rulesK0) 300 97 [.string ⟨#[111, 118, 101, 114, 108, 97, 112, 115]⟩] (tabsE off spot) (Tryz.prog.globals.size + 1) fun u _ _ mw => u = .bool false ∧ Nat.ble (Tryz.prog.globals.size + 1) mw = true) = ((.bool false : Value) = .bool false ∧ true = true) := by kernel_rfl
theorem kw58 {base : World} (A : AtP base) : TotP base 97 [.string ⟨#[111, 118, 101, 114, 108, 97, 112, 115]⟩] (.bool false) := tot_closed all_good A (rulesK0_ok A) Tryz.func97 (by kernel_rfl) (by kernel_rfl) (by kernel_rfl) kw58_run

set_option maxRecDepth 1000000 in
theorem kw59_run (off : Nat) (spot : Option Nat) : (funcK (envP 285 wildsP rulesK0) 300 97 [.string ⟨#[112, 114, 111, 100, 117, 99, 116]⟩] (tabsE off spot) (Tryz.prog.globals.size + 1) fun u _ _ mw => u = .bool false ∧ Nat.ble (Tryz.prog.globals.size + 1) mw = true) = ((.bool false : Value) = .bool false ∧ true = true) := by kernel_rfl
theorem kw59 {base : World} (A : AtP base) : TotP base 97 [.string ⟨#[112, 114, 111, 100, 117, 99, 116]⟩] (.bool false) := tot_closed all_good A (rulesK0_ok A) Tryz.func97 (by kernel_rfl) (by kernel_rfl) (by kernel_rfl) kw59_run

set_option maxRecDepth 1000000 in
theorem kw60_run (off : Nat) (spot : Option Nat) : (funcK (envP 285 wildsP rulesK0) 300 97 [.string ⟨#[112, 117, 116]⟩] (tabsE off spot) (Tryz.prog.globals.size + 1) fun u _ _ mw => u = .bool false ∧ Nat.ble (Tryz.prog.globals.size + 1) mw = true) = ((.bool false : Value) = .bool false ∧ true = true) := by kernel_rfl
theorem kw60 {base : World} (A : AtP base) : TotP base 97 [.string ⟨#[112, 117, 116]⟩] (.bool false) := tot_closed all_good A (rulesK0_ok A) Tryz.func97 (by kernel_rfl) (by kernel_rfl) (by kernel_rfl) kw60_run

set_option maxRecDepth 1000000 in
theorem kw61_run (off : Nat) (spot : Option Nat) : (funcK (envP 285 wildsP rulesK0) 300 97 [.string ⟨#[114, 101, 109, 111, 118, 101]⟩] (tabsE off spot) (Tryz.prog.globals.size + 1) fun u _ _ mw => u = .bool false ∧ Nat.ble (Tryz.prog.globals.size + 1) mw = true) = ((.bool false : Value) = .bool false ∧ true = true) := by kernel_rfl
theorem kw61 {base : World} (A : AtP base) : TotP base 97 [.string ⟨#[114, 101, 109, 111, 118, 101]⟩] (.bool false) := tot_closed all_good A (rulesK0_ok A) Tryz.func97 (by kernel_rfl) (by kernel_rfl) (by kernel_rfl) kw61_run

set_option maxRecDepth 1000000 in
theorem kw62_run (off : Nat) (spot : Option Nat) : (funcK (envP 285 wildsP rulesK0) 300 97 [.string ⟨#[114, 101, 112, 108, 97, 99, 101]⟩] (tabsE off spot) (Tryz.prog.globals.size + 1) fun u _ _ mw => u = .bool false ∧ Nat.ble (Tryz.prog.globals.size + 1) mw = true) = ((.bool false : Value) = .bool false ∧ true = true) := by kernel_rfl
theorem kw62 {base : World} (A : AtP base) : TotP base 97 [.string ⟨#[114, 101, 112, 108, 97, 99, 101]⟩] (.bool false) := tot_closed all_good A (rulesK0_ok A) Tryz.func97 (by kernel_rfl) (by kernel_rfl) (by kernel_rfl) kw62_run

set_option maxRecDepth 1000000 in
theorem kw63_run (off : Nat) (spot : Option Nat) : (funcK (envP 285 wildsP rulesK0) 300 97 [.string ⟨#[114, 101, 118, 101, 114, 115, 101]⟩] (tabsE off spot) (Tryz.prog.globals.size + 1) fun u _ _ mw => u = .bool false ∧ Nat.ble (Tryz.prog.globals.size + 1) mw = true) = ((.bool false : Value) = .bool false ∧ true = true) := by kernel_rfl
theorem kw63 {base : World} (A : AtP base) : TotP base 97 [.string ⟨#[114, 101, 118, 101, 114, 115, 101]⟩] (.bool false) := tot_closed all_good A (rulesK0_ok A) Tryz.func97 (by kernel_rfl) (by kernel_rfl) (by kernel_rfl) kw63_run

set_option maxRecDepth 1000000 in
theorem kw64_run (off : Nat) (spot : Option Nat) : (funcK (envP 285 wildsP rulesK0) 300 97 [.string ⟨#[114, 111, 117, 110, 100]⟩] (tabsE off spot) (Tryz.prog.globals.size + 1) fun u _ _ mw => u = .bool false ∧ Nat.ble (Tryz.prog.globals.size + 1) mw = true) = ((.bool false : Value) = .bool false ∧ true = true) := by kernel_rfl
theorem kw64 {base : World} (A : AtP base) : TotP base 97 [.string ⟨#[114, 111, 117, 110, 100]⟩] (.bool false) := tot_closed all_good A (rulesK0_ok A) Tryz.func97 (by kernel_rfl) (by kernel_rfl) (by kernel_rfl) kw64_run

set_option maxRecDepth 1000000 in
theorem kw65_run (off : Nat) (spot : Option Nat) : (funcK (envP 285 wildsP rulesK0) 300 97 [.string ⟨#[115, 111, 114, 116]⟩] (tabsE off spot) (Tryz.prog.globals.size + 1) fun u _ _ mw => u = .bool false ∧ Nat.ble (Tryz.prog.globals.size + 1) mw = true) = ((.bool false : Value) = .bool false ∧ true = true) := by kernel_rfl
theorem kw65 {base : World} (A : AtP base) : TotP base 97 [.string ⟨#[115, 111, 114, 116]⟩] (.bool false) := tot_closed all_good A (rulesK0_ok A) Tryz.func97 (by kernel_rfl) (by kernel_rfl) (by kernel_rfl) kw65_run

set_option maxRecDepth 1000000 in
theorem kw66_run (off : Nat) (spot : Option Nat) : (funcK (envP 285 wildsP rulesK0) 300 97 [.string ⟨#[115, 112, 108, 105, 116]⟩] (tabsE off spot) (Tryz.prog.globals.size + 1) fun u _ _ mw => u = .bool false ∧ Nat.ble (Tryz.prog.globals.size + 1) mw = true) = ((.bool false : Value) = .bool false ∧ true = true) := by kernel_rfl
theorem kw66 {base : World} (A : AtP base) : TotP base 97 [.string ⟨#[115, 112, 108, 105, 116]⟩] (.bool false) := tot_closed all_good A (rulesK0_ok A) Tryz.func97 (by kernel_rfl) (by kernel_rfl) (by kernel_rfl) kw66_run

set_option maxRecDepth 1000000 in
theorem kw67_run (off : Nat) (spot : Option Nat) : (funcK (envP 285 wildsP rulesK0) 300 97 [.string ⟨#[115, 113, 114, 116]⟩] (tabsE off spot) (Tryz.prog.globals.size + 1) fun u _ _ mw => u = .bool false ∧ Nat.ble (Tryz.prog.globals.size + 1) mw = true) = ((.bool false : Value) = .bool false ∧ true = true) := by kernel_rfl
theorem kw67 {base : World} (A : AtP base) : TotP base 97 [.string ⟨#[115, 113, 114, 116]⟩] (.bool false) := tot_closed all_good A (rulesK0_ok A) Tryz.func97 (by kernel_rfl) (by kernel_rfl) (by kernel_rfl) kw67_run

set_option maxRecDepth 1000000 in
theorem kw68_run (off : Nat) (spot : Option Nat) : (funcK (envP 285 wildsP rulesK0) 300 97 [.string ⟨#[115, 116, 97, 114, 116, 101, 100]⟩] (tabsE off spot) (Tryz.prog.globals.size + 1) fun u _ _ mw => u = .bool false ∧ Nat.ble (Tryz.prog.globals.size + 1) mw = true) = ((.bool false : Value) = .bool false ∧ true = true) := by kernel_rfl
theorem kw68 {base : World} (A : AtP base) : TotP base 97 [.string ⟨#[115, 116, 97, 114, 116, 101, 100]⟩] (.bool false) := tot_closed all_good A (rulesK0_ok A) Tryz.func97 (by kernel_rfl) (by kernel_rfl) (by kernel_rfl) kw68_run

set_option maxRecDepth 1000000 in
theorem kw69_run (off : Nat) (spot : Option Nat) : (funcK (envP 285 wildsP rulesK0) 300 97 [.string ⟨#[115, 116, 97, 114, 116, 115]⟩] (tabsE off spot) (Tryz.prog.globals.size + 1) fun u _ _ mw => u = .bool false ∧ Nat.ble (Tryz.prog.globals.size + 1) mw = true) = ((.bool false : Value) = .bool false ∧ true = true) := by kernel_rfl
theorem kw69 {base : World} (A : AtP base) : TotP base 97 [.string ⟨#[115, 116, 97, 114, 116, 115]⟩] (.bool false) := tot_closed all_good A (rulesK0_ok A) Tryz.func97 (by kernel_rfl) (by kernel_rfl) (by kernel_rfl) kw69_run

set_option maxRecDepth 1000000 in
theorem kw70_run (off : Nat) (spot : Option Nat) : (funcK (envP 285 wildsP rulesK0) 300 97 [.string ⟨#[115, 116, 100, 100, 101, 118]⟩] (tabsE off spot) (Tryz.prog.globals.size + 1) fun u _ _ mw => u = .bool false ∧ Nat.ble (Tryz.prog.globals.size + 1) mw = true) = ((.bool false : Value) = .bool false ∧ true = true) := by kernel_rfl
theorem kw70 {base : World} (A : AtP base) : TotP base 97 [.string ⟨#[115, 116, 100, 100, 101, 118]⟩] (.bool false) := tot_closed all_good A (rulesK0_ok A) Tryz.func97 (by kernel_rfl) (by kernel_rfl) (by kernel_rfl) kw70_run

set_option maxRecDepth 1000000 in
theorem kw71_run (off : Nat) (spot : Option Nat) : (funcK (envP 285 wildsP rulesK0) 300 97 [.string ⟨#[115, 116, 114, 105, 110, 103]⟩] (tabsE off spot) (Tryz.prog.globals.size + 1) fun u _ _ mw => u = .bool false ∧ Nat.ble (Tryz.prog.globals.size + 1) mw = true) = ((.bool false : Value) = .bool false ∧ true = true) := by kernel_rfl
theorem kw71 {base : World} (A : AtP base) : TotP base 97 [.string ⟨#[115, 116, 114, 105, 110, 103]⟩] (.bool false) := tot_closed all_good A (rulesK0_ok A) Tryz.func97 (by kernel_rfl) (by kernel_rfl) (by kernel_rfl) kw71_run

set_option maxRecDepth 1000000 in
theorem kw72_run (off : Nat) (spot : Option Nat) : (funcK (envP 285 wildsP rulesK0) 300 97 [.string ⟨#[115, 117, 98, 108, 105, 115, 116]⟩] (tabsE off spot) (Tryz.prog.globals.size + 1) fun u _ _ mw => u = .bool false ∧ Nat.ble (Tryz.prog.globals.size + 1) mw = true) = ((.bool false : Value) = .bool false ∧ true = true) := by kernel_rfl
theorem kw72 {base : World} (A : AtP base) : TotP base 97 [.string ⟨#[115, 117, 98, 108, 105, 115, 116]⟩] (.bool false) := tot_closed all_good A (rulesK0_ok A) Tryz.func97 (by kernel_rfl) (by kernel_rfl) (by kernel_rfl) kw72_run

set_option maxRecDepth 1000000 in
theorem kw73_run (off : Nat) (spot : Option Nat) : (funcK (envP 285 wildsP rulesK0) 300 97 [.string ⟨#[115, 117, 98, 115, 116, 114, 105, 110, 103]⟩] (tabsE off spot) (Tryz.prog.globals.size + 1) fun u _ _ mw => u = .bool false ∧ Nat.ble (Tryz.prog.globals.size + 1) mw = true) = ((.bool false : Value) = .bool false ∧ true = true) := by kernel_rfl
theorem kw73 {base : World} (A : AtP base) : TotP base 97 [.string ⟨#[115, 117, 98, 115, 116, 114, 105, 110, 103]⟩] (.bool false) := tot_closed all_good A (rulesK0_ok A) Tryz.func97 (by kernel_rfl) (by kernel_rfl) (by kernel_rfl) kw73_run

set_option maxRecDepth 1000000 in
theorem kw74_run (off : Nat) (spot : Option Nat) : (funcK (envP 285 wildsP rulesK0) 300 97 [.string ⟨#[115, 117, 109]⟩] (tabsE off spot) (Tryz.prog.globals.size + 1) fun u _ _ mw => u = .bool false ∧ Nat.ble (Tryz.prog.globals.size + 1) mw = true) = ((.bool false : Value) = .bool false ∧ true = true) := by kernel_rfl
theorem kw74 {base : World} (A : AtP base) : TotP base 97 [.string ⟨#[115, 117, 109]⟩] (.bool false) := tot_closed all_good A (rulesK0_ok A) Tryz.func97 (by kernel_rfl) (by kernel_rfl) (by kernel_rfl) kw74_run

set_option maxRecDepth 1000000 in
theorem kw75_run (off : Nat) (spot : Option Nat) : (funcK (envP 285 wildsP rulesK0) 300 97 [.string ⟨#[116, 104, 101, 110]⟩] (tabsE off spot) (Tryz.prog.globals.size + 1) fun u _ _ mw => u = .bool true ∧ Nat.ble (Tryz.prog.globals.size + 1) mw = true) = ((.bool true : Value) = .bool true ∧ true = true) := by kernel_rfl
theorem kw75 {base : World} (A : AtP base) : TotP base 97 [.string ⟨#[116, 104, 101, 110]⟩] (.bool true) := tot_closed all_good A (rulesK0_ok A) Tryz.func97 (by kernel_rfl) (by kernel_rfl) (by kernel_rfl) kw75_run

set_option maxRecDepth 1000000 in
theorem kw76_run (off : Nat) (spot : Option Nat) : (funcK (envP 285 wildsP rulesK0) 300 97 [.string ⟨#[116, 105, 109, 101]⟩] (tabsE off spot) (Tryz.prog.globals.size + 1) fun u _ _ mw => u = .bool false ∧ Nat.ble (Tryz.prog.globals.size + 1) mw = true) = ((.bool false : Value) = .bool false ∧ true = true) := by kernel_rfl
theorem kw76 {base : World} (A : AtP base) : TotP base 97 [.string ⟨#[116, 105, 109, 101]⟩] (.bool false) := tot_closed all_good A (rulesK0_ok A) Tryz.func97 (by kernel_rfl) (by kernel_rfl) (by kernel_rfl) kw76_run

set_option maxRecDepth 1000000 in
theorem kw77_run (off : Nat) (spot : Option Nat) : (funcK (envP 285 wildsP rulesK0) 300 97 [.string ⟨#[117, 110, 105, 111, 110]⟩] (tabsE off spot) (Tryz.prog.globals.size + 1) fun u _ _ mw => u = .bool false ∧ Nat.ble (Tryz.prog.globals.size + 1) mw = true) = ((.bool false : Value) = .bool false ∧ true = true) := by kernel_rfl
theorem kw77 {base : World} (A : AtP base) : TotP base 97 [.string ⟨#[117, 110, 105, 111, 110]⟩] (.bool false) := tot_closed all_good A (rulesK0_ok A) Tryz.func97 (by kernel_rfl) (by kernel_rfl) (by kernel_rfl) kw77_run

set_option maxRecDepth 1000000 in
theorem kw78_run (off : Nat) (spot : Option Nat) : (funcK (envP 285 wildsP rulesK0) 300 97 [.string ⟨#[117, 112]⟩] (tabsE off spot) (Tryz.prog.globals.size + 1) fun u _ _ mw => u = .bool false ∧ Nat.ble (Tryz.prog.globals.size + 1) mw = true) = ((.bool false : Value) = .bool false ∧ true = true) := by kernel_rfl
theorem kw78 {base : World} (A : AtP base) : TotP base 97 [.string ⟨#[117, 112]⟩] (.bool false) := tot_closed all_good A (rulesK0_ok A) Tryz.func97 (by kernel_rfl) (by kernel_rfl) (by kernel_rfl) kw78_run

set_option maxRecDepth 1000000 in
theorem kw79_run (off : Nat) (spot : Option Nat) : (funcK (envP 285 wildsP rulesK0) 300 97 [.string ⟨#[117, 112, 112, 101, 114]⟩] (tabsE off spot) (Tryz.prog.globals.size + 1) fun u _ _ mw => u = .bool false ∧ Nat.ble (Tryz.prog.globals.size + 1) mw = true) = ((.bool false : Value) = .bool false ∧ true = true) := by kernel_rfl
theorem kw79 {base : World} (A : AtP base) : TotP base 97 [.string ⟨#[117, 112, 112, 101, 114]⟩] (.bool false) := tot_closed all_good A (rulesK0_ok A) Tryz.func97 (by kernel_rfl) (by kernel_rfl) (by kernel_rfl) kw79_run

set_option maxRecDepth 1000000 in
theorem kw80_run (off : Nat) (spot : Option Nat) : (funcK (envP 285 wildsP rulesK0) 300 97 [.string ⟨#[118, 97, 108, 117, 101]⟩] (tabsE off spot) (Tryz.prog.globals.size + 1) fun u _ _ mw => u = .bool false ∧ Nat.ble (Tryz.prog.globals.size + 1) mw = true) = ((.bool false : Value) = .bool false ∧ true = true) := by kernel_rfl
theorem kw80 {base : World} (A : AtP base) : TotP base 97 [.string ⟨#[118, 97, 108, 117, 101]⟩] (.bool false) := tot_closed all_good A (rulesK0_ok A) Tryz.func97 (by kernel_rfl) (by kernel_rfl) (by kernel_rfl) kw80_run

set_option maxRecDepth 1000000 in
theorem kw81_run (off : Nat) (spot : Option Nat) : (funcK (envP 285 wildsP rulesK0) 300 97 [.string ⟨#[118, 97, 108, 117, 101, 115]⟩] (tabsE off spot) (Tryz.prog.globals.size + 1) fun u _ _ mw => u = .bool false ∧ Nat.ble (Tryz.prog.globals.size + 1) mw = true) = ((.bool false : Value) = .bool false ∧ true = true) := by kernel_rfl
theorem kw81 {base : World} (A : AtP base) : TotP base 97 [.string ⟨#[118, 97, 108, 117, 101, 115]⟩] (.bool false) := tot_closed all_good A (rulesK0_ok A) Tryz.func97 (by kernel_rfl) (by kernel_rfl) (by kernel_rfl) kw81_run

set_option maxRecDepth 1000000 in
theorem kw82_run (off : Nat) (spot : Option Nat) : (funcK (envP 285 wildsP rulesK0) 300 97 [.string ⟨#[119, 101, 101, 107]⟩] (tabsE off spot) (Tryz.prog.globals.size + 1) fun u _ _ mw => u = .bool false ∧ Nat.ble (Tryz.prog.globals.size + 1) mw = true) = ((.bool false : Value) = .bool false ∧ true = true) := by kernel_rfl
theorem kw82 {base : World} (A : AtP base) : TotP base 97 [.string ⟨#[119, 101, 101, 107]⟩] (.bool false) := tot_closed all_good A (rulesK0_ok A) Tryz.func97 (by kernel_rfl) (by kernel_rfl) (by kernel_rfl) kw82_run

set_option maxRecDepth 1000000 in
theorem kw83_run (off : Nat) (spot : Option Nat) : (funcK (envP 285 wildsP rulesK0) 300 97 [.string ⟨#[119, 105, 116, 104]⟩] (tabsE off spot) (Tryz.prog.globals.size + 1) fun u _ _ mw => u = .bool false ∧ Nat.ble (Tryz.prog.globals.size + 1) mw = true) = ((.bool false : Value) = .bool false ∧ true = true) := by kernel_rfl
theorem kw83 {base : World} (A : AtP base) : TotP base 97 [.string ⟨#[119, 105, 116, 104]⟩] (.bool false) := tot_closed all_good A (rulesK0_ok A) Tryz.func97 (by kernel_rfl) (by kernel_rfl) (by kernel_rfl) kw83_run

set_option maxRecDepth 1000000 in
theorem kw84_run (off : Nat) (spot : Option Nat) : (funcK (envP 285 wildsP rulesK0) 300 97 [.string ⟨#[120]⟩] (tabsE off spot) (Tryz.prog.globals.size + 1) fun u _ _ mw => u = .bool false ∧ Nat.ble (Tryz.prog.globals.size + 1) mw = true) = ((.bool false : Value) = .bool false ∧ true = true) := by kernel_rfl
theorem kw84 {base : World} (A : AtP base) : TotP base 97 [.string ⟨#[120]⟩] (.bool false) := tot_closed all_good A (rulesK0_ok A) Tryz.func97 (by kernel_rfl) (by kernel_rfl) (by kernel_rfl) kw84_run

set_option maxRecDepth 1000000 in
theorem kw85_run (off : Nat) (spot : Option Nat) : (funcK (envP 285 wildsP rulesK0) 300 97 [.string ⟨#[121, 101, 97, 114]⟩] (tabsE off spot) (Tryz.prog.globals.size + 1) fun u _ _ mw => u = .bool false ∧ Nat.ble (Tryz.prog.globals.size + 1) mw = true) = ((.bool false : Value) = .bool false ∧ true = true) := by kernel_rfl
theorem kw85 {base : World} (A : AtP base) : TotP base 97 [.string ⟨#[121, 101, 97, 114]⟩] (.bool false) := tot_closed all_good A (rulesK0_ok A) Tryz.func97 (by kernel_rfl) (by kernel_rfl) (by kernel_rfl) kw85_run

set_option maxRecDepth 1000000 in
theorem kw86_run (off : Nat) (spot : Option Nat) : (funcK (envP 285 wildsP rulesK0) 300 97 [.string ⟨#[121, 101, 97, 114, 115]⟩] (tabsE off spot) (Tryz.prog.globals.size + 1) fun u _ _ mw => u = .bool false ∧ Nat.ble (Tryz.prog.globals.size + 1) mw = true) = ((.bool false : Value) = .bool false ∧ true = true) := by kernel_rfl
theorem kw86 {base : World} (A : AtP base) : TotP base 97 [.string ⟨#[121, 101, 97, 114, 115]⟩] (.bool false) := tot_closed all_good A (rulesK0_ok A) Tryz.func97 (by kernel_rfl) (by kernel_rfl) (by kernel_rfl) kw86_run

def tabKw : List (List Value × Value) := [([.string ⟨#[97]⟩], .bool false), ([.string ⟨#[97, 98, 115]⟩], .bool false), ([.string ⟨#[97, 102, 116, 101, 114]⟩], .bool false), ([.string ⟨#[97, 108, 108]⟩], .bool false), ([.string ⟨#[97, 110, 100]⟩], .bool true), ([.string ⟨#[97, 110, 121]⟩], .bool false), ([.string ⟨#[97, 112, 112, 101, 110, 100]⟩], .bool false), ([.string ⟨#[98, 101, 102, 111, 114, 101]⟩], .bool false), ([.string ⟨#[98, 121]⟩], .bool false), ([.string ⟨#[99, 97, 115, 101]⟩], .bool false), ([.string ⟨#[99, 101, 105, 108, 105, 110, 103]⟩], .bool false), ([.string ⟨#[99, 111, 105, 110, 99, 105, 100, 101, 115]⟩], .bool false), ([.string ⟨#[99, 111, 110, 99, 97, 116, 101, 110, 97, 116, 101]⟩], .bool false), ([.string ⟨#[99, 111, 110, 116, 97, 105, 110, 115]⟩], .bool false), ([.string ⟨#[99, 111, 110, 116, 101, 120, 116]⟩], .bool false), ([.string ⟨#[99, 111, 117, 110, 116]⟩], .bool false), ([.string ⟨#[100, 97, 116, 101]⟩], .bool false), ([.string ⟨#[100, 97, 121]⟩], .bool false), ([.string ⟨#[100, 101, 99, 105, 109, 97, 108]⟩], .bool false), ([.string ⟨#[100, 105, 115, 116, 105, 110, 99, 116]⟩], .bool false), ([.string ⟨#[100, 111, 119, 110]⟩], .bool false), ([.string ⟨#[100, 117, 114, 97, 116, 105, 111, 110]⟩], .bool false), ([.string ⟨#[100, 117, 114, 105, 110, 103]⟩], .bool false), ([.string ⟨#[101, 108, 115, 101]⟩], .bool true), ([.string ⟨#[101, 110, 100, 115]⟩], .bool false), ([.string ⟨#[101, 110, 116, 114, 105, 101, 115]⟩], .bool false), ([.string ⟨#[101, 118, 101, 110]⟩], .bool false), ([.string ⟨#[102, 105, 110, 105, 115, 104, 101, 100]⟩], .bool false), ([.string ⟨#[102, 105, 110, 105, 115, 104, 101, 115]⟩], .bool false), ([.string ⟨#[102, 108, 97, 116, 116, 101, 110]⟩], .bool false), ([.string ⟨#[102, 108, 111, 111, 114]⟩], .bool false), ([.string ⟨#[102, 117, 110, 99, 116, 105, 111, 110]⟩], .bool true), ([.string ⟨#[103, 101, 116]⟩], .bool false), ([.string ⟨#[104, 97, 108, 102]⟩], .bool false), ([.string ⟨#[105, 102]⟩], .bool true), ([.string ⟨#[105, 110, 99, 108, 117, 100, 101, 115]⟩], .bool false), ([.string ⟨#[105, 110, 100, 101, 120]⟩], .bool false), ([.string ⟨#[105, 110, 115, 101, 114, 116]⟩], .bool false), ([.string ⟨#[106, 111, 105, 110]⟩], .bool false), ([.string ⟨#[108, 101, 110, 103, 116, 104]⟩], .bool false), ([.string ⟨#[108, 105, 115, 116]⟩], .bool false), ([.string ⟨#[108, 111, 119, 101, 114]⟩], .bool false), ([.string ⟨#[109, 97, 120]⟩], .bool false), ([.string ⟨#[109, 101, 97, 110]⟩], .bool false), ([.string ⟨#[109, 101, 100, 105, 97, 110]⟩], .bool false), ([.string ⟨#[109, 101, 101, 116, 115]⟩], .bool false), ([.string ⟨#[109, 101, 114, 103, 101]⟩], .bool false), ([.string ⟨#[109, 101, 116]⟩], .bool false), ([.string ⟨#[109, 105, 110]⟩], .bool false), ([.string ⟨#[109, 111, 100, 101]⟩], .bool false), ([.string ⟨#[109, 111, 100, 117, 108, 111]⟩], .bool false), ([.string ⟨#[109, 111, 110, 116, 104]⟩], .bool false), ([.string ⟨#[109, 111, 110, 116, 104, 115]⟩], .bool false), ([.string ⟨#[110, 111, 116]⟩], .bool false), ([.string ⟨#[110, 117, 108, 108]⟩], .bool true), ([.string ⟨#[110, 117, 109, 98, 101, 114]⟩], .bool false), ([.string ⟨#[111, 100, 100]⟩], .bool false), ([.string ⟨#[111, 102]⟩], .bool true), ([.string ⟨#[111, 118, 101, 114, 108, 97, 112, 115]⟩], .bool false), ([.string ⟨#[112, 114, 111, 100, 117, 99, 116]⟩], .bool false), ([.string ⟨#[112, 117, 116]⟩], .bool false), ([.string ⟨#[114, 101, 109, 111, 118, 101]⟩], .bool false), ([.string ⟨#[114, 101, 112, 108, 97, 99, 101]⟩], .bool false), ([.string ⟨#[114, 101, 118, 101, 114, 115, 101]⟩], .bool false), ([.string ⟨#[114, 111, 117, 110, 100]⟩], .bool false), ([.string ⟨#[115, 111, 114, 116]⟩], .bool false), ([.string ⟨#[115, 112, 108, 105, 116]⟩], .bool false), ([.string ⟨#[115, 113, 114, 116]⟩], .bool false), ([.string ⟨#[115, 116, 97, 114, 116, 101, 100]⟩], .bool false), ([.string ⟨#[115, 116, 97, 114, 116, 115]⟩], .bool false), ([.string ⟨#[115, 116, 100, 100, 101, 118]⟩], .bool false), ([.string ⟨#[115, 116, 114, 105, 110, 103]⟩], .bool false), ([.string ⟨#[115, 117, 98, 108, 105, 115, 116]⟩], .bool false), ([.string ⟨#[115, 117, 98, 115, 116, 114, 105, 110, 103]⟩], .bool false), ([.string ⟨#[115, 117, 109]⟩], .bool false), ([.string ⟨#[116, 104, 101, 110]⟩], .bool true), ([.string ⟨#[116, 105, 109, 101]⟩], .bool false), ([.string ⟨#[117, 110, 105, 111, 110]⟩], .bool false), ([.string ⟨#[117, 112]⟩], .bool false), ([.string ⟨#[117, 112, 112, 101, 114]⟩], .bool false), ([.string ⟨#[118, 97, 108, 117, 101]⟩], .bool false), ([.string ⟨#[118, 97, 108, 117, 101, 115]⟩], .bool false), ([.string ⟨#[119, 101, 101, 107]⟩], .bool false), ([.string ⟨#[119, 105, 116, 104]⟩], .bool false), ([.string ⟨#[120]⟩], .bool false), ([.string ⟨#[121, 101, 97, 114]⟩], .bool false), ([.string ⟨#[121, 101, 97, 114, 115]⟩], .bool false)]
theorem tabKw_ok {base : World} (A : AtP base) : RuleOk Tryz.prog base 97 (ruleTab tabKw) := ruleOk_tab (by
  unfold tabKw
  exact List.forall_mem_cons.2 ⟨kw0 A, List.forall_mem_cons.2 ⟨kw1 A, List.forall_mem_cons.2 ⟨kw2 A, List.forall_mem_cons.2 ⟨kw3 A, List.forall_mem_cons.2 ⟨kw4 A, List.forall_mem_cons.2 ⟨kw5 A, List.forall_mem_cons.2 ⟨kw6 A, List.forall_mem_cons.2 ⟨kw7 A, List.forall_mem_cons.2 ⟨kw8 A, List.forall_mem_cons.2 ⟨kw9 A, List.forall_mem_cons.2 ⟨kw10 A, List.forall_mem_cons.2 ⟨kw11 A, List.forall_mem_cons.2 ⟨kw12 A, List.forall_mem_cons.2 ⟨kw13 A, List.forall_mem_cons.2 ⟨kw14 A, List.forall_mem_cons.2 ⟨kw15 A, List.forall_mem_cons.2 ⟨kw16 A, List.forall_mem_cons.2 ⟨kw17 A, List.forall_mem_cons.2 ⟨kw18 A, List.forall_mem_cons.2 ⟨kw19 A, List.forall_mem_cons.2 ⟨kw20 A, List.forall_mem_cons.2 ⟨kw21 A, List.forall_mem_cons.2 ⟨kw22 A, List.forall_mem_cons.2 ⟨kw23 A, List.forall_mem_cons.2 ⟨kw24 A, List.forall_mem_cons.2 ⟨kw25 A, List.forall_mem_cons.2 ⟨kw26 A, List.forall_mem_cons.2 ⟨kw27 A, List.forall_mem_cons.2 ⟨kw28 A, List.forall_mem_cons.2 ⟨kw29 A, List.forall_mem_cons.2 ⟨kw30 A, List.forall_mem_cons.2 ⟨kw31 A, List.forall_mem_cons.2 ⟨kw32 A, List.forall_mem_cons.2 ⟨kw33 A, List.forall_mem_cons.2 ⟨kw34 A, List.forall_mem_cons.2 ⟨kw35 A, List.forall_mem_cons.2 ⟨kw36 A, List.forall_mem_cons.2 ⟨kw37 A, List.forall_mem_cons.2 ⟨kw38 A, List.forall_mem_cons.2 ⟨kw39 A, List.forall_mem_cons.2 ⟨kw40 A, List.forall_mem_cons.2 ⟨kw41 A, List.forall_mem_cons.2 ⟨kw42 A, List.forall_mem_cons.2 ⟨kw43 A, List.forall_mem_cons.2 ⟨kw44 A, List.forall_mem_cons.2 ⟨kw45 A, List.forall_mem_cons.2 ⟨kw46 A, List.forall_mem_cons.2 ⟨kw47 A, List.forall_mem_cons.2 ⟨kw48 A, List.forall_mem_cons.2 ⟨kw49 A, List.forall_mem_cons.2 ⟨kw50 A, List.forall_mem_cons.2 ⟨kw51 A, List.forall_mem_cons.2 ⟨kw52 A, List.forall_mem_cons.2 ⟨kw53 A, List.forall_mem_cons.2 ⟨kw54 A, List.forall_mem_cons.2 ⟨kw55 A, List.forall_mem_cons.2 ⟨kw56 A, List.forall_mem_cons.2 ⟨kw57 A, List.forall_mem_cons.2 ⟨kw58 A, List.forall_mem_cons.2 ⟨kw59 A, List.forall_mem_cons.2 ⟨kw60 A, List.forall_mem_cons.2 ⟨kw61 A, List.forall_mem_cons.2 ⟨kw62 A, List.forall_mem_cons.2 ⟨kw63 A, List.forall_mem_cons.2 ⟨kw64 A, List.forall_mem_cons.2 ⟨kw65 A, List.forall_mem_cons.2 ⟨kw66 A, List.forall_mem_cons.2 ⟨kw67 A, List.forall_mem_cons.2 ⟨kw68 A, List.forall_mem_cons.2 ⟨kw69 A, List.forall_mem_cons.2 ⟨kw70 A, List.forall_mem_cons.2 ⟨kw71 A, List.forall_mem_cons.2 ⟨kw72 A, List.forall_mem_cons.2 ⟨kw73 A, List.forall_mem_cons.2 ⟨kw74 A, List.forall_mem_cons.2 ⟨kw75 A, List.forall_mem_cons.2 ⟨kw76 A, List.forall_mem_cons.2 ⟨kw77 A, List.forall_mem_cons.2 ⟨kw78 A, List.forall_mem_cons.2 ⟨kw79 A, List.forall_mem_cons.2 ⟨kw80 A, List.forall_mem_cons.2 ⟨kw81 A, List.forall_mem_cons.2 ⟨kw82 A, List.forall_mem_cons.2 ⟨kw83 A, List.forall_mem_cons.2 ⟨kw84 A, List.forall_mem_cons.2 ⟨kw85 A, List.forall_mem_cons.2 ⟨kw86 A, fun _ h => nomatch h⟩⟩⟩⟩⟩⟩⟩⟩⟩⟩⟩⟩⟩⟩⟩⟩⟩⟩⟩⟩⟩⟩⟩⟩⟩⟩⟩⟩⟩⟩⟩⟩⟩⟩⟩⟩⟩⟩⟩⟩⟩⟩⟩⟩⟩⟩⟩⟩⟩⟩⟩⟩⟩⟩⟩⟩⟩⟩⟩⟩⟩⟩⟩⟩⟩⟩⟩⟩⟩⟩⟩⟩⟩⟩⟩⟩⟩⟩⟩⟩⟩⟩⟩⟩⟩⟩⟩)

noncomputable def rulesK2 : List (Nat × Rule) := (19, ruleTab tabOp) :: (97, ruleTab tabKw) :: (122, ruleTab tabRead) :: (102, ruleTab tabSpace) :: (107, ruleTab tabLetter) :: (110, ruleTab tabDigit) :: rulesK1
theorem rulesK2_ok {base : World} (A : AtP base) : ∀ x ∈ rulesK2, RuleOk Tryz.prog base x.1 x.2 := List.forall_mem_cons.2 ⟨tabOp_ok A, List.forall_mem_cons.2 ⟨tabKw_ok A, List.forall_mem_cons.2 ⟨tabRead_ok A, List.forall_mem_cons.2 ⟨tabSpace_ok A, List.forall_mem_cons.2 ⟨tabLetter_ok A, List.forall_mem_cons.2 ⟨tabDigit_ok A, rulesK1_ok A⟩⟩⟩⟩⟩⟩

end Go.Proofs.YtamkkkkonigglaaGreatDoor
