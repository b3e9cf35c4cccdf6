/-
  Closed runs: the functions' names are names, part 0.
-/
import Derived.Test.YtamkkkkonigglaaGreatDoorCb
namespace Go.Proofs.YtamkkkkonigglaaGreatDoor
open Go Go.Pe Go.RowKit

set_option maxRecDepth 1000000 in
theorem nm0_run (off : Nat) (spot : Option Nat) : (funcK (envP 285 wildsP rulesK2) 300 38 [.string ⟨#[115, 116, 114, 105, 110, 103]⟩] (tabsE off spot) (Tryz.prog.globals.size + 1) fun u _ n' mw => (readB 1 (Tryz.prog.globals.size + 1) u n' && Nat.ble (Tryz.prog.globals.size + 1) mw) = true) = (true = true) := by kernel_rfl
theorem nm0 {base : World} (A : AtP base) : TotR base 38 [.string ⟨#[115, 116, 114, 105, 110, 103]⟩] 1 := totR_closed all_good A (rulesK2_ok A) Tryz.func38 (by kernel_rfl) (by kernel_rfl) nm0_run

set_option maxRecDepth 1000000 in
theorem nm2_run (off : Nat) (spot : Option Nat) : (funcK (envP 285 wildsP rulesK2) 300 38 [.string ⟨#[100, 97, 116, 101]⟩] (tabsE off spot) (Tryz.prog.globals.size + 1) fun u _ n' mw => (readB 1 (Tryz.prog.globals.size + 1) u n' && Nat.ble (Tryz.prog.globals.size + 1) mw) = true) = (true = true) := by kernel_rfl
theorem nm2 {base : World} (A : AtP base) : TotR base 38 [.string ⟨#[100, 97, 116, 101]⟩] 1 := totR_closed all_good A (rulesK2_ok A) Tryz.func38 (by kernel_rfl) (by kernel_rfl) nm2_run

set_option maxRecDepth 1000000 in
theorem nm4_run (off : Nat) (spot : Option Nat) : (funcK (envP 285 wildsP rulesK2) 300 38 [.string ⟨#[100, 97, 116, 101, 32, 97, 110, 100, 32, 116, 105, 109, 101]⟩] (tabsE off spot) (Tryz.prog.globals.size + 1) fun u _ n' mw => (readB 3 (Tryz.prog.globals.size + 1) u n' && Nat.ble (Tryz.prog.globals.size + 1) mw) = true) = (true = true) := by kernel_rfl
theorem nm4 {base : World} (A : AtP base) : TotR base 38 [.string ⟨#[100, 97, 116, 101, 32, 97, 110, 100, 32, 116, 105, 109, 101]⟩] 3 := totR_closed all_good A (rulesK2_ok A) Tryz.func38 (by kernel_rfl) (by kernel_rfl) nm4_run

set_option maxRecDepth 1000000 in
theorem nm6_run (off : Nat) (spot : Option Nat) : (funcK (envP 285 wildsP rulesK2) 300 38 [.string ⟨#[121, 101, 97, 114, 115, 32, 97, 110, 100, 32, 109, 111, 110, 116, 104, 115, 32, 100, 117, 114, 97, 116, 105, 111, 110]⟩] (tabsE off spot) (Tryz.prog.globals.size + 1) fun u _ n' mw => (readB 4 (Tryz.prog.globals.size + 1) u n' && Nat.ble (Tryz.prog.globals.size + 1) mw) = true) = (true = true) := by kernel_rfl
theorem nm6 {base : World} (A : AtP base) : TotR base 38 [.string ⟨#[121, 101, 97, 114, 115, 32, 97, 110, 100, 32, 109, 111, 110, 116, 104, 115, 32, 100, 117, 114, 97, 116, 105, 111, 110]⟩] 4 := totR_closed all_good A (rulesK2_ok A) Tryz.func38 (by kernel_rfl) (by kernel_rfl) nm6_run

set_option maxRecDepth 1000000 in
theorem nm8_run (off : Nat) (spot : Option Nat) : (funcK (envP 285 wildsP rulesK2) 300 38 [.string ⟨#[115, 117, 98, 115, 116, 114, 105, 110, 103]⟩] (tabsE off spot) (Tryz.prog.globals.size + 1) fun u _ n' mw => (readB 1 (Tryz.prog.globals.size + 1) u n' && Nat.ble (Tryz.prog.globals.size + 1) mw) = true) = (true = true) := by kernel_rfl
theorem nm8 {base : World} (A : AtP base) : TotR base 38 [.string ⟨#[115, 117, 98, 115, 116, 114, 105, 110, 103]⟩] 1 := totR_closed all_good A (rulesK2_ok A) Tryz.func38 (by kernel_rfl) (by kernel_rfl) nm8_run

set_option maxRecDepth 1000000 in
theorem nm10_run (off : Nat) (spot : Option Nat) : (funcK (envP 285 wildsP rulesK2) 300 38 [.string ⟨#[117, 112, 112, 101, 114, 32, 99, 97, 115, 101]⟩] (tabsE off spot) (Tryz.prog.globals.size + 1) fun u _ n' mw => (readB 2 (Tryz.prog.globals.size + 1) u n' && Nat.ble (Tryz.prog.globals.size + 1) mw) = true) = (true = true) := by kernel_rfl
theorem nm10 {base : World} (A : AtP base) : TotR base 38 [.string ⟨#[117, 112, 112, 101, 114, 32, 99, 97, 115, 101]⟩] 2 := totR_closed all_good A (rulesK2_ok A) Tryz.func38 (by kernel_rfl) (by kernel_rfl) nm10_run

set_option maxRecDepth 1000000 in
theorem nm12_run (off : Nat) (spot : Option Nat) : (funcK (envP 285 wildsP rulesK2) 300 38 [.string ⟨#[115, 116, 114, 105, 110, 103, 32, 114, 101, 118, 101, 114, 115, 101]⟩] (tabsE off spot) (Tryz.prog.globals.size + 1) fun u _ n' mw => (readB 2 (Tryz.prog.globals.size + 1) u n' && Nat.ble (Tryz.prog.globals.size + 1) mw) = true) = (true = true) := by kernel_rfl
theorem nm12 {base : World} (A : AtP base) : TotR base 38 [.string ⟨#[115, 116, 114, 105, 110, 103, 32, 114, 101, 118, 101, 114, 115, 101]⟩] 2 := totR_closed all_good A (rulesK2_ok A) Tryz.func38 (by kernel_rfl) (by kernel_rfl) nm12_run

set_option maxRecDepth 1000000 in
theorem nm14_run (off : Nat) (spot : Option Nat) : (funcK (envP 285 wildsP rulesK2) 300 38 [.string ⟨#[115, 117, 98, 115, 116, 114, 105, 110, 103, 32, 97, 102, 116, 101, 114]⟩] (tabsE off spot) (Tryz.prog.globals.size + 1) fun u _ n' mw => (readB 2 (Tryz.prog.globals.size + 1) u n' && Nat.ble (Tryz.prog.globals.size + 1) mw) = true) = (true = true) := by kernel_rfl
theorem nm14 {base : World} (A : AtP base) : TotR base 38 [.string ⟨#[115, 117, 98, 115, 116, 114, 105, 110, 103, 32, 97, 102, 116, 101, 114]⟩] 2 := totR_closed all_good A (rulesK2_ok A) Tryz.func38 (by kernel_rfl) (by kernel_rfl) nm14_run

set_option maxRecDepth 1000000 in
theorem nm16_run (off : Nat) (spot : Option Nat) : (funcK (envP 285 wildsP rulesK2) 300 38 [.string ⟨#[115, 116, 97, 114, 116, 115, 32, 119, 105, 116, 104]⟩] (tabsE off spot) (Tryz.prog.globals.size + 1) fun u _ n' mw => (readB 2 (Tryz.prog.globals.size + 1) u n' && Nat.ble (Tryz.prog.globals.size + 1) mw) = true) = (true = true) := by kernel_rfl
theorem nm16 {base : World} (A : AtP base) : TotR base 38 [.string ⟨#[115, 116, 97, 114, 116, 115, 32, 119, 105, 116, 104]⟩] 2 := totR_closed all_good A (rulesK2_ok A) Tryz.func38 (by kernel_rfl) (by kernel_rfl) nm16_run

set_option maxRecDepth 1000000 in
theorem nm18_run (off : Nat) (spot : Option Nat) : (funcK (envP 285 wildsP rulesK2) 300 38 [.string ⟨#[115, 112, 108, 105, 116]⟩] (tabsE off spot) (Tryz.prog.globals.size + 1) fun u _ n' mw => (readB 1 (Tryz.prog.globals.size + 1) u n' && Nat.ble (Tryz.prog.globals.size + 1) mw) = true) = (true = true) := by kernel_rfl
theorem nm18 {base : World} (A : AtP base) : TotR base 38 [.string ⟨#[115, 112, 108, 105, 116]⟩] 1 := totR_closed all_good A (rulesK2_ok A) Tryz.func38 (by kernel_rfl) (by kernel_rfl) nm18_run

set_option maxRecDepth 1000000 in
theorem nm20_run (off : Nat) (spot : Option Nat) : (funcK (envP 285 wildsP rulesK2) 300 38 [.string ⟨#[115, 116, 114, 105, 110, 103, 32, 106, 111, 105, 110]⟩] (tabsE off spot) (Tryz.prog.globals.size + 1) fun u _ n' mw => (readB 2 (Tryz.prog.globals.size + 1) u n' && Nat.ble (Tryz.prog.globals.size + 1) mw) = true) = (true = true) := by kernel_rfl
theorem nm20 {base : World} (A : AtP base) : TotR base 38 [.string ⟨#[115, 116, 114, 105, 110, 103, 32, 106, 111, 105, 110]⟩] 2 := totR_closed all_good A (rulesK2_ok A) Tryz.func38 (by kernel_rfl) (by kernel_rfl) nm20_run

set_option maxRecDepth 1000000 in
theorem nm22_run (off : Nat) (spot : Option Nat) : (funcK (envP 285 wildsP rulesK2) 300 38 [.string ⟨#[99, 111, 117, 110, 116]⟩] (tabsE off spot) (Tryz.prog.globals.size + 1) fun u _ n' mw => (readB 1 (Tryz.prog.globals.size + 1) u n' && Nat.ble (Tryz.prog.globals.size + 1) mw) = true) = (true = true) := by kernel_rfl
theorem nm22 {base : World} (A : AtP base) : TotR base 38 [.string ⟨#[99, 111, 117, 110, 116]⟩] 1 := totR_closed all_good A (rulesK2_ok A) Tryz.func38 (by kernel_rfl) (by kernel_rfl) nm22_run

set_option maxRecDepth 1000000 in
theorem nm24_run (off : Nat) (spot : Option Nat) : (funcK (envP 285 wildsP rulesK2) 300 38 [.string ⟨#[109, 97, 120]⟩] (tabsE off spot) (Tryz.prog.globals.size + 1) fun u _ n' mw => (readB 1 (Tryz.prog.globals.size + 1) u n' && Nat.ble (Tryz.prog.globals.size + 1) mw) = true) = (true = true) := by kernel_rfl
theorem nm24 {base : World} (A : AtP base) : TotR base 38 [.string ⟨#[109, 97, 120]⟩] 1 := totR_closed all_good A (rulesK2_ok A) Tryz.func38 (by kernel_rfl) (by kernel_rfl) nm24_run

set_option maxRecDepth 1000000 in
theorem nm26_run (off : Nat) (spot : Option Nat) : (funcK (envP 285 wildsP rulesK2) 300 38 [.string ⟨#[109, 101, 97, 110]⟩] (tabsE off spot) (Tryz.prog.globals.size + 1) fun u _ n' mw => (readB 1 (Tryz.prog.globals.size + 1) u n' && Nat.ble (Tryz.prog.globals.size + 1) mw) = true) = (true = true) := by kernel_rfl
theorem nm26 {base : World} (A : AtP base) : TotR base 38 [.string ⟨#[109, 101, 97, 110]⟩] 1 := totR_closed all_good A (rulesK2_ok A) Tryz.func38 (by kernel_rfl) (by kernel_rfl) nm26_run

set_option maxRecDepth 1000000 in
theorem nm28_run (off : Nat) (spot : Option Nat) : (funcK (envP 285 wildsP rulesK2) 300 38 [.string ⟨#[109, 101, 100, 105, 97, 110]⟩] (tabsE off spot) (Tryz.prog.globals.size + 1) fun u _ n' mw => (readB 1 (Tryz.prog.globals.size + 1) u n' && Nat.ble (Tryz.prog.globals.size + 1) mw) = true) = (true = true) := by kernel_rfl
theorem nm28 {base : World} (A : AtP base) : TotR base 38 [.string ⟨#[109, 101, 100, 105, 97, 110]⟩] 1 := totR_closed all_good A (rulesK2_ok A) Tryz.func38 (by kernel_rfl) (by kernel_rfl) nm28_run

set_option maxRecDepth 1000000 in
theorem nm30_run (off : Nat) (spot : Option Nat) : (funcK (envP 285 wildsP rulesK2) 300 38 [.string ⟨#[109, 111, 100, 101]⟩] (tabsE off spot) (Tryz.prog.globals.size + 1) fun u _ n' mw => (readB 1 (Tryz.prog.globals.size + 1) u n' && Nat.ble (Tryz.prog.globals.size + 1) mw) = true) = (true = true) := by kernel_rfl
theorem nm30 {base : World} (A : AtP base) : TotR base 38 [.string ⟨#[109, 111, 100, 101]⟩] 1 := totR_closed all_good A (rulesK2_ok A) Tryz.func38 (by kernel_rfl) (by kernel_rfl) nm30_run

set_option maxRecDepth 1000000 in
theorem nm32_run (off : Nat) (spot : Option Nat) : (funcK (envP 285 wildsP rulesK2) 300 38 [.string ⟨#[97, 110, 121]⟩] (tabsE off spot) (Tryz.prog.globals.size + 1) fun u _ n' mw => (readB 1 (Tryz.prog.globals.size + 1) u n' && Nat.ble (Tryz.prog.globals.size + 1) mw) = true) = (true = true) := by kernel_rfl
theorem nm32 {base : World} (A : AtP base) : TotR base 38 [.string ⟨#[97, 110, 121]⟩] 1 := totR_closed all_good A (rulesK2_ok A) Tryz.func38 (by kernel_rfl) (by kernel_rfl) nm32_run

set_option maxRecDepth 1000000 in
theorem nm34_run (off : Nat) (spot : Option Nat) : (funcK (envP 285 wildsP rulesK2) 300 38 [.string ⟨#[97, 112, 112, 101, 110, 100]⟩] (tabsE off spot) (Tryz.prog.globals.size + 1) fun u _ n' mw => (readB 1 (Tryz.prog.globals.size + 1) u n' && Nat.ble (Tryz.prog.globals.size + 1) mw) = true) = (true = true) := by kernel_rfl
theorem nm34 {base : World} (A : AtP base) : TotR base 38 [.string ⟨#[97, 112, 112, 101, 110, 100]⟩] 1 := totR_closed all_good A (rulesK2_ok A) Tryz.func38 (by kernel_rfl) (by kernel_rfl) nm34_run

set_option maxRecDepth 1000000 in
theorem nm36_run (off : Nat) (spot : Option Nat) : (funcK (envP 285 wildsP rulesK2) 300 38 [.string ⟨#[117, 110, 105, 111, 110]⟩] (tabsE off spot) (Tryz.prog.globals.size + 1) fun u _ n' mw => (readB 1 (Tryz.prog.globals.size + 1) u n' && Nat.ble (Tryz.prog.globals.size + 1) mw) = true) = (true = true) := by kernel_rfl
theorem nm36 {base : World} (A : AtP base) : TotR base 38 [.string ⟨#[117, 110, 105, 111, 110]⟩] 1 := totR_closed all_good A (rulesK2_ok A) Tryz.func38 (by kernel_rfl) (by kernel_rfl) nm36_run

set_option maxRecDepth 1000000 in
theorem nm38_run (off : Nat) (spot : Option Nat) : (funcK (envP 285 wildsP rulesK2) 300 38 [.string ⟨#[108, 105, 115, 116, 32, 114, 101, 112, 108, 97, 99, 101]⟩] (tabsE off spot) (Tryz.prog.globals.size + 1) fun u _ n' mw => (readB 2 (Tryz.prog.globals.size + 1) u n' && Nat.ble (Tryz.prog.globals.size + 1) mw) = true) = (true = true) := by kernel_rfl
theorem nm38 {base : World} (A : AtP base) : TotR base 38 [.string ⟨#[108, 105, 115, 116, 32, 114, 101, 112, 108, 97, 99, 101]⟩] 2 := totR_closed all_good A (rulesK2_ok A) Tryz.func38 (by kernel_rfl) (by kernel_rfl) nm38_run

set_option maxRecDepth 1000000 in
theorem nm40_run (off : Nat) (spot : Option Nat) : (funcK (envP 285 wildsP rulesK2) 300 38 [.string ⟨#[114, 101, 118, 101, 114, 115, 101]⟩] (tabsE off spot) (Tryz.prog.globals.size + 1) fun u _ n' mw => (readB 1 (Tryz.prog.globals.size + 1) u n' && Nat.ble (Tryz.prog.globals.size + 1) mw) = true) = (true = true) := by kernel_rfl
theorem nm40 {base : World} (A : AtP base) : TotR base 38 [.string ⟨#[114, 101, 118, 101, 114, 115, 101]⟩] 1 := totR_closed all_good A (rulesK2_ok A) Tryz.func38 (by kernel_rfl) (by kernel_rfl) nm40_run

set_option maxRecDepth 1000000 in
theorem nm42_run (off : Nat) (spot : Option Nat) : (funcK (envP 285 wildsP rulesK2) 300 38 [.string ⟨#[102, 108, 97, 116, 116, 101, 110]⟩] (tabsE off spot) (Tryz.prog.globals.size + 1) fun u _ n' mw => (readB 1 (Tryz.prog.globals.size + 1) u n' && Nat.ble (Tryz.prog.globals.size + 1) mw) = true) = (true = true) := by kernel_rfl
theorem nm42 {base : World} (A : AtP base) : TotR base 38 [.string ⟨#[102, 108, 97, 116, 116, 101, 110]⟩] 1 := totR_closed all_good A (rulesK2_ok A) Tryz.func38 (by kernel_rfl) (by kernel_rfl) nm42_run

set_option maxRecDepth 1000000 in
theorem nm44_run (off : Nat) (spot : Option Nat) : (funcK (envP 285 wildsP rulesK2) 300 38 [.string ⟨#[115, 111, 114, 116]⟩] (tabsE off spot) (Tryz.prog.globals.size + 1) fun u _ n' mw => (readB 1 (Tryz.prog.globals.size + 1) u n' && Nat.ble (Tryz.prog.globals.size + 1) mw) = true) = (true = true) := by kernel_rfl
theorem nm44 {base : World} (A : AtP base) : TotR base 38 [.string ⟨#[115, 111, 114, 116]⟩] 1 := totR_closed all_good A (rulesK2_ok A) Tryz.func38 (by kernel_rfl) (by kernel_rfl) nm44_run

set_option maxRecDepth 1000000 in
theorem nm46_run (off : Nat) (spot : Option Nat) : (funcK (envP 285 wildsP rulesK2) 300 38 [.string ⟨#[114, 111, 117, 110, 100, 32, 117, 112]⟩] (tabsE off spot) (Tryz.prog.globals.size + 1) fun u _ n' mw => (readB 2 (Tryz.prog.globals.size + 1) u n' && Nat.ble (Tryz.prog.globals.size + 1) mw) = true) = (true = true) := by kernel_rfl
theorem nm46 {base : World} (A : AtP base) : TotR base 38 [.string ⟨#[114, 111, 117, 110, 100, 32, 117, 112]⟩] 2 := totR_closed all_good A (rulesK2_ok A) Tryz.func38 (by kernel_rfl) (by kernel_rfl) nm46_run

set_option maxRecDepth 1000000 in
theorem nm48_run (off : Nat) (spot : Option Nat) : (funcK (envP 285 wildsP rulesK2) 300 38 [.string ⟨#[114, 111, 117, 110, 100, 32, 104, 97, 108, 102, 32, 117, 112]⟩] (tabsE off spot) (Tryz.prog.globals.size + 1) fun u _ n' mw => (readB 3 (Tryz.prog.globals.size + 1) u n' && Nat.ble (Tryz.prog.globals.size + 1) mw) = true) = (true = true) := by kernel_rfl
theorem nm48 {base : World} (A : AtP base) : TotR base 38 [.string ⟨#[114, 111, 117, 110, 100, 32, 104, 97, 108, 102, 32, 117, 112]⟩] 3 := totR_closed all_good A (rulesK2_ok A) Tryz.func38 (by kernel_rfl) (by kernel_rfl) nm48_run

set_option maxRecDepth 1000000 in
theorem nm50_run (off : Nat) (spot : Option Nat) : (funcK (envP 285 wildsP rulesK2) 300 38 [.string ⟨#[102, 108, 111, 111, 114]⟩] (tabsE off spot) (Tryz.prog.globals.size + 1) fun u _ n' mw => (readB 1 (Tryz.prog.globals.size + 1) u n' && Nat.ble (Tryz.prog.globals.size + 1) mw) = true) = (true = true) := by kernel_rfl
theorem nm50 {base : World} (A : AtP base) : TotR base 38 [.string ⟨#[102, 108, 111, 111, 114]⟩] 1 := totR_closed all_good A (rulesK2_ok A) Tryz.func38 (by kernel_rfl) (by kernel_rfl) nm50_run

set_option maxRecDepth 1000000 in
theorem nm52_run (off : Nat) (spot : Option Nat) : (funcK (envP 285 wildsP rulesK2) 300 38 [.string ⟨#[97, 98, 115]⟩] (tabsE off spot) (Tryz.prog.globals.size + 1) fun u _ n' mw => (readB 1 (Tryz.prog.globals.size + 1) u n' && Nat.ble (Tryz.prog.globals.size + 1) mw) = true) = (true = true) := by kernel_rfl
theorem nm52 {base : World} (A : AtP base) : TotR base 38 [.string ⟨#[97, 98, 115]⟩] 1 := totR_closed all_good A (rulesK2_ok A) Tryz.func38 (by kernel_rfl) (by kernel_rfl) nm52_run

set_option maxRecDepth 1000000 in
theorem nm54_run (off : Nat) (spot : Option Nat) : (funcK (envP 285 wildsP rulesK2) 300 38 [.string ⟨#[115, 113, 114, 116]⟩] (tabsE off spot) (Tryz.prog.globals.size + 1) fun u _ n' mw => (readB 1 (Tryz.prog.globals.size + 1) u n' && Nat.ble (Tryz.prog.globals.size + 1) mw) = true) = (true = true) := by kernel_rfl
theorem nm54 {base : World} (A : AtP base) : TotR base 38 [.string ⟨#[115, 113, 114, 116]⟩] 1 := totR_closed all_good A (rulesK2_ok A) Tryz.func38 (by kernel_rfl) (by kernel_rfl) nm54_run

set_option maxRecDepth 1000000 in
theorem nm56_run (off : Nat) (spot : Option Nat) : (funcK (envP 285 wildsP rulesK2) 300 38 [.string ⟨#[111, 100, 100]⟩] (tabsE off spot) (Tryz.prog.globals.size + 1) fun u _ n' mw => (readB 1 (Tryz.prog.globals.size + 1) u n' && Nat.ble (Tryz.prog.globals.size + 1) mw) = true) = (true = true) := by kernel_rfl
theorem nm56 {base : World} (A : AtP base) : TotR base 38 [.string ⟨#[111, 100, 100]⟩] 1 := totR_closed all_good A (rulesK2_ok A) Tryz.func38 (by kernel_rfl) (by kernel_rfl) nm56_run

set_option maxRecDepth 1000000 in
theorem nm58_run (off : Nat) (spot : Option Nat) : (funcK (envP 285 wildsP rulesK2) 300 38 [.string ⟨#[97, 102, 116, 101, 114]⟩] (tabsE off spot) (Tryz.prog.globals.size + 1) fun u _ n' mw => (readB 1 (Tryz.prog.globals.size + 1) u n' && Nat.ble (Tryz.prog.globals.size + 1) mw) = true) = (true = true) := by kernel_rfl
theorem nm58 {base : World} (A : AtP base) : TotR base 38 [.string ⟨#[97, 102, 116, 101, 114]⟩] 1 := totR_closed all_good A (rulesK2_ok A) Tryz.func38 (by kernel_rfl) (by kernel_rfl) nm58_run

set_option maxRecDepth 1000000 in
theorem nm60_run (off : Nat) (spot : Option Nat) : (funcK (envP 285 wildsP rulesK2) 300 38 [.string ⟨#[109, 101, 116, 32, 98, 121]⟩] (tabsE off spot) (Tryz.prog.globals.size + 1) fun u _ n' mw => (readB 2 (Tryz.prog.globals.size + 1) u n' && Nat.ble (Tryz.prog.globals.size + 1) mw) = true) = (true = true) := by kernel_rfl
theorem nm60 {base : World} (A : AtP base) : TotR base 38 [.string ⟨#[109, 101, 116, 32, 98, 121]⟩] 2 := totR_closed all_good A (rulesK2_ok A) Tryz.func38 (by kernel_rfl) (by kernel_rfl) nm60_run

set_option maxRecDepth 1000000 in
theorem nm62_run (off : Nat) (spot : Option Nat) : (funcK (envP 285 wildsP rulesK2) 300 38 [.string ⟨#[111, 118, 101, 114, 108, 97, 112, 115, 32, 98, 101, 102, 111, 114, 101]⟩] (tabsE off spot) (Tryz.prog.globals.size + 1) fun u _ n' mw => (readB 2 (Tryz.prog.globals.size + 1) u n' && Nat.ble (Tryz.prog.globals.size + 1) mw) = true) = (true = true) := by kernel_rfl
theorem nm62 {base : World} (A : AtP base) : TotR base 38 [.string ⟨#[111, 118, 101, 114, 108, 97, 112, 115, 32, 98, 101, 102, 111, 114, 101]⟩] 2 := totR_closed all_good A (rulesK2_ok A) Tryz.func38 (by kernel_rfl) (by kernel_rfl) nm62_run

set_option maxRecDepth 1000000 in
theorem nm64_run (off : Nat) (spot : Option Nat) : (funcK (envP 285 wildsP rulesK2) 300 38 [.string ⟨#[102, 105, 110, 105, 115, 104, 101, 115]⟩] (tabsE off spot) (Tryz.prog.globals.size + 1) fun u _ n' mw => (readB 1 (Tryz.prog.globals.size + 1) u n' && Nat.ble (Tryz.prog.globals.size + 1) mw) = true) = (true = true) := by kernel_rfl
theorem nm64 {base : World} (A : AtP base) : TotR base 38 [.string ⟨#[102, 105, 110, 105, 115, 104, 101, 115]⟩] 1 := totR_closed all_good A (rulesK2_ok A) Tryz.func38 (by kernel_rfl) (by kernel_rfl) nm64_run

set_option maxRecDepth 1000000 in
theorem nm66_run (off : Nat) (spot : Option Nat) : (funcK (envP 285 wildsP rulesK2) 300 38 [.string ⟨#[105, 110, 99, 108, 117, 100, 101, 115]⟩] (tabsE off spot) (Tryz.prog.globals.size + 1) fun u _ n' mw => (readB 1 (Tryz.prog.globals.size + 1) u n' && Nat.ble (Tryz.prog.globals.size + 1) mw) = true) = (true = true) := by kernel_rfl
theorem nm66 {base : World} (A : AtP base) : TotR base 38 [.string ⟨#[105, 110, 99, 108, 117, 100, 101, 115]⟩] 1 := totR_closed all_good A (rulesK2_ok A) Tryz.func38 (by kernel_rfl) (by kernel_rfl) nm66_run

set_option maxRecDepth 1000000 in
theorem nm68_run (off : Nat) (spot : Option Nat) : (funcK (envP 285 wildsP rulesK2) 300 38 [.string ⟨#[115, 116, 97, 114, 116, 115]⟩] (tabsE off spot) (Tryz.prog.globals.size + 1) fun u _ n' mw => (readB 1 (Tryz.prog.globals.size + 1) u n' && Nat.ble (Tryz.prog.globals.size + 1) mw) = true) = (true = true) := by kernel_rfl
theorem nm68 {base : World} (A : AtP base) : TotR base 38 [.string ⟨#[115, 116, 97, 114, 116, 115]⟩] 1 := totR_closed all_good A (rulesK2_ok A) Tryz.func38 (by kernel_rfl) (by kernel_rfl) nm68_run

set_option maxRecDepth 1000000 in
theorem nm70_run (off : Nat) (spot : Option Nat) : (funcK (envP 285 wildsP rulesK2) 300 38 [.string ⟨#[99, 111, 105, 110, 99, 105, 100, 101, 115]⟩] (tabsE off spot) (Tryz.prog.globals.size + 1) fun u _ n' mw => (readB 1 (Tryz.prog.globals.size + 1) u n' && Nat.ble (Tryz.prog.globals.size + 1) mw) = true) = (true = true) := by kernel_rfl
theorem nm70 {base : World} (A : AtP base) : TotR base 38 [.string ⟨#[99, 111, 105, 110, 99, 105, 100, 101, 115]⟩] 1 := totR_closed all_good A (rulesK2_ok A) Tryz.func38 (by kernel_rfl) (by kernel_rfl) nm70_run

set_option maxRecDepth 1000000 in
theorem nm72_run (off : Nat) (spot : Option Nat) : (funcK (envP 285 wildsP rulesK2) 300 38 [.string ⟨#[119, 101, 101, 107, 32, 111, 102, 32, 121, 101, 97, 114]⟩] (tabsE off spot) (Tryz.prog.globals.size + 1) fun u _ n' mw => (readB 3 (Tryz.prog.globals.size + 1) u n' && Nat.ble (Tryz.prog.globals.size + 1) mw) = true) = (true = true) := by kernel_rfl
theorem nm72 {base : World} (A : AtP base) : TotR base 38 [.string ⟨#[119, 101, 101, 107, 32, 111, 102, 32, 121, 101, 97, 114]⟩] 3 := totR_closed all_good A (rulesK2_ok A) Tryz.func38 (by kernel_rfl) (by kernel_rfl) nm72_run

set_option maxRecDepth 1000000 in
theorem nm74_run (off : Nat) (spot : Option Nat) : (funcK (envP 285 wildsP rulesK2) 300 38 [.string ⟨#[109, 111, 110, 116, 104, 32, 111, 102, 32, 121, 101, 97, 114]⟩] (tabsE off spot) (Tryz.prog.globals.size + 1) fun u _ n' mw => (readB 3 (Tryz.prog.globals.size + 1) u n' && Nat.ble (Tryz.prog.globals.size + 1) mw) = true) = (true = true) := by kernel_rfl
theorem nm74 {base : World} (A : AtP base) : TotR base 38 [.string ⟨#[109, 111, 110, 116, 104, 32, 111, 102, 32, 121, 101, 97, 114]⟩] 3 := totR_closed all_good A (rulesK2_ok A) Tryz.func38 (by kernel_rfl) (by kernel_rfl) nm74_run

set_option maxRecDepth 1000000 in
theorem nm76_run (off : Nat) (spot : Option Nat) : (funcK (envP 285 wildsP rulesK2) 300 38 [.string ⟨#[103, 101, 116, 32, 101, 110, 116, 114, 105, 101, 115]⟩] (tabsE off spot) (Tryz.prog.globals.size + 1) fun u _ n' mw => (readB 2 (Tryz.prog.globals.size + 1) u n' && Nat.ble (Tryz.prog.globals.size + 1) mw) = true) = (true = true) := by kernel_rfl
theorem nm76 {base : World} (A : AtP base) : TotR base 38 [.string ⟨#[103, 101, 116, 32, 101, 110, 116, 114, 105, 101, 115]⟩] 2 := totR_closed all_good A (rulesK2_ok A) Tryz.func38 (by kernel_rfl) (by kernel_rfl) nm76_run

set_option maxRecDepth 1000000 in
theorem nm78_run (off : Nat) (spot : Option Nat) : (funcK (envP 285 wildsP rulesK2) 300 38 [.string ⟨#[99, 111, 110, 116, 101, 120, 116, 32, 109, 101, 114, 103, 101]⟩] (tabsE off spot) (Tryz.prog.globals.size + 1) fun u _ n' mw => (readB 2 (Tryz.prog.globals.size + 1) u n' && Nat.ble (Tryz.prog.globals.size + 1) mw) = true) = (true = true) := by kernel_rfl
theorem nm78 {base : World} (A : AtP base) : TotR base 38 [.string ⟨#[99, 111, 110, 116, 101, 120, 116, 32, 109, 101, 114, 103, 101]⟩] 2 := totR_closed all_good A (rulesK2_ok A) Tryz.func38 (by kernel_rfl) (by kernel_rfl) nm78_run

end Go.Proofs.YtamkkkkonigglaaGreatDoor
