/-
  Closed runs: the functions' names are names, part 1.
-/
import Derived.Test.YtamkkkkonigglaaGreatDoorCb
namespace Go.Proofs.YtamkkkkonigglaaGreatDoor
open Go Go.Pe Go.RowKit

set_option maxRecDepth 1000000 in
theorem nm1_run (off : Nat) (spot : Option Nat) : (funcK (envP 285 wildsP rulesK2) 300 38 [.string ⟨#[110, 117, 109, 98, 101, 114]⟩] (tabsE off spot) (Tryz.prog.globals.size + 1) fun u _ n' mw => (readB 1 (Tryz.prog.globals.size + 1) u n' && Nat.ble (Tryz.prog.globals.size + 1) mw) = true) = (true = true) := by kernel_rfl
theorem nm1 {base : World} (A : AtP base) : TotR base 38 [.string ⟨#[110, 117, 109, 98, 101, 114]⟩] 1 := totR_closed all_good A (rulesK2_ok A) Tryz.func38 (by kernel_rfl) (by kernel_rfl) nm1_run

set_option maxRecDepth 1000000 in
theorem nm3_run (off : Nat) (spot : Option Nat) : (funcK (envP 285 wildsP rulesK2) 300 38 [.string ⟨#[116, 105, 109, 101]⟩] (tabsE off spot) (Tryz.prog.globals.size + 1) fun u _ n' mw => (readB 1 (Tryz.prog.globals.size + 1) u n' && Nat.ble (Tryz.prog.globals.size + 1) mw) = true) = (true = true) := by kernel_rfl
theorem nm3 {base : World} (A : AtP base) : TotR base 38 [.string ⟨#[116, 105, 109, 101]⟩] 1 := totR_closed all_good A (rulesK2_ok A) Tryz.func38 (by kernel_rfl) (by kernel_rfl) nm3_run

set_option maxRecDepth 1000000 in
theorem nm5_run (off : Nat) (spot : Option Nat) : (funcK (envP 285 wildsP rulesK2) 300 38 [.string ⟨#[100, 117, 114, 97, 116, 105, 111, 110]⟩] (tabsE off spot) (Tryz.prog.globals.size + 1) fun u _ n' mw => (readB 1 (Tryz.prog.globals.size + 1) u n' && Nat.ble (Tryz.prog.globals.size + 1) mw) = true) = (true = true) := by kernel_rfl
theorem nm5 {base : World} (A : AtP base) : TotR base 38 [.string ⟨#[100, 117, 114, 97, 116, 105, 111, 110]⟩] 1 := totR_closed all_good A (rulesK2_ok A) Tryz.func38 (by kernel_rfl) (by kernel_rfl) nm5_run

set_option maxRecDepth 1000000 in
theorem nm7_run (off : Nat) (spot : Option Nat) : (funcK (envP 285 wildsP rulesK2) 300 38 [.string ⟨#[110, 111, 116]⟩] (tabsE off spot) (Tryz.prog.globals.size + 1) fun u _ n' mw => (readB 1 (Tryz.prog.globals.size + 1) u n' && Nat.ble (Tryz.prog.globals.size + 1) mw) = true) = (true = true) := by kernel_rfl
theorem nm7 {base : World} (A : AtP base) : TotR base 38 [.string ⟨#[110, 111, 116]⟩] 1 := totR_closed all_good A (rulesK2_ok A) Tryz.func38 (by kernel_rfl) (by kernel_rfl) nm7_run

set_option maxRecDepth 1000000 in
theorem nm9_run (off : Nat) (spot : Option Nat) : (funcK (envP 285 wildsP rulesK2) 300 38 [.string ⟨#[115, 116, 114, 105, 110, 103, 32, 108, 101, 110, 103, 116, 104]⟩] (tabsE off spot) (Tryz.prog.globals.size + 1) fun u _ n' mw => (readB 2 (Tryz.prog.globals.size + 1) u n' && Nat.ble (Tryz.prog.globals.size + 1) mw) = true) = (true = true) := by kernel_rfl
theorem nm9 {base : World} (A : AtP base) : TotR base 38 [.string ⟨#[115, 116, 114, 105, 110, 103, 32, 108, 101, 110, 103, 116, 104]⟩] 2 := totR_closed all_good A (rulesK2_ok A) Tryz.func38 (by kernel_rfl) (by kernel_rfl) nm9_run

set_option maxRecDepth 1000000 in
theorem nm11_run (off : Nat) (spot : Option Nat) : (funcK (envP 285 wildsP rulesK2) 300 38 [.string ⟨#[108, 111, 119, 101, 114, 32, 99, 97, 115, 101]⟩] (tabsE off spot) (Tryz.prog.globals.size + 1) fun u _ n' mw => (readB 2 (Tryz.prog.globals.size + 1) u n' && Nat.ble (Tryz.prog.globals.size + 1) mw) = true) = (true = true) := by kernel_rfl
theorem nm11 {base : World} (A : AtP base) : TotR base 38 [.string ⟨#[108, 111, 119, 101, 114, 32, 99, 97, 115, 101]⟩] 2 := totR_closed all_good A (rulesK2_ok A) Tryz.func38 (by kernel_rfl) (by kernel_rfl) nm11_run

set_option maxRecDepth 1000000 in
theorem nm13_run (off : Nat) (spot : Option Nat) : (funcK (envP 285 wildsP rulesK2) 300 38 [.string ⟨#[115, 117, 98, 115, 116, 114, 105, 110, 103, 32, 98, 101, 102, 111, 114, 101]⟩] (tabsE off spot) (Tryz.prog.globals.size + 1) fun u _ n' mw => (readB 2 (Tryz.prog.globals.size + 1) u n' && Nat.ble (Tryz.prog.globals.size + 1) mw) = true) = (true = true) := by kernel_rfl
theorem nm13 {base : World} (A : AtP base) : TotR base 38 [.string ⟨#[115, 117, 98, 115, 116, 114, 105, 110, 103, 32, 98, 101, 102, 111, 114, 101]⟩] 2 := totR_closed all_good A (rulesK2_ok A) Tryz.func38 (by kernel_rfl) (by kernel_rfl) nm13_run

set_option maxRecDepth 1000000 in
theorem nm15_run (off : Nat) (spot : Option Nat) : (funcK (envP 285 wildsP rulesK2) 300 38 [.string ⟨#[99, 111, 110, 116, 97, 105, 110, 115]⟩] (tabsE off spot) (Tryz.prog.globals.size + 1) fun u _ n' mw => (readB 1 (Tryz.prog.globals.size + 1) u n' && Nat.ble (Tryz.prog.globals.size + 1) mw) = true) = (true = true) := by kernel_rfl
theorem nm15 {base : World} (A : AtP base) : TotR base 38 [.string ⟨#[99, 111, 110, 116, 97, 105, 110, 115]⟩] 1 := totR_closed all_good A (rulesK2_ok A) Tryz.func38 (by kernel_rfl) (by kernel_rfl) nm15_run

set_option maxRecDepth 1000000 in
theorem nm17_run (off : Nat) (spot : Option Nat) : (funcK (envP 285 wildsP rulesK2) 300 38 [.string ⟨#[101, 110, 100, 115, 32, 119, 105, 116, 104]⟩] (tabsE off spot) (Tryz.prog.globals.size + 1) fun u _ n' mw => (readB 2 (Tryz.prog.globals.size + 1) u n' && Nat.ble (Tryz.prog.globals.size + 1) mw) = true) = (true = true) := by kernel_rfl
theorem nm17 {base : World} (A : AtP base) : TotR base 38 [.string ⟨#[101, 110, 100, 115, 32, 119, 105, 116, 104]⟩] 2 := totR_closed all_good A (rulesK2_ok A) Tryz.func38 (by kernel_rfl) (by kernel_rfl) nm17_run

set_option maxRecDepth 1000000 in
theorem nm19_run (off : Nat) (spot : Option Nat) : (funcK (envP 285 wildsP rulesK2) 300 38 [.string ⟨#[114, 101, 112, 108, 97, 99, 101]⟩] (tabsE off spot) (Tryz.prog.globals.size + 1) fun u _ n' mw => (readB 1 (Tryz.prog.globals.size + 1) u n' && Nat.ble (Tryz.prog.globals.size + 1) mw) = true) = (true = true) := by kernel_rfl
theorem nm19 {base : World} (A : AtP base) : TotR base 38 [.string ⟨#[114, 101, 112, 108, 97, 99, 101]⟩] 1 := totR_closed all_good A (rulesK2_ok A) Tryz.func38 (by kernel_rfl) (by kernel_rfl) nm19_run

set_option maxRecDepth 1000000 in
theorem nm21_run (off : Nat) (spot : Option Nat) : (funcK (envP 285 wildsP rulesK2) 300 38 [.string ⟨#[108, 105, 115, 116, 32, 99, 111, 110, 116, 97, 105, 110, 115]⟩] (tabsE off spot) (Tryz.prog.globals.size + 1) fun u _ n' mw => (readB 2 (Tryz.prog.globals.size + 1) u n' && Nat.ble (Tryz.prog.globals.size + 1) mw) = true) = (true = true) := by kernel_rfl
theorem nm21 {base : World} (A : AtP base) : TotR base 38 [.string ⟨#[108, 105, 115, 116, 32, 99, 111, 110, 116, 97, 105, 110, 115]⟩] 2 := totR_closed all_good A (rulesK2_ok A) Tryz.func38 (by kernel_rfl) (by kernel_rfl) nm21_run

set_option maxRecDepth 1000000 in
theorem nm23_run (off : Nat) (spot : Option Nat) : (funcK (envP 285 wildsP rulesK2) 300 38 [.string ⟨#[109, 105, 110]⟩] (tabsE off spot) (Tryz.prog.globals.size + 1) fun u _ n' mw => (readB 1 (Tryz.prog.globals.size + 1) u n' && Nat.ble (Tryz.prog.globals.size + 1) mw) = true) = (true = true) := by kernel_rfl
theorem nm23 {base : World} (A : AtP base) : TotR base 38 [.string ⟨#[109, 105, 110]⟩] 1 := totR_closed all_good A (rulesK2_ok A) Tryz.func38 (by kernel_rfl) (by kernel_rfl) nm23_run

set_option maxRecDepth 1000000 in
theorem nm25_run (off : Nat) (spot : Option Nat) : (funcK (envP 285 wildsP rulesK2) 300 38 [.string ⟨#[115, 117, 109]⟩] (tabsE off spot) (Tryz.prog.globals.size + 1) fun u _ n' mw => (readB 1 (Tryz.prog.globals.size + 1) u n' && Nat.ble (Tryz.prog.globals.size + 1) mw) = true) = (true = true) := by kernel_rfl
theorem nm25 {base : World} (A : AtP base) : TotR base 38 [.string ⟨#[115, 117, 109]⟩] 1 := totR_closed all_good A (rulesK2_ok A) Tryz.func38 (by kernel_rfl) (by kernel_rfl) nm25_run

set_option maxRecDepth 1000000 in
theorem nm27_run (off : Nat) (spot : Option Nat) : (funcK (envP 285 wildsP rulesK2) 300 38 [.string ⟨#[112, 114, 111, 100, 117, 99, 116]⟩] (tabsE off spot) (Tryz.prog.globals.size + 1) fun u _ n' mw => (readB 1 (Tryz.prog.globals.size + 1) u n' && Nat.ble (Tryz.prog.globals.size + 1) mw) = true) = (true = true) := by kernel_rfl
theorem nm27 {base : World} (A : AtP base) : TotR base 38 [.string ⟨#[112, 114, 111, 100, 117, 99, 116]⟩] 1 := totR_closed all_good A (rulesK2_ok A) Tryz.func38 (by kernel_rfl) (by kernel_rfl) nm27_run

set_option maxRecDepth 1000000 in
theorem nm29_run (off : Nat) (spot : Option Nat) : (funcK (envP 285 wildsP rulesK2) 300 38 [.string ⟨#[115, 116, 100, 100, 101, 118]⟩] (tabsE off spot) (Tryz.prog.globals.size + 1) fun u _ n' mw => (readB 1 (Tryz.prog.globals.size + 1) u n' && Nat.ble (Tryz.prog.globals.size + 1) mw) = true) = (true = true) := by kernel_rfl
theorem nm29 {base : World} (A : AtP base) : TotR base 38 [.string ⟨#[115, 116, 100, 100, 101, 118]⟩] 1 := totR_closed all_good A (rulesK2_ok A) Tryz.func38 (by kernel_rfl) (by kernel_rfl) nm29_run

set_option maxRecDepth 1000000 in
theorem nm31_run (off : Nat) (spot : Option Nat) : (funcK (envP 285 wildsP rulesK2) 300 38 [.string ⟨#[97, 108, 108]⟩] (tabsE off spot) (Tryz.prog.globals.size + 1) fun u _ n' mw => (readB 1 (Tryz.prog.globals.size + 1) u n' && Nat.ble (Tryz.prog.globals.size + 1) mw) = true) = (true = true) := by kernel_rfl
theorem nm31 {base : World} (A : AtP base) : TotR base 38 [.string ⟨#[97, 108, 108]⟩] 1 := totR_closed all_good A (rulesK2_ok A) Tryz.func38 (by kernel_rfl) (by kernel_rfl) nm31_run

set_option maxRecDepth 1000000 in
theorem nm33_run (off : Nat) (spot : Option Nat) : (funcK (envP 285 wildsP rulesK2) 300 38 [.string ⟨#[115, 117, 98, 108, 105, 115, 116]⟩] (tabsE off spot) (Tryz.prog.globals.size + 1) fun u _ n' mw => (readB 1 (Tryz.prog.globals.size + 1) u n' && Nat.ble (Tryz.prog.globals.size + 1) mw) = true) = (true = true) := by kernel_rfl
theorem nm33 {base : World} (A : AtP base) : TotR base 38 [.string ⟨#[115, 117, 98, 108, 105, 115, 116]⟩] 1 := totR_closed all_good A (rulesK2_ok A) Tryz.func38 (by kernel_rfl) (by kernel_rfl) nm33_run

set_option maxRecDepth 1000000 in
theorem nm35_run (off : Nat) (spot : Option Nat) : (funcK (envP 285 wildsP rulesK2) 300 38 [.string ⟨#[99, 111, 110, 99, 97, 116, 101, 110, 97, 116, 101]⟩] (tabsE off spot) (Tryz.prog.globals.size + 1) fun u _ n' mw => (readB 1 (Tryz.prog.globals.size + 1) u n' && Nat.ble (Tryz.prog.globals.size + 1) mw) = true) = (true = true) := by kernel_rfl
theorem nm35 {base : World} (A : AtP base) : TotR base 38 [.string ⟨#[99, 111, 110, 99, 97, 116, 101, 110, 97, 116, 101]⟩] 1 := totR_closed all_good A (rulesK2_ok A) Tryz.func38 (by kernel_rfl) (by kernel_rfl) nm35_run

set_option maxRecDepth 1000000 in
theorem nm37_run (off : Nat) (spot : Option Nat) : (funcK (envP 285 wildsP rulesK2) 300 38 [.string ⟨#[105, 110, 115, 101, 114, 116, 32, 98, 101, 102, 111, 114, 101]⟩] (tabsE off spot) (Tryz.prog.globals.size + 1) fun u _ n' mw => (readB 2 (Tryz.prog.globals.size + 1) u n' && Nat.ble (Tryz.prog.globals.size + 1) mw) = true) = (true = true) := by kernel_rfl
theorem nm37 {base : World} (A : AtP base) : TotR base 38 [.string ⟨#[105, 110, 115, 101, 114, 116, 32, 98, 101, 102, 111, 114, 101]⟩] 2 := totR_closed all_good A (rulesK2_ok A) Tryz.func38 (by kernel_rfl) (by kernel_rfl) nm37_run

set_option maxRecDepth 1000000 in
theorem nm39_run (off : Nat) (spot : Option Nat) : (funcK (envP 285 wildsP rulesK2) 300 38 [.string ⟨#[114, 101, 109, 111, 118, 101]⟩] (tabsE off spot) (Tryz.prog.globals.size + 1) fun u _ n' mw => (readB 1 (Tryz.prog.globals.size + 1) u n' && Nat.ble (Tryz.prog.globals.size + 1) mw) = true) = (true = true) := by kernel_rfl
theorem nm39 {base : World} (A : AtP base) : TotR base 38 [.string ⟨#[114, 101, 109, 111, 118, 101]⟩] 1 := totR_closed all_good A (rulesK2_ok A) Tryz.func38 (by kernel_rfl) (by kernel_rfl) nm39_run

set_option maxRecDepth 1000000 in
theorem nm41_run (off : Nat) (spot : Option Nat) : (funcK (envP 285 wildsP rulesK2) 300 38 [.string ⟨#[100, 105, 115, 116, 105, 110, 99, 116, 32, 118, 97, 108, 117, 101, 115]⟩] (tabsE off spot) (Tryz.prog.globals.size + 1) fun u _ n' mw => (readB 2 (Tryz.prog.globals.size + 1) u n' && Nat.ble (Tryz.prog.globals.size + 1) mw) = true) = (true = true) := by kernel_rfl
theorem nm41 {base : World} (A : AtP base) : TotR base 38 [.string ⟨#[100, 105, 115, 116, 105, 110, 99, 116, 32, 118, 97, 108, 117, 101, 115]⟩] 2 := totR_closed all_good A (rulesK2_ok A) Tryz.func38 (by kernel_rfl) (by kernel_rfl) nm41_run

set_option maxRecDepth 1000000 in
theorem nm43_run (off : Nat) (spot : Option Nat) : (funcK (envP 285 wildsP rulesK2) 300 38 [.string ⟨#[105, 110, 100, 101, 120, 32, 111, 102]⟩] (tabsE off spot) (Tryz.prog.globals.size + 1) fun u _ n' mw => (readB 2 (Tryz.prog.globals.size + 1) u n' && Nat.ble (Tryz.prog.globals.size + 1) mw) = true) = (true = true) := by kernel_rfl
theorem nm43 {base : World} (A : AtP base) : TotR base 38 [.string ⟨#[105, 110, 100, 101, 120, 32, 111, 102]⟩] 2 := totR_closed all_good A (rulesK2_ok A) Tryz.func38 (by kernel_rfl) (by kernel_rfl) nm43_run

set_option maxRecDepth 1000000 in
theorem nm45_run (off : Nat) (spot : Option Nat) : (funcK (envP 285 wildsP rulesK2) 300 38 [.string ⟨#[100, 101, 99, 105, 109, 97, 108]⟩] (tabsE off spot) (Tryz.prog.globals.size + 1) fun u _ n' mw => (readB 1 (Tryz.prog.globals.size + 1) u n' && Nat.ble (Tryz.prog.globals.size + 1) mw) = true) = (true = true) := by kernel_rfl
theorem nm45 {base : World} (A : AtP base) : TotR base 38 [.string ⟨#[100, 101, 99, 105, 109, 97, 108]⟩] 1 := totR_closed all_good A (rulesK2_ok A) Tryz.func38 (by kernel_rfl) (by kernel_rfl) nm45_run

set_option maxRecDepth 1000000 in
theorem nm47_run (off : Nat) (spot : Option Nat) : (funcK (envP 285 wildsP rulesK2) 300 38 [.string ⟨#[114, 111, 117, 110, 100, 32, 100, 111, 119, 110]⟩] (tabsE off spot) (Tryz.prog.globals.size + 1) fun u _ n' mw => (readB 2 (Tryz.prog.globals.size + 1) u n' && Nat.ble (Tryz.prog.globals.size + 1) mw) = true) = (true = true) := by kernel_rfl
theorem nm47 {base : World} (A : AtP base) : TotR base 38 [.string ⟨#[114, 111, 117, 110, 100, 32, 100, 111, 119, 110]⟩] 2 := totR_closed all_good A (rulesK2_ok A) Tryz.func38 (by kernel_rfl) (by kernel_rfl) nm47_run

set_option maxRecDepth 1000000 in
theorem nm49_run (off : Nat) (spot : Option Nat) : (funcK (envP 285 wildsP rulesK2) 300 38 [.string ⟨#[114, 111, 117, 110, 100, 32, 104, 97, 108, 102, 32, 100, 111, 119, 110]⟩] (tabsE off spot) (Tryz.prog.globals.size + 1) fun u _ n' mw => (readB 3 (Tryz.prog.globals.size + 1) u n' && Nat.ble (Tryz.prog.globals.size + 1) mw) = true) = (true = true) := by kernel_rfl
theorem nm49 {base : World} (A : AtP base) : TotR base 38 [.string ⟨#[114, 111, 117, 110, 100, 32, 104, 97, 108, 102, 32, 100, 111, 119, 110]⟩] 3 := totR_closed all_good A (rulesK2_ok A) Tryz.func38 (by kernel_rfl) (by kernel_rfl) nm49_run

set_option maxRecDepth 1000000 in
theorem nm51_run (off : Nat) (spot : Option Nat) : (funcK (envP 285 wildsP rulesK2) 300 38 [.string ⟨#[99, 101, 105, 108, 105, 110, 103]⟩] (tabsE off spot) (Tryz.prog.globals.size + 1) fun u _ n' mw => (readB 1 (Tryz.prog.globals.size + 1) u n' && Nat.ble (Tryz.prog.globals.size + 1) mw) = true) = (true = true) := by kernel_rfl
theorem nm51 {base : World} (A : AtP base) : TotR base 38 [.string ⟨#[99, 101, 105, 108, 105, 110, 103]⟩] 1 := totR_closed all_good A (rulesK2_ok A) Tryz.func38 (by kernel_rfl) (by kernel_rfl) nm51_run

set_option maxRecDepth 1000000 in
theorem nm53_run (off : Nat) (spot : Option Nat) : (funcK (envP 285 wildsP rulesK2) 300 38 [.string ⟨#[109, 111, 100, 117, 108, 111]⟩] (tabsE off spot) (Tryz.prog.globals.size + 1) fun u _ n' mw => (readB 1 (Tryz.prog.globals.size + 1) u n' && Nat.ble (Tryz.prog.globals.size + 1) mw) = true) = (true = true) := by kernel_rfl
theorem nm53 {base : World} (A : AtP base) : TotR base 38 [.string ⟨#[109, 111, 100, 117, 108, 111]⟩] 1 := totR_closed all_good A (rulesK2_ok A) Tryz.func38 (by kernel_rfl) (by kernel_rfl) nm53_run

set_option maxRecDepth 1000000 in
theorem nm55_run (off : Nat) (spot : Option Nat) : (funcK (envP 285 wildsP rulesK2) 300 38 [.string ⟨#[101, 118, 101, 110]⟩] (tabsE off spot) (Tryz.prog.globals.size + 1) fun u _ n' mw => (readB 1 (Tryz.prog.globals.size + 1) u n' && Nat.ble (Tryz.prog.globals.size + 1) mw) = true) = (true = true) := by kernel_rfl
theorem nm55 {base : World} (A : AtP base) : TotR base 38 [.string ⟨#[101, 118, 101, 110]⟩] 1 := totR_closed all_good A (rulesK2_ok A) Tryz.func38 (by kernel_rfl) (by kernel_rfl) nm55_run

set_option maxRecDepth 1000000 in
theorem nm57_run (off : Nat) (spot : Option Nat) : (funcK (envP 285 wildsP rulesK2) 300 38 [.string ⟨#[98, 101, 102, 111, 114, 101]⟩] (tabsE off spot) (Tryz.prog.globals.size + 1) fun u _ n' mw => (readB 1 (Tryz.prog.globals.size + 1) u n' && Nat.ble (Tryz.prog.globals.size + 1) mw) = true) = (true = true) := by kernel_rfl
theorem nm57 {base : World} (A : AtP base) : TotR base 38 [.string ⟨#[98, 101, 102, 111, 114, 101]⟩] 1 := totR_closed all_good A (rulesK2_ok A) Tryz.func38 (by kernel_rfl) (by kernel_rfl) nm57_run

set_option maxRecDepth 1000000 in
theorem nm59_run (off : Nat) (spot : Option Nat) : (funcK (envP 285 wildsP rulesK2) 300 38 [.string ⟨#[109, 101, 101, 116, 115]⟩] (tabsE off spot) (Tryz.prog.globals.size + 1) fun u _ n' mw => (readB 1 (Tryz.prog.globals.size + 1) u n' && Nat.ble (Tryz.prog.globals.size + 1) mw) = true) = (true = true) := by kernel_rfl
theorem nm59 {base : World} (A : AtP base) : TotR base 38 [.string ⟨#[109, 101, 101, 116, 115]⟩] 1 := totR_closed all_good A (rulesK2_ok A) Tryz.func38 (by kernel_rfl) (by kernel_rfl) nm59_run

set_option maxRecDepth 1000000 in
theorem nm61_run (off : Nat) (spot : Option Nat) : (funcK (envP 285 wildsP rulesK2) 300 38 [.string ⟨#[111, 118, 101, 114, 108, 97, 112, 115]⟩] (tabsE off spot) (Tryz.prog.globals.size + 1) fun u _ n' mw => (readB 1 (Tryz.prog.globals.size + 1) u n' && Nat.ble (Tryz.prog.globals.size + 1) mw) = true) = (true = true) := by kernel_rfl
theorem nm61 {base : World} (A : AtP base) : TotR base 38 [.string ⟨#[111, 118, 101, 114, 108, 97, 112, 115]⟩] 1 := totR_closed all_good A (rulesK2_ok A) Tryz.func38 (by kernel_rfl) (by kernel_rfl) nm61_run

set_option maxRecDepth 1000000 in
theorem nm63_run (off : Nat) (spot : Option Nat) : (funcK (envP 285 wildsP rulesK2) 300 38 [.string ⟨#[111, 118, 101, 114, 108, 97, 112, 115, 32, 97, 102, 116, 101, 114]⟩] (tabsE off spot) (Tryz.prog.globals.size + 1) fun u _ n' mw => (readB 2 (Tryz.prog.globals.size + 1) u n' && Nat.ble (Tryz.prog.globals.size + 1) mw) = true) = (true = true) := by kernel_rfl
theorem nm63 {base : World} (A : AtP base) : TotR base 38 [.string ⟨#[111, 118, 101, 114, 108, 97, 112, 115, 32, 97, 102, 116, 101, 114]⟩] 2 := totR_closed all_good A (rulesK2_ok A) Tryz.func38 (by kernel_rfl) (by kernel_rfl) nm63_run

set_option maxRecDepth 1000000 in
theorem nm65_run (off : Nat) (spot : Option Nat) : (funcK (envP 285 wildsP rulesK2) 300 38 [.string ⟨#[102, 105, 110, 105, 115, 104, 101, 100, 32, 98, 121]⟩] (tabsE off spot) (Tryz.prog.globals.size + 1) fun u _ n' mw => (readB 2 (Tryz.prog.globals.size + 1) u n' && Nat.ble (Tryz.prog.globals.size + 1) mw) = true) = (true = true) := by kernel_rfl
theorem nm65 {base : World} (A : AtP base) : TotR base 38 [.string ⟨#[102, 105, 110, 105, 115, 104, 101, 100, 32, 98, 121]⟩] 2 := totR_closed all_good A (rulesK2_ok A) Tryz.func38 (by kernel_rfl) (by kernel_rfl) nm65_run

set_option maxRecDepth 1000000 in
theorem nm67_run (off : Nat) (spot : Option Nat) : (funcK (envP 285 wildsP rulesK2) 300 38 [.string ⟨#[100, 117, 114, 105, 110, 103]⟩] (tabsE off spot) (Tryz.prog.globals.size + 1) fun u _ n' mw => (readB 1 (Tryz.prog.globals.size + 1) u n' && Nat.ble (Tryz.prog.globals.size + 1) mw) = true) = (true = true) := by kernel_rfl
theorem nm67 {base : World} (A : AtP base) : TotR base 38 [.string ⟨#[100, 117, 114, 105, 110, 103]⟩] 1 := totR_closed all_good A (rulesK2_ok A) Tryz.func38 (by kernel_rfl) (by kernel_rfl) nm67_run

set_option maxRecDepth 1000000 in
theorem nm69_run (off : Nat) (spot : Option Nat) : (funcK (envP 285 wildsP rulesK2) 300 38 [.string ⟨#[115, 116, 97, 114, 116, 101, 100, 32, 98, 121]⟩] (tabsE off spot) (Tryz.prog.globals.size + 1) fun u _ n' mw => (readB 2 (Tryz.prog.globals.size + 1) u n' && Nat.ble (Tryz.prog.globals.size + 1) mw) = true) = (true = true) := by kernel_rfl
theorem nm69 {base : World} (A : AtP base) : TotR base 38 [.string ⟨#[115, 116, 97, 114, 116, 101, 100, 32, 98, 121]⟩] 2 := totR_closed all_good A (rulesK2_ok A) Tryz.func38 (by kernel_rfl) (by kernel_rfl) nm69_run

set_option maxRecDepth 1000000 in
theorem nm71_run (off : Nat) (spot : Option Nat) : (funcK (envP 285 wildsP rulesK2) 300 38 [.string ⟨#[100, 97, 121, 32, 111, 102, 32, 121, 101, 97, 114]⟩] (tabsE off spot) (Tryz.prog.globals.size + 1) fun u _ n' mw => (readB 3 (Tryz.prog.globals.size + 1) u n' && Nat.ble (Tryz.prog.globals.size + 1) mw) = true) = (true = true) := by kernel_rfl
theorem nm71 {base : World} (A : AtP base) : TotR base 38 [.string ⟨#[100, 97, 121, 32, 111, 102, 32, 121, 101, 97, 114]⟩] 3 := totR_closed all_good A (rulesK2_ok A) Tryz.func38 (by kernel_rfl) (by kernel_rfl) nm71_run

set_option maxRecDepth 1000000 in
theorem nm73_run (off : Nat) (spot : Option Nat) : (funcK (envP 285 wildsP rulesK2) 300 38 [.string ⟨#[100, 97, 121, 32, 111, 102, 32, 119, 101, 101, 107]⟩] (tabsE off spot) (Tryz.prog.globals.size + 1) fun u _ n' mw => (readB 3 (Tryz.prog.globals.size + 1) u n' && Nat.ble (Tryz.prog.globals.size + 1) mw) = true) = (true = true) := by kernel_rfl
theorem nm73 {base : World} (A : AtP base) : TotR base 38 [.string ⟨#[100, 97, 121, 32, 111, 102, 32, 119, 101, 101, 107]⟩] 3 := totR_closed all_good A (rulesK2_ok A) Tryz.func38 (by kernel_rfl) (by kernel_rfl) nm73_run

set_option maxRecDepth 1000000 in
theorem nm75_run (off : Nat) (spot : Option Nat) : (funcK (envP 285 wildsP rulesK2) 300 38 [.string ⟨#[103, 101, 116, 32, 118, 97, 108, 117, 101]⟩] (tabsE off spot) (Tryz.prog.globals.size + 1) fun u _ n' mw => (readB 2 (Tryz.prog.globals.size + 1) u n' && Nat.ble (Tryz.prog.globals.size + 1) mw) = true) = (true = true) := by kernel_rfl
theorem nm75 {base : World} (A : AtP base) : TotR base 38 [.string ⟨#[103, 101, 116, 32, 118, 97, 108, 117, 101]⟩] 2 := totR_closed all_good A (rulesK2_ok A) Tryz.func38 (by kernel_rfl) (by kernel_rfl) nm75_run

set_option maxRecDepth 1000000 in
theorem nm77_run (off : Nat) (spot : Option Nat) : (funcK (envP 285 wildsP rulesK2) 300 38 [.string ⟨#[99, 111, 110, 116, 101, 120, 116, 32, 112, 117, 116]⟩] (tabsE off spot) (Tryz.prog.globals.size + 1) fun u _ n' mw => (readB 2 (Tryz.prog.globals.size + 1) u n' && Nat.ble (Tryz.prog.globals.size + 1) mw) = true) = (true = true) := by kernel_rfl
theorem nm77 {base : World} (A : AtP base) : TotR base 38 [.string ⟨#[99, 111, 110, 116, 101, 120, 116, 32, 112, 117, 116]⟩] 2 := totR_closed all_good A (rulesK2_ok A) Tryz.func38 (by kernel_rfl) (by kernel_rfl) nm77_run

set_option maxRecDepth 1000000 in
theorem nm79_run (off : Nat) (spot : Option Nat) : (funcK (envP 285 wildsP rulesK2) 300 38 [.string ⟨#[99, 111, 110, 116, 101, 120, 116]⟩] (tabsE off spot) (Tryz.prog.globals.size + 1) fun u _ n' mw => (readB 1 (Tryz.prog.globals.size + 1) u n' && Nat.ble (Tryz.prog.globals.size + 1) mw) = true) = (true = true) := by kernel_rfl
theorem nm79 {base : World} (A : AtP base) : TotR base 38 [.string ⟨#[99, 111, 110, 116, 101, 120, 116]⟩] 1 := totR_closed all_good A (rulesK2_ok A) Tryz.func38 (by kernel_rfl) (by kernel_rfl) nm79_run

end Go.Proofs.YtamkkkkonigglaaGreatDoor
