/-
  The names of days and months are texts that are values.
-/
import Derived.Test.YthcjocelokjifaaGreatDoorEj
namespace Go.Proofs.YthcjocelokjifaaGreatDoor
open Go Go.Pe Go.RowKit

theorem reck_closed {rules : List (Nat × Rule)} {d : Nat} {f : FuncId} {args : List Value} {h0 : Heap} {v : Value}
    (hk : (funcK (env rules) d f args h0 Tryz.prog.globals.size fun u _ _ mw => u = v ∧ Nat.ble Tryz.prog.globals.size mw = true) = (v = v ∧ true = true)) : Reck rules d f args h0 v := by
  constructor
  have h1 := cast hk.symm ⟨rfl, rfl⟩
  have : (fun (u : Value) (_ : Heap) (_ mw : Nat) => u = v ∧ Nat.ble Tryz.prog.globals.size mw = true) = fun u _ _ mw => u = v ∧ Tryz.prog.globals.size ≤ mw := by
    funext u _ _ mw
    exact propext ⟨fun ⟨a, b⟩ => ⟨a, Nat.le_of_ble_eq_true b⟩, fun ⟨a, b⟩ => ⟨a, Nat.ble_eq_true_of_le b⟩⟩
  rw [this] at h1
  exact h1

def bs (l : List UInt8) : ByteArray := ⟨⟨l⟩⟩
theorem tx1 : Texty (bs [77, 111, 110, 100, 97, 121]) := reck_closed (by kernel_rfl)
theorem tx2 : Texty (bs [84, 117, 101, 115, 100, 97, 121]) := reck_closed (by kernel_rfl)
theorem tx3 : Texty (bs [87, 101, 100, 110, 101, 115, 100, 97, 121]) := reck_closed (by kernel_rfl)
theorem tx4 : Texty (bs [84, 104, 117, 114, 115, 100, 97, 121]) := reck_closed (by kernel_rfl)
theorem tx5 : Texty (bs [70, 114, 105, 100, 97, 121]) := reck_closed (by kernel_rfl)
theorem tx6 : Texty (bs [83, 97, 116, 117, 114, 100, 97, 121]) := reck_closed (by kernel_rfl)
theorem tx7 : Texty (bs [83, 117, 110, 100, 97, 121]) := reck_closed (by kernel_rfl)
theorem tm1 : Texty (bs [74, 97, 110, 117, 97, 114, 121]) := reck_closed (by kernel_rfl)
theorem tm2 : Texty (bs [70, 101, 98, 114, 117, 97, 114, 121]) := reck_closed (by kernel_rfl)
theorem tm3 : Texty (bs [77, 97, 114, 99, 104]) := reck_closed (by kernel_rfl)
theorem tm4 : Texty (bs [65, 112, 114, 105, 108]) := reck_closed (by kernel_rfl)
theorem tm5 : Texty (bs [77, 97, 121]) := reck_closed (by kernel_rfl)
theorem tm6 : Texty (bs [74, 117, 110, 101]) := reck_closed (by kernel_rfl)
theorem tm7 : Texty (bs [74, 117, 108, 121]) := reck_closed (by kernel_rfl)
theorem tm8 : Texty (bs [65, 117, 103, 117, 115, 116]) := reck_closed (by kernel_rfl)
theorem tm9 : Texty (bs [83, 101, 112, 116, 101, 109, 98, 101, 114]) := reck_closed (by kernel_rfl)
theorem tm10 : Texty (bs [79, 99, 116, 111, 98, 101, 114]) := reck_closed (by kernel_rfl)
theorem tm11 : Texty (bs [78, 111, 118, 101, 109, 98, 101, 114]) := reck_closed (by kernel_rfl)
theorem tm12 : Texty (bs [68, 101, 99, 101, 109, 98, 101, 114]) := reck_closed (by kernel_rfl)

end Go.Proofs.YthcjocelokjifaaGreatDoor
