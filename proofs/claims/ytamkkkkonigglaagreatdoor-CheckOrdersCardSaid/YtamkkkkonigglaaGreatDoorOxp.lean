/-
  CheckOrders: the contract and the row's form, lifted.
-/
import Derived.Test.YtamkkkkonigglaaGreatDoorOf
import Derived.Test.YtamkkkkonigglaaGreatDoorQf
import Derived.SizedLaws
namespace Go.Proofs.YtamkkkkonigglaaGreatDoor
open Go Go.Pe Go.RowKit Go.ChangeShapes Go.WideShapes Go.ChangeAt

set_option maxRecDepth 1000000 in
theorem checkOrders_laidMet (os : Os) (args : Array Value) : laidMet Tryz.prog Rows.checkOrdersRow.laid ((laidWorld os).forCall (fun _ _ => 0) ⟨#[], args, []⟩).memory :=
  (LaidIn.of_run (l := Rows.checkOrdersRow.laid) laidAt 10 (by kernel_rfl) (by kernel_rfl) (by kernel_rfl) (by kernel_rfl)).met

set_option maxRecDepth 100000 in
theorem checkOrders_contract (H : Type) (enc : TypeId × Value → H) (W : World) (base : Nat) (args : Array Value) (ds gs : List (DataW H)) (before : List MemPlace)
    (hval : ∀ (j : Nat) t v, Tryz.f4.params[j]? = some t → args[j]? = some v → Value.okWide Tryz.prog W .any base t v)
    (hW : DataW.Whole enc Tryz.prog Tryz.f4.params.toList Rows.checkOrdersSpec.vars false W args.toList ds gs before) (hL : laidMetH Tryz.prog Rows.checkOrdersRow.laid W) (hs : W.ShapedOpen Tryz.prog) :
    Calls Tryz.prog 4 args W fun e W' => ∃ v, e = .returned v ∧ Rows.checkOrdersSpec.post enc Tryz.prog Tryz.f4 false true false false W args v W' := by
  have hW' := hW
  obtain ⟨p, q, hA0, hV, rfl, hfz, hnd⟩ := hW
  have hA : DataW.TrodAll enc Tryz.prog W 0 (fun _ => true) true Tryz.f4.params.toList args.toList ds p := hA0
  rw [Tryz.params4] at hA hval
  obtain ⟨v0, vs0, d0, ds0, p0, q0, hargs, rfl, rfl, h0, r0⟩ := trodAll_cons hA
  obtain ⟨v1, vs1, d1, ds1, p1, q1, rfl, rfl, rfl, h1, r1⟩ := trodAll_cons r0
  obtain ⟨v2, vs2, d2, ds2, p2, q2, rfl, rfl, rfl, h2, r2⟩ := trodAll_cons r1
  obtain ⟨rfl, rfl, rfl⟩ := trodAll_nil r2
  obtain rfl : args = #[v0, v1, v2] := by cases args; simp_all
  obtain ⟨x0A, x0N, x0c, rfl, x0s⟩ := open_strs_arg (hval 0 _ v0 rfl rfl) h0
  obtain ⟨x1A, x1N, x1c, rfl, x1s⟩ := open_strs_arg (hval 1 _ v1 rfl rfl) h1
  obtain ⟨x2, rfl, _, _, w2⟩ := ChangeShapes.open_int Tryz.underlying5 (hval 2 _ v2 rfl rfl) h2
  have hM : laidMet Tryz.prog Rows.checkOrdersRow.laid W := cast (by kernel_rfl) hL
  have A := at_of hs hM hL (by kernel_rfl) (by kernel_rfl)
  refine (orders_calls hs A x0s x1s (u8_bounds w2).1 (u8_bounds w2).2).mono fun e W' ⟨he, hb⟩ => ?_
  exact ⟨_, he, post_law hW' rfl rfl laid_out (by kernel_rfl) (by kernel_rfl) Tryz.underlying4 hb⟩

set_option maxRecDepth 100000 in
theorem checkOrders_lifted (os : Os) (started : os.Started) (H : Type) (enc : TypeId × Value → H) (F : Stop.Interp) :
    ReturnsInHanded {} Tryz.checked os 4 .any ((OpenSpec.ofChange Rows.checkOrdersSpec).preRow enc Tryz.prog Tryz.f4 Rows.checkOrdersRow.domain false Rows.checkOrdersRow.laid)
      (((OpenSpec.ofChange Rows.checkOrdersSpec).at F).post enc Tryz.prog Tryz.f4 false true false false) := by
  refine returnsInHanded_of_row (C := Tryz.checked) (s := OpenSpec.ofChange Rows.checkOrdersSpec) own started (by kernel_rfl) Tryz.func4
    (witness_row_atRef (enc := enc) (C := Tryz.checked) false (laidWorld os) #[.slice none 0 0, .slice none 0 0, .int .u8 0] rfl (by kernel_rfl) (by kernel_rfl) (by kernel_rfl)
      (OpenSpec.preRow_of_cond 8 (x := ([.nil, .nil, .lit (.int .u8 0)], [], [])) (by kernel_rfl) (by kernel_rfl) (fun k hk => by cases hk) (by kernel_rfl) (checkOrders_laidMet os _))) ?_
  intro W base args ds gs before hval hW _ _ _ hL hs _
  exact checkOrders_contract H enc W base args ds gs before hval hW hL hs

end Go.Proofs.YtamkkkkonigglaaGreatDoor
