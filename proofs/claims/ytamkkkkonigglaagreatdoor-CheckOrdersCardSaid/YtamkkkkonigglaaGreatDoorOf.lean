/-
  CheckOrders: the examples' run as a contract; a slice of strings that came in; the law at every argument.
-/
import Derived.Test.YtamkkkkonigglaaGreatDoorOe
import Derived.Test.YtamkkkkonigglaaGreatDoorCf
import Derived.Test.YtamkkkkonigglaaGreatDoorQf
import Derived.SliceStrings
namespace Go.Proofs.YtamkkkkonigglaaGreatDoor
open Go Go.Ord Go.Pe Go.RowKit Go.ChangeShapes Go.WideShapes Go.ChangeAt

/-- A closed call that is told, as a contract. -/
theorem semCalls {E : Env} {W : World} (hE : EnvOk E W) (hP : E.P = Tryz.prog) (hs : W.ShapedOpen Tryz.prog) {f : FuncId} {fn : Func} (hf : Tryz.prog.funcs[f]? = some fn) (hb : fn.body.isSome = true) {v : Value} (hv : pureV 6 v = true)
    (h : FuncSem E W f [] [] Tryz.prog.globals.size v [] Tryz.prog.globals.size big) :
    Calls Tryz.prog f #[] W fun e w' => e = .returned v ∧ Below W.heap.size W w' := by
  have hrel : Rel Tryz.prog W id (fun _ => 0) [] W := rel_start hs low fun k b hb => by simp [getBlk] at hb
  rw [← hP] at hrel
  have hout := h.2 id (fun _ => 0) W hrel (fun k b hb => by simp [getBlk] at hb) (fun x hx => by cases hx) (by rw [hP]; exact Nat.le_refl _)
  rw [show (List.map (renV id fun _ => 0) ([] : List Value)).toArray = #[] from rfl, hE.enter f fn (by rw [hP]; exact hf) hb] at hout
  rw [← hP]
  refine hout.2.mono fun e w' ⟨x, he, μ', κ', hst, hx, hr⟩ => ?_
  subst he
  rw [hx, ren_pure _ _ 6 v hv]
  exact ⟨rfl, hr.below⟩
theorem totP_calls {W : World} (hs : W.ShapedOpen Tryz.prog) {f : FuncId} {fn : Func} (hf : Tryz.prog.funcs[f]? = some fn) (hb : fn.body.isSome = true) {v : Value} (hv : pureV 6 v = true) (h : TotP W f [] v) :
    Calls Tryz.prog f #[] W fun e w' => e = .returned v ∧ Below W.heap.size W w' :=
  semCalls (E := envP 285 [] []) (envP_ok (wilds := []) all_good (rules := []) (fun _ h => by cases h)) rfl hs hf hb hv (h _ rfl [] _)
theorem awake_calls {W : World} (hs : W.ShapedOpen Tryz.prog) (A : AtP W) : Calls Tryz.prog 6 #[] W (AwakeOut W) :=
  totP_calls hs Tryz.func6 (by kernel_rfl) rfl (awake26 A)

theorem add_plain' (b off i : Nat) : Addr.add ⟨b, off, none⟩ i = ⟨b, off + i, none⟩ := by
  unfold Addr.add
  split
  · rename_i h
    rw [h]
    rfl
  · rfl
set_option maxRecDepth 1000000 in
theorem open_strs_arg {H : Type} {enc : TypeId × Value → H} {W : World} {base b0 : Nat} {r : Reach} {spare : Nat → Bool} {held : Bool} {v : Value} {d : DataW H} {p : List MemPlace} (hv : Value.okWide Tryz.prog W r b0 27 v)
    (h : DataW.Trod enc Tryz.prog W base spare held 27 v d p) : ∃ (A : Option Addr) (N : List ByteArray) (c : Nat), v = .slice A N.length c ∧ Strs W A N := by
  obtain ⟨a0, len, cap, rfl⟩ := okWide_slice Tryz.underlying27 hv
  obtain ⟨fuel, hf⟩ := h
  rcases open_strings Tryz.underlying27 Tryz.underlying9 cellsStr hf with ⟨hcs, _⟩ | ⟨a, len', cap', ss, hcs, _, hl, hm, hz, _, hcell, _⟩
  · simp [Value.cells] at hcs
    obtain ⟨rfl, rfl, rfl⟩ := hcs
    exact ⟨none, [], 0, rfl, fun j hj => absurd hj (by simp)⟩
  · simp [Value.cells] at hcs
    obtain ⟨rfl, rfl, rfl⟩ := hcs
    have hlen : len ≤ ss.length := by rw [hz]; split <;> omega
    have ht : (ss.take len).length = len := by rw [List.length_take]; omega
    refine ⟨some a, ss.take len, cap, by rw [ht], fun j hj => ?_⟩
    rw [ht] at hj
    have hc := hcell j (by omega)
    obtain ⟨b, off, spot⟩ := a
    have hspot : spot = none := by simpa [Addr.add] using World.cell?_spot (hcell 0 (by omega))
    subst hspot
    rw [add_plain'] at hc
    refine ⟨b, off, rfl, block_lt_of_cell hc, ?_⟩
    rw [hc]
    simp [List.getD, hj]
theorem orders_calls {W : World} (hs : W.ShapedOpen Tryz.prog) (A : AtP W) {A0 A1 : Option Addr} {N T : List ByteArray} {c0 c1 : Nat} {n : Int} (hN : Strs W A0 N) (hT : Strs W A1 T) (h0 : 0 ≤ n) (h1 : n ≤ 255) :
    Calls Tryz.prog 4 #[.slice A0 N.length c0, .slice A1 T.length c1, .int .u8 n] W fun e w' => e = .returned (.bool true) ∧ Below W.heap.size W w' := by
  have haw := awake_calls hs A
  by_cases hb : 50 < T.length ∨ 50 < N.length
  · exact orders_big W A0 A1 c0 c1 T.length N.length n hb haw
  · obtain ⟨k, rfl⟩ : ∃ k : Nat, n = k := ⟨n.toNat, by omega⟩
    by_cases hz : N.length = 0
    · have := orders_none W A0 A1 c0 c1 T.length k (by omega) (by omega) haw
      rw [hz]
      exact this
    · obtain ⟨b, off, rfl, hlt, hc⟩ := hN.all (by omega)
      exact orders_some W A1 b off c0 c1 k N T (by omega) (by omega) (by omega) (by omega) hlt hc hT haw
theorem u8_bounds {n : Int} (h : (Lit.int .u8 n).wf = true) : 0 ≤ n ∧ n ≤ 255 := by
  have h1 : (decide (IntKind.min .u8 ≤ n) && decide (n ≤ IntKind.max .u8)) = true := h
  have e1 : IntKind.min .u8 = 0 := by decide
  have e2 : IntKind.max .u8 = 255 := by decide
  rw [e1, e2] at h1
  simp only [Bool.and_eq_true, decide_eq_true_eq] at h1
  exact h1
end Go.Proofs.YtamkkkkonigglaaGreatDoor
