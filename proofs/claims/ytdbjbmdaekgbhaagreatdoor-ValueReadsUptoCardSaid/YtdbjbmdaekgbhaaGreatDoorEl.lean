/-
  From what is reckoned to a law's contract; the tables; a world for the witness.
-/
import Derived.Test.YtdbjbmdaekgbhaaGreatDoorEiA
import Derived.Test.YtdbjbmdaekgbhaaGreatDoorCards
import Derived.Test.YtdbjbmdaekgbhaaGreatDoorTie
import Derived.WalkKit
import Derived.ProofKit
import Derived.OpenShut
import Derived.Deep.DeepHandedRow
import Derived.Lib.LaidTab
import Derived.LaidSub
namespace Go.Proofs.YtdbjbmdaekgbhaaGreatDoor
open Go Go.Pe Go.RowKit Go.ChangeShapes Go.WideShapes Go.ChangeAt

theorem own : ownKnob Tryz.prog.godebug = none := by kernel_rfl
theorem gPow : Tryz.prog.globalNamed "internal/strconv.uint64pow10" = some 7 := by kernel_rfl
theorem gPowType : (Tryz.prog.globals[7]?).map (·.type) = some 312 := by kernel_rfl
theorem cellsPow : Tryz.prog.cellsOf 312 = 20 := by kernel_rfl
theorem cellsU64 : Tryz.prog.cellsOf 22 = 1 := by kernel_rfl
theorem laid_out : laidOutB Tryz.prog = true := by kernel_rfl
theorem low : decide (Tryz.prog.globals.size < (begin Tryz.prog (fun _ _ => 0) default).world.heap.size) = true := by kernel_rfl

/-- What a row's list gives: the table's cells hold its numbers. -/
theorem pow_tab {W : World} {l : List (String × DataW Unit)} (hl : (l.filter fun x => x.1 == "internal/strconv.uint64pow10") = [("internal/strconv.uint64pow10", Rows.laid_internal_strconv_uint64pow10)]) (h : laidMetH Tryz.prog l W) :
    Lib.TabIs Tryz.prog W "internal/strconv.uint64pow10" .u64 pow10s := by
  have h1 := h.filter fun x => x.1 == "internal/strconv.uint64pow10"
  rw [hl] at h1
  exact Lib.tabIs_of_head (rest := []) gPow gPowType Tryz.underlying312 Tryz.underlying22 cellsU64 cellsPow h1

/-- What is reckoned, as a contract. -/
theorem law_calls {W : World} (hs : W.ShapedOpen Tryz.prog) (hT : Lib.TabIs Tryz.prog W "internal/strconv.uint64pow10" .u64 pow10s) {E : Env} (hE : EnvOk E W) (hL : LoopsOk E W) (hP : E.P = Tryz.prog) {d : Nat} {f : FuncId} {fn : Func}
    (hf : Tryz.prog.funcs[f]? = some fn) (hb : fn.body.isSome = true) {args : List Value} (ha : ∀ x ∈ args, pureV 6 x = true) (hk : ReckE E d f args (· = .bool true)) :
    Calls Tryz.prog f args.toArray W fun e w' => e = .returned (.bool true) ∧ Below W.heap.size W w' := by
  have hrel : Rel Tryz.prog W id (fun _ => 0) tabs W := rel_start hs low fun k b hb => by
    unfold tabs at hb
    rw [getBlk_cons] at hb
    split at hb
    · rename_i e
      subst e
      cases hb
      exact blkOk_tab hT gPow
    · simp [getBlk] at hb
  have := calls_of_funcK hE hL (d := d) (f := f) (fn := fn) (by rw [hP]; exact hf) hb hk.out (by rw [hP]; exact hrel) tabs_ok ha (by kernel_rfl) (by rw [hP]; exact Nat.le_refl _)
  rw [hP] at this
  exact this

/-- The cells of a table's data. -/
def flat : DataW Unit → List Value
  | .lit (.int k n) => [.int k n]
  | .agg l => flats l
  | _ => []
  where flats : List (DataW Unit) → List Value
    | [] => []
    | d :: l => flat d ++ flats l

end Go.Proofs.YtdbjbmdaekgbhaaGreatDoor
