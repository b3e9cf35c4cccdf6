/-
  strconv.Atoi: whatever its text.
-/
import Derived.Test.YtdbjbmdaekgbhaaGreatDoorXcA
import Derived.Test.YtdbjbmdaekgbhaaGreatDoorSi
import Derived.WalkSmall
import Derived.Lib.SmallJoins
import Derived.Lib.AtoiAllCases
namespace Go.Proofs.YtdbjbmdaekgbhaaGreatDoor
open Go Go.Pe Go.RowKit

/-- A world whose errors' variables and whose longest length are laid. -/
structure Stood (base : World) : Prop where
  low : Tryz.prog.globals.size ≤ base.heap.size
  syn : ∃ tp p, base.var? Tryz.prog "strconv.ErrSyntax" = some #[.iface tp p]
  ran : ∃ tp p, base.var? Tryz.prog "strconv.ErrRange" = some #[.iface tp p]
  mx : ∃ m, base.cell? ⟨2, 0, none⟩ = some (.int .i64 m)

theorem gSynX : Tryz.prog.globalNamed "strconv.ErrSyntax" = some 5 := by kernel_rfl
theorem gRanX : Tryz.prog.globalNamed "strconv.ErrRange" = some 6 := by kernel_rfl

def ruleAtoi : Rule := fun args h n => match args with
  | [.string s] => some fun K => strLen s ≤ 281474976710656 ∧ ∀ (e : Bool) (x : Int), i64 x → bsel e (K (.tuple #[.int .i64 x, .nilIface]) h n big) (K (.tuple #[.int .i64 x, .iface 292 (.pointer (some ⟨n, 0, none⟩))]) h (n + 1) big)
  | _ => none
theorem atoi_ok {base : World} (B : Stood base) : RuleOk Tryz.prog base 195 ruleAtoi := by
  intro E hE args h n T K hT hK
  unfold ruleAtoi at hT
  split at hT
  · rename_i s
    cases hT
    obtain ⟨hs, hK⟩ := hK
    have hs : s.size ≤ 281474976710656 := hs
    have hE' : EnvOk (env []) base := env_ok (rules := []) (fun _ h => by cases h)
    have hp : ∀ x ∈ [Value.string s], pureV 6 x = true := List.forall_mem_cons.2 ⟨by kernel_rfl, fun _ h => nomatch h⟩
    have hb : Tryz.f195.body.isSome = true := by kernel_rfl
    obtain ⟨t1, p1, h1⟩ := B.syn
    obtain ⟨t2, p2, h2⟩ := B.ran
    have v1 : ∀ w : World, Below base.heap.size base w → w.var? Tryz.prog "strconv.ErrSyntax" = some #[.iface t1 p1] := fun w hw =>
      var?_below hw gSynX (Nat.lt_of_lt_of_le (Nat.le_of_ble_eq_true (by kernel_rfl)) B.low) h1
    have v2 : ∀ w : World, Below base.heap.size base w → w.var? Tryz.prog "strconv.ErrRange" = some #[.iface t2 p2] := fun w hw =>
      var?_below hw gRanX (Nat.lt_of_lt_of_le (Nat.le_of_ble_eq_true (by kernel_rfl)) B.low) h2
    rcases hr : Lib.atoiAll s.data.toList with v | _ | _
    · skip
      have hv := Lib.atoiAll_bounds hr
      refine ⟨_, _, _, _, hK true v (by unfold i64; omega), ?_⟩
      exact (FuncSem.ofContract (E := env []) hE' (fn := Tryz.f195) Tryz.func195 hb hp (by kernel_rfl) fun w _ => (Tryz.strconv_Atoi_ok s (by omega) v hr w).mono fun e w' ⟨he, hw⟩ => ⟨he, by
        rcases hw with rfl | ⟨t, rfl⟩
        · exact Below.refl _ _
        · exact Go.Joins.below_bytesWorld _ _ _ _ (Nat.le_refl _)⟩).env hE
    · skip
      refine ⟨_, _, _, _, hK false 0 (i64_lit rfl), ?_⟩
      exact (funcSem_ptr (E := env []) hE' (fn := Tryz.f195) Tryz.func195 hb hp fun w hw => (Tryz.strconv_Atoi_syntax_var s hs hr t1 p1 w (v1 w hw)).mono fun e w' ⟨N, he, h3, _, h5⟩ => ⟨N, he, h3, h5⟩).env hE
    · skip
      have hv := Lib.atoiSat_bounds s.data.toList
      refine ⟨_, _, _, _, hK false (Lib.atoiSat s.data.toList) (by unfold i64; omega), ?_⟩
      exact (funcSem_ptr (E := env []) hE' (fn := Tryz.f195) Tryz.func195 hb hp fun w hw => (Tryz.strconv_Atoi_range_var s hs hr t2 p2 w (v2 w hw)).mono fun e w' ⟨N, he, h3, _, h5⟩ => ⟨N, he, h3, h5⟩).env hE
  · cases hT
end Go.Proofs.YtdbjbmdaekgbhaaGreatDoor
