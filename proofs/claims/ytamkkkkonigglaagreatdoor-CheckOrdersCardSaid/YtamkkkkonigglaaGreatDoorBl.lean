/-
  strings.Builder at this translation: the shelf's contracts laid by names; the builder's rules.
-/
import Derived.Test.YtamkkkkonigglaaGreatDoorBu
import Derived.Test.YtamkkkkonigglaaGreatDoorQa
namespace Go.Proofs.YtamkkkkonigglaaGreatDoor
open Go Go.Pe Go.RowKit Go.Shelf

def bren : Go.Shelf.Ren := ⟨fun | 169 => 95 | 240 => 137 | 276 => 178 | n => n,
  fun | 0 => 0 | 3 => 3 | 4 => 4 | 5 => 5 | 9 => 9 | 20 => 20 | 37 => 115 | 70 => 114 | 72 => 117 | 127 => 157 | 164 => 188 | n => n, fun | n => n⟩

theorem lays169 : Go.Proofs.Lays.n169 Tryz.prog bren := {
  mixed := by kernel_rfl
  f169 := Tryz.func95.trans (congrArg some (by kernel_rfl))
  t0 := Tryz.underlying0
  a0 := Tryz.isAgg0
  z0 := Tryz.sizeOf0
  v0 := Tryz.zeroValue0
  t3 := Tryz.underlying3
  a3 := Tryz.isAgg3
  z3 := Tryz.sizeOf3
  v3 := Tryz.zeroValue3
  t9 := Tryz.underlying9
  a9 := Tryz.isAgg9
  z9 := Tryz.sizeOf9
  v9 := Tryz.zeroValue9
  t37 := Tryz.underlying115
  a37 := Tryz.isAgg115
  z37 := Tryz.sizeOf115
  v37 := Tryz.zeroValue115
  t70 := Tryz.underlying114
  a70 := Tryz.isAgg114
  z70 := Tryz.sizeOf114
  v70 := Tryz.zeroValue114
  t72 := Tryz.underlying117
  a72 := Tryz.isAgg117
  z72 := Tryz.sizeOf117
  v72 := Tryz.zeroValue117
  t127 := Tryz.underlying157
  a127 := Tryz.isAgg157
  z127 := Tryz.sizeOf157
  v127 := Tryz.zeroValue157 }

theorem lays240 : Go.Proofs.Lays.n240 Tryz.prog bren := {
  mixed := by kernel_rfl
  f240 := Tryz.func137.trans (congrArg some (by kernel_rfl))
  f276 := Tryz.func178.trans (congrArg some (by kernel_rfl))
  t0 := Tryz.underlying0
  a0 := Tryz.isAgg0
  z0 := Tryz.sizeOf0
  v0 := Tryz.zeroValue0
  t4 := Tryz.underlying4
  a4 := Tryz.isAgg4
  z4 := Tryz.sizeOf4
  v4 := Tryz.zeroValue4
  t9 := Tryz.underlying9
  a9 := Tryz.isAgg9
  z9 := Tryz.sizeOf9
  v9 := Tryz.zeroValue9
  t20 := Tryz.underlying20
  a20 := Tryz.isAgg20
  z20 := Tryz.sizeOf20
  v20 := Tryz.zeroValue20
  t70 := Tryz.underlying114
  a70 := Tryz.isAgg114
  z70 := Tryz.sizeOf114
  v70 := Tryz.zeroValue114
  t72 := Tryz.underlying117
  a72 := Tryz.isAgg117
  z72 := Tryz.sizeOf117
  v72 := Tryz.zeroValue117
  t164 := Tryz.underlying188
  a164 := Tryz.isAgg188
  z164 := Tryz.sizeOf188
  v164 := Tryz.zeroValue188 }

theorem bX72 : Builder.X72 Tryz.prog bren := {
  sizeBuilder := by kernel_rfl
  liesBuilder := by kernel_rfl }

theorem bExtra : Builder.Extra Tryz.prog bren := {
  sizeBuilder := by kernel_rfl
  liesBuilder := by kernel_rfl
  t5 := Tryz.underlying5
  a5 := Tryz.isAgg5
  z5 := Tryz.sizeOf5
  v5 := Tryz.zeroValue5
  infoByte := by kernel_rfl
  cellsByte := by kernel_rfl
  sizeByte := by kernel_rfl
  neB5 := by decide }

/-- The builder's rules. -/
def rulesB : List (Nat × Rule) := (95, ruleString 5) :: (137, ruleCopy 117) :: (180, ruleNoZero 5) :: rules0
theorem rulesB_ok (base : World) : ∀ x ∈ rulesB, RuleOk Tryz.prog base x.1 x.2 := by
  have hE : EnvOk (env []) base := env_ok (rules := []) (fun _ h => by cases h)
  refine List.forall_mem_cons.2 ⟨ruleOk_string (ρ := bren) lays169 bExtra (E0 := env []) rfl hE lays169.f169 (by kernel_rfl), List.forall_mem_cons.2 ⟨ruleOk_copy (ρ := bren) lays240 bX72 (E0 := env []) rfl hE lays240.f240 (by kernel_rfl), List.forall_mem_cons.2 ⟨?_, rules0_ok base⟩⟩⟩
  exact ruleOk_noZero (ps := #[3]) (inPlace Tryz.f180 Tryz.func180 (by kernel_rfl) (by kernel_rfl) (by kernel_rfl) (by kernel_rfl)) Tryz.underlying115

end Go.Proofs.YtamkkkkonigglaaGreatDoor
