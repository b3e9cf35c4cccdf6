/-
  strings.Builder at this translation: the shelf's contracts laid by names; the builder's rules.
-/
import Derived.Test.YtapmcocefoccdaaGreatDoorBu
import Derived.Test.YtapmcocefoccdaaGreatDoorQa
namespace Go.Proofs.YtapmcocefoccdaaGreatDoor
open Go Go.Pe Go.RowKit Go.Shelf

def bren : Go.Shelf.Ren := ⟨fun | 169 => 57 | 240 => 89 | 276 => 113 | n => n,
  fun | 0 => 0 | 3 => 3 | 4 => 4 | 5 => 5 | 9 => 9 | 20 => 20 | 37 => 84 | 70 => 83 | 72 => 86 | 127 => 112 | 164 => 130 | n => n, fun | n => n⟩

theorem lays169 : Go.Proofs.Lays.n169 Tryz.prog bren := {
  mixed := by kernel_rfl
  f169 := Tryz.func57.trans (congrArg some (by kernel_rfl))
  t0 := Tryz.underlying0
  a0 := Tryz.isAgg0
  z0 := Tryz.sizeOf0
  v0 := Tryz.zeroValue0
  t3 := Tryz.underlying3
  a3 := Tryz.isAgg3
  z3 := Tryz.sizeOf3
  v3 := Tryz.zeroValue3
  t9 := Tryz.underlying9
  a9 := Tryz.isAgg9
  z9 := Tryz.sizeOf9
  v9 := Tryz.zeroValue9
  t37 := Tryz.underlying84
  a37 := Tryz.isAgg84
  z37 := Tryz.sizeOf84
  v37 := Tryz.zeroValue84
  t70 := Tryz.underlying83
  a70 := Tryz.isAgg83
  z70 := Tryz.sizeOf83
  v70 := Tryz.zeroValue83
  t72 := Tryz.underlying86
  a72 := Tryz.isAgg86
  z72 := Tryz.sizeOf86
  v72 := Tryz.zeroValue86
  t127 := Tryz.underlying112
  a127 := Tryz.isAgg112
  z127 := Tryz.sizeOf112
  v127 := Tryz.zeroValue112 }

theorem lays240 : Go.Proofs.Lays.n240 Tryz.prog bren := {
  mixed := by kernel_rfl
  f240 := Tryz.func89.trans (congrArg some (by kernel_rfl))
  f276 := Tryz.func113.trans (congrArg some (by kernel_rfl))
  t0 := Tryz.underlying0
  a0 := Tryz.isAgg0
  z0 := Tryz.sizeOf0
  v0 := Tryz.zeroValue0
  t4 := Tryz.underlying4
  a4 := Tryz.isAgg4
  z4 := Tryz.sizeOf4
  v4 := Tryz.zeroValue4
  t9 := Tryz.underlying9
  a9 := Tryz.isAgg9
  z9 := Tryz.sizeOf9
  v9 := Tryz.zeroValue9
  t20 := Tryz.underlying20
  a20 := Tryz.isAgg20
  z20 := Tryz.sizeOf20
  v20 := Tryz.zeroValue20
  t70 := Tryz.underlying83
  a70 := Tryz.isAgg83
  z70 := Tryz.sizeOf83
  v70 := Tryz.zeroValue83
  t72 := Tryz.underlying86
  a72 := Tryz.isAgg86
  z72 := Tryz.sizeOf86
  v72 := Tryz.zeroValue86
  t164 := Tryz.underlying130
  a164 := Tryz.isAgg130
  z164 := Tryz.sizeOf130
  v164 := Tryz.zeroValue130 }

theorem bX72 : Builder.X72 Tryz.prog bren := {
  sizeBuilder := by kernel_rfl
  liesBuilder := by kernel_rfl }

theorem bExtra : Builder.Extra Tryz.prog bren := {
  sizeBuilder := by kernel_rfl
  liesBuilder := by kernel_rfl
  t5 := Tryz.underlying5
  a5 := Tryz.isAgg5
  z5 := Tryz.sizeOf5
  v5 := Tryz.zeroValue5
  infoByte := by kernel_rfl
  cellsByte := by kernel_rfl
  sizeByte := by kernel_rfl
  neB5 := by decide }

/-- The builder's rules. -/
def rulesB : List (Nat × Rule) := (57, ruleString 5) :: (89, ruleCopy 86) :: (115, ruleNoZero 5) :: rules0
theorem rulesB_ok (base : World) : ∀ x ∈ rulesB, RuleOk Tryz.prog base x.1 x.2 := by
  have hE : EnvOk (env []) base := env_ok (rules := []) (fun _ h => by cases h)
  refine List.forall_mem_cons.2 ⟨ruleOk_string (ρ := bren) lays169 bExtra (E0 := env []) rfl hE lays169.f169 (by kernel_rfl), List.forall_mem_cons.2 ⟨ruleOk_copy (ρ := bren) lays240 bX72 (E0 := env []) rfl hE lays240.f240 (by kernel_rfl), List.forall_mem_cons.2 ⟨?_, rules0_ok base⟩⟩⟩
  exact ruleOk_noZero (ps := #[3]) (inPlace Tryz.f115 Tryz.func115 (by kernel_rfl) (by kernel_rfl) (by kernel_rfl) (by kernel_rfl)) Tryz.underlying84

end Go.Proofs.YtapmcocefoccdaaGreatDoor
