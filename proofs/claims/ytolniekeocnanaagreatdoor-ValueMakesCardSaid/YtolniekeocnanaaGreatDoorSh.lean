/-
  The shelf's contracts, laid at this translation (numbers of this seat; written by the kit's lay-plain, trimmed).
-/
import Derived.Shelf.LaysM
import Derived.Shelf.Strconv.Itoa0
import Derived.Shelf.Strconv.Itoa1
import Derived.Shelf.Strconv.Itoa2
import Derived.Shelf.Strconv.Itoa3
import Derived.Shelf.Strings.Builder1
import Derived.Test.YtolniekeocnanaaGreatDoorProg
namespace Go.Proofs
open Go.Shelf
def Tryz.lays169_ren : Go.Shelf.Ren := ⟨fun | 169 => 277 | n => n, fun | 70 => 321 | 9 => 9 | 0 => 0 | 72 => 324 | 37 => 322 | 127 => 353 | 3 => 3 | 5 => 5 | n => n, fun | n => n⟩
theorem Tryz.lays169 : Go.Proofs.Lays.n169 Tryz.prog Tryz.lays169_ren := {
  mixed := by kernel_rfl
  f169 := Tryz.func277.trans (congrArg some (by kernel_rfl))
  t0 := Tryz.underlying0
  a0 := Tryz.isAgg0
  z0 := Tryz.sizeOf0
  v0 := Tryz.zeroValue0
  t3 := Tryz.underlying3
  a3 := Tryz.isAgg3
  z3 := Tryz.sizeOf3
  v3 := Tryz.zeroValue3
  t9 := Tryz.underlying9
  a9 := Tryz.isAgg9
  z9 := Tryz.sizeOf9
  v9 := Tryz.zeroValue9
  t37 := Tryz.underlying322
  a37 := Tryz.isAgg322
  z37 := Tryz.sizeOf322
  v37 := Tryz.zeroValue322
  t70 := Tryz.underlying321
  a70 := Tryz.isAgg321
  z70 := Tryz.sizeOf321
  v70 := Tryz.zeroValue321
  t72 := Tryz.underlying324
  a72 := Tryz.isAgg324
  z72 := Tryz.sizeOf324
  v72 := Tryz.zeroValue324
  t127 := Tryz.underlying353
  a127 := Tryz.isAgg353
  z127 := Tryz.sizeOf353
  v127 := Tryz.zeroValue353 }
theorem Tryz.Builder_Extra_169 : Builder.Extra Tryz.prog Tryz.lays169_ren := {
  sizeBuilder := by kernel_rfl
  liesBuilder := by kernel_rfl
  t5 := Tryz.underlying5
  a5 := Tryz.isAgg5
  z5 := Tryz.sizeOf5
  v5 := Tryz.zeroValue5
  infoByte := by kernel_rfl
  cellsByte := by kernel_rfl
  sizeByte := by kernel_rfl
  neB5 := by decide }
def Tryz.laysM171_ren : Go.Shelf.Ren := ⟨fun | 171 => 248 | 243 => 308 | 246 => 355 | 283 => 384 | 284 => 385 | 285 => 386 | 286 => 387 | 129 => 303 | 317 => 402 | 318 => 403 | 319 => 404 | 320 => 405 | 337 => 409 | 338 => 410 | n => n, fun | 3 => 3 | 9 => 9 | 2 => 2 | 4 => 4 | 171 => 388 | 0 => 0 | 53 => 22 | 37 => 322 | 5 => 5 | 173 => 390 | 212 => 404 | 51 => 373 | 20 => 20 | 213 => 405 | 46 => 156 | 232 => 412 | 233 => 413 | n => n, fun | 17 => 7 | 18 => 8 | 19 => 9 | n => n⟩
theorem Tryz.laysM171 : Go.Proofs.LaysM.n171 Tryz.prog Tryz.laysM171_ren := {
  mixed := by kernel_rfl
  f129 := Tryz.func303.trans (congrArg some (by kernel_rfl))
  f171 := Tryz.func248.trans (congrArg some (by kernel_rfl))
  f243 := Tryz.func308.trans (congrArg some (by kernel_rfl))
  f246 := Tryz.func355.trans (congrArg some (by kernel_rfl))
  f283 := Tryz.func384.trans (congrArg some (by kernel_rfl))
  f284 := Tryz.func385.trans (congrArg some (by kernel_rfl))
  f285 := Tryz.func386.trans (congrArg some (by kernel_rfl))
  f286 := Tryz.func387.trans (congrArg some (by kernel_rfl))
  f317 := Tryz.func402.trans (congrArg some (by kernel_rfl))
  f318 := Tryz.func403.trans (congrArg some (by kernel_rfl))
  f319 := Tryz.func404.trans (congrArg some (by kernel_rfl))
  f320 := Tryz.func405.trans (congrArg some (by kernel_rfl))
  f337 := Tryz.func409.trans (congrArg some (by kernel_rfl))
  f338 := Tryz.func410.trans (congrArg some (by kernel_rfl))
  t0 := Tryz.underlying0
  a0 := Tryz.isAgg0
  z0 := Tryz.sizeOf0
  v0 := Tryz.zeroValue0
  t2 := Tryz.underlying2
  a2 := Tryz.isAgg2
  z2 := Tryz.sizeOf2
  v2 := Tryz.zeroValue2
  t3 := Tryz.underlying3
  a3 := Tryz.isAgg3
  z3 := Tryz.sizeOf3
  v3 := Tryz.zeroValue3
  t4 := Tryz.underlying4
  a4 := Tryz.isAgg4
  z4 := Tryz.sizeOf4
  v4 := Tryz.zeroValue4
  t5 := Tryz.underlying5
  a5 := Tryz.isAgg5
  z5 := Tryz.sizeOf5
  v5 := Tryz.zeroValue5
  t9 := Tryz.underlying9
  a9 := Tryz.isAgg9
  z9 := Tryz.sizeOf9
  v9 := Tryz.zeroValue9
  t20 := Tryz.underlying20
  a20 := Tryz.isAgg20
  z20 := Tryz.sizeOf20
  v20 := Tryz.zeroValue20
  t37 := Tryz.underlying322
  a37 := Tryz.isAgg322
  z37 := Tryz.sizeOf322
  v37 := Tryz.zeroValue322
  t46 := Tryz.underlying156
  a46 := Tryz.isAgg156
  z46 := Tryz.sizeOf156
  v46 := Tryz.zeroValue156
  t51 := Tryz.underlying373
  a51 := Tryz.isAgg373
  z51 := Tryz.sizeOf373
  v51 := Tryz.zeroValue373
  t53 := Tryz.underlying22
  a53 := Tryz.isAgg22
  z53 := Tryz.sizeOf22
  v53 := Tryz.zeroValue22
  t171 := Tryz.underlying388
  a171 := Tryz.isAgg388
  z171 := Tryz.sizeOf388
  v171 := Tryz.zeroValue388
  t173 := Tryz.underlying390
  a173 := Tryz.isAgg390
  z173 := Tryz.sizeOf390
  v173 := Tryz.zeroValue390
  t212 := Tryz.underlying404
  a212 := Tryz.isAgg404
  z212 := Tryz.sizeOf404
  v212 := Tryz.zeroValue404
  t213 := Tryz.underlying405
  a213 := Tryz.isAgg405
  z213 := Tryz.sizeOf405
  t232 := Tryz.underlying412
  a232 := Tryz.isAgg412
  z232 := Tryz.sizeOf412
  v232 := Tryz.zeroValue412
  t233 := Tryz.underlying413
  a233 := Tryz.isAgg413
  z233 := Tryz.sizeOf413
  v233 := Tryz.zeroValue413
  g17 := by kernel_rfl
  g18 := by kernel_rfl
  g19 := by kernel_rfl
  i0 := by kernel_rfl
  i2 := by kernel_rfl
  i3 := by kernel_rfl
  i4 := by kernel_rfl
  i5 := by kernel_rfl
  i9 := by kernel_rfl
  i20 := by kernel_rfl
  i37 := by kernel_rfl
  i46 := by kernel_rfl
  i51 := by kernel_rfl
  i53 := by kernel_rfl
  i171 := by kernel_rfl
  i173 := by kernel_rfl
  i212 := by kernel_rfl
  i232 := by kernel_rfl
  i233 := by kernel_rfl
  m17 := by kernel_rfl
  m18 := by kernel_rfl
  m19 := by kernel_rfl }
open Go.RowKit Go.Sort Go.Lib in
theorem Tryz.strconv_Itoa (n : Int) (h0 : -9223372036854775808 ≤ n) (h1 : n ≤ 9223372036854775807) (w : World) (htab : Lib.TabIs Tryz.prog w "internal/strconv.uint64pow10" .u64 Lib.pow10Tab) :
    Calls Tryz.prog 248 #[.int .i64 n] w fun e w' => e = .returned (.string ⟨(Lib.itoa n).toArray⟩) ∧ ∃ k os, w' = grow (w.drewN k) os := Any.strconv_Itoa Tryz.laysM171 n h0 h1 w htab
end Go.Proofs
