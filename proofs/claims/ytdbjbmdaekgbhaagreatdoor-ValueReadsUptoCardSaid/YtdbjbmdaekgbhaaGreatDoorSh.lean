/-
  The shelf's contracts, laid at this translation (numbers of this seat; written by the kit's lay-plain, trimmed).
-/
import Derived.Shelf.Bits.Mul64
import Derived.Shelf.LaysM
import Derived.Shelf.Small.Bits
import Derived.Shelf.Strconv.Itoa0
import Derived.Shelf.Strconv.Itoa1
import Derived.Shelf.Strconv.Itoa2
import Derived.Shelf.Strconv.Itoa3
import Derived.Test.YtdbjbmdaekgbhaaGreatDoorProg
namespace Go.Proofs
open Go.Shelf
def Tryz.lays134_ren : Go.Shelf.Ren := ⟨fun | 134 => 252 | 129 => 271 | n => n, fun | 53 => 22 | 3 => 3 | 4 => 4 | 46 => 173 | 5 => 5 | 9 => 9 | n => n, fun | n => n⟩
theorem Tryz.lays134 : Go.Proofs.Lays.n134 Tryz.prog Tryz.lays134_ren := {
  mixed := by kernel_rfl
  f129 := Tryz.func271.trans (congrArg some (by kernel_rfl))
  f134 := Tryz.func252.trans (congrArg some (by kernel_rfl))
  t3 := Tryz.underlying3
  a3 := Tryz.isAgg3
  z3 := Tryz.sizeOf3
  v3 := Tryz.zeroValue3
  t4 := Tryz.underlying4
  a4 := Tryz.isAgg4
  z4 := Tryz.sizeOf4
  v4 := Tryz.zeroValue4
  t5 := Tryz.underlying5
  a5 := Tryz.isAgg5
  z5 := Tryz.sizeOf5
  v5 := Tryz.zeroValue5
  t9 := Tryz.underlying9
  a9 := Tryz.isAgg9
  z9 := Tryz.sizeOf9
  v9 := Tryz.zeroValue9
  t46 := Tryz.underlying173
  a46 := Tryz.isAgg173
  z46 := Tryz.sizeOf173
  v46 := Tryz.zeroValue173
  t53 := Tryz.underlying22
  a53 := Tryz.isAgg22
  z53 := Tryz.sizeOf22
  v53 := Tryz.zeroValue22 }
theorem Tryz.bits_LeadingZeros64 (x : Int) (w : World) (h0 : 0 ≤ x) (h1 : x ≤ 18446744073709551615) :
    Calls Tryz.prog 252 #[.int .u64 x] w fun e w' => e = .returned (.int .i64 (64 - (Lib.bitLen x.toNat : Int))) ∧ w' = w := Any.bits_LeadingZeros64 Tryz.lays134 x w h0 h1
def Tryz.laysM171_ren : Go.Shelf.Ren := ⟨fun | 171 => 133 | 243 => 199 | 246 => 237 | 283 => 263 | 284 => 264 | 285 => 265 | 286 => 266 | 129 => 271 | 317 => 278 | 318 => 279 | 319 => 280 | 320 => 281 | 337 => 286 | 338 => 287 | n => n, fun | 3 => 3 | 9 => 9 | 2 => 2 | 4 => 4 | 171 => 297 | 0 => 0 | 53 => 22 | 37 => 193 | 5 => 5 | 173 => 299 | 212 => 312 | 51 => 278 | 20 => 20 | 213 => 313 | 46 => 173 | 232 => 321 | 233 => 322 | n => n, fun | 17 => 7 | 18 => 8 | 19 => 9 | n => n⟩
theorem Tryz.laysM171 : Go.Proofs.LaysM.n171 Tryz.prog Tryz.laysM171_ren := {
  mixed := by kernel_rfl
  f129 := Tryz.func271.trans (congrArg some (by kernel_rfl))
  f171 := Tryz.func133.trans (congrArg some (by kernel_rfl))
  f243 := Tryz.func199.trans (congrArg some (by kernel_rfl))
  f246 := Tryz.func237.trans (congrArg some (by kernel_rfl))
  f283 := Tryz.func263.trans (congrArg some (by kernel_rfl))
  f284 := Tryz.func264.trans (congrArg some (by kernel_rfl))
  f285 := Tryz.func265.trans (congrArg some (by kernel_rfl))
  f286 := Tryz.func266.trans (congrArg some (by kernel_rfl))
  f317 := Tryz.func278.trans (congrArg some (by kernel_rfl))
  f318 := Tryz.func279.trans (congrArg some (by kernel_rfl))
  f319 := Tryz.func280.trans (congrArg some (by kernel_rfl))
  f320 := Tryz.func281.trans (congrArg some (by kernel_rfl))
  f337 := Tryz.func286.trans (congrArg some (by kernel_rfl))
  f338 := Tryz.func287.trans (congrArg some (by kernel_rfl))
  t0 := Tryz.underlying0
  a0 := Tryz.isAgg0
  z0 := Tryz.sizeOf0
  v0 := Tryz.zeroValue0
  t2 := Tryz.underlying2
  a2 := Tryz.isAgg2
  z2 := Tryz.sizeOf2
  v2 := Tryz.zeroValue2
  t3 := Tryz.underlying3
  a3 := Tryz.isAgg3
  z3 := Tryz.sizeOf3
  v3 := Tryz.zeroValue3
  t4 := Tryz.underlying4
  a4 := Tryz.isAgg4
  z4 := Tryz.sizeOf4
  v4 := Tryz.zeroValue4
  t5 := Tryz.underlying5
  a5 := Tryz.isAgg5
  z5 := Tryz.sizeOf5
  v5 := Tryz.zeroValue5
  t9 := Tryz.underlying9
  a9 := Tryz.isAgg9
  z9 := Tryz.sizeOf9
  v9 := Tryz.zeroValue9
  t20 := Tryz.underlying20
  a20 := Tryz.isAgg20
  z20 := Tryz.sizeOf20
  v20 := Tryz.zeroValue20
  t37 := Tryz.underlying193
  a37 := Tryz.isAgg193
  z37 := Tryz.sizeOf193
  v37 := Tryz.zeroValue193
  t46 := Tryz.underlying173
  a46 := Tryz.isAgg173
  z46 := Tryz.sizeOf173
  v46 := Tryz.zeroValue173
  t51 := Tryz.underlying278
  a51 := Tryz.isAgg278
  z51 := Tryz.sizeOf278
  v51 := Tryz.zeroValue278
  t53 := Tryz.underlying22
  a53 := Tryz.isAgg22
  z53 := Tryz.sizeOf22
  v53 := Tryz.zeroValue22
  t171 := Tryz.underlying297
  a171 := Tryz.isAgg297
  z171 := Tryz.sizeOf297
  v171 := Tryz.zeroValue297
  t173 := Tryz.underlying299
  a173 := Tryz.isAgg299
  z173 := Tryz.sizeOf299
  v173 := Tryz.zeroValue299
  t212 := Tryz.underlying312
  a212 := Tryz.isAgg312
  z212 := Tryz.sizeOf312
  v212 := Tryz.zeroValue312
  t213 := Tryz.underlying313
  a213 := Tryz.isAgg313
  z213 := Tryz.sizeOf313
  t232 := Tryz.underlying321
  a232 := Tryz.isAgg321
  z232 := Tryz.sizeOf321
  v232 := Tryz.zeroValue321
  t233 := Tryz.underlying322
  a233 := Tryz.isAgg322
  z233 := Tryz.sizeOf322
  v233 := Tryz.zeroValue322
  g17 := by kernel_rfl
  g18 := by kernel_rfl
  g19 := by kernel_rfl
  i0 := by kernel_rfl
  i2 := by kernel_rfl
  i3 := by kernel_rfl
  i4 := by kernel_rfl
  i5 := by kernel_rfl
  i9 := by kernel_rfl
  i20 := by kernel_rfl
  i37 := by kernel_rfl
  i46 := by kernel_rfl
  i51 := by kernel_rfl
  i53 := by kernel_rfl
  i171 := by kernel_rfl
  i173 := by kernel_rfl
  i212 := by kernel_rfl
  i232 := by kernel_rfl
  i233 := by kernel_rfl
  m17 := by kernel_rfl
  m18 := by kernel_rfl
  m19 := by kernel_rfl }
open Go.RowKit Go.Sort Go.Lib in
theorem Tryz.strconv_Itoa (n : Int) (h0 : -9223372036854775808 ≤ n) (h1 : n ≤ 9223372036854775807) (w : World) (htab : Lib.TabIs Tryz.prog w "internal/strconv.uint64pow10" .u64 Lib.pow10Tab) :
    Calls Tryz.prog 133 #[.int .i64 n] w fun e w' => e = .returned (.string ⟨(Lib.itoa n).toArray⟩) ∧ ∃ k os, w' = grow (w.drewN k) os := Any.strconv_Itoa Tryz.laysM171 n h0 h1 w htab
def Tryz.lays264_ren : Go.Shelf.Ren := ⟨fun | 264 => 214 | n => n, fun | 53 => 22 | 46 => 173 | n => n, fun | n => n⟩
theorem Tryz.lays264 : Go.Proofs.Lays.n264 Tryz.prog Tryz.lays264_ren := {
  mixed := by kernel_rfl
  f264 := Tryz.func214.trans (congrArg some (by kernel_rfl))
  t46 := Tryz.underlying173
  a46 := Tryz.isAgg173
  z46 := Tryz.sizeOf173
  v46 := Tryz.zeroValue173
  t53 := Tryz.underlying22
  a53 := Tryz.isAgg22
  z53 := Tryz.sizeOf22
  v53 := Tryz.zeroValue22 }
open Go.RowKit Go.Lib in
theorem Tryz.bits_Mul64 (x y : Nat) (hx : x < 18446744073709551616) (hy : y < 18446744073709551616) (w : World) :
    Calls Tryz.prog 214 #[.int .u64 x, .int .u64 y] w fun e w' => e = .returned (.tuple #[.int .u64 ((x * y / 18446744073709551616 : Nat) : Int), .int .u64 ((x * y % 18446744073709551616 : Nat) : Int)]) ∧ w' = w := Any.bits_Mul64 Tryz.lays264 x y hx hy w
end Go.Proofs
