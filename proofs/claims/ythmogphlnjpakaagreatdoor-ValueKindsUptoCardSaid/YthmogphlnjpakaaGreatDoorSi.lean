/-
  More of the shelf's contracts, laid at this translation (written by the kit's lay-plain, trimmed).
-/
import Derived.Test.YthmogphlnjpakaaGreatDoorSh
import Derived.Ground.Names2Prog
import Derived.Ground.SlgnProg
import Derived.Shelf.Bits.Mul64
import Derived.Shelf.LaysC
import Derived.Shelf.LaysM
import Derived.Shelf.Slices.Clone
import Derived.Shelf.Slices.Turned
import Derived.Shelf.SlicesE.Clone
import Derived.Shelf.Small.Bits
import Derived.Shelf.Small.Strs
import Derived.Shelf.Small.Utf8
import Derived.Shelf.Strconv.Atoi
import Derived.Shelf.Strconv.AtoiAll
import Derived.Shelf.Strconv.AtoiErrFast
import Derived.Shelf.Strconv.AtoiFail
import Derived.Shelf.Strconv.AtoiInnerAll
import Derived.Shelf.Strconv.AtoiLong
import Derived.Shelf.Strconv.Clone
import Derived.Shelf.Strconv.ErrVarAll
import Derived.Shelf.Strconv.Itoa0
import Derived.Shelf.Strconv.Itoa1
import Derived.Shelf.Strconv.Itoa2
import Derived.Shelf.Strconv.Itoa3
import Derived.Shelf.Strconv.Lower
import Derived.Shelf.Strconv.ParseInt10
import Derived.Shelf.Strconv.ParseIntEmpty
import Derived.Shelf.Strconv.ParseUint10
import Derived.Shelf.Strconv.ParseUint10Any
import Derived.Shelf.Strconv.ParseUint10Empty
import Derived.Shelf.Strconv.ParseUintEmpty
import Derived.Shelf.Strconv.RangeError
import Derived.Shelf.Strconv.SyntaxError
import Derived.Shelf.Strconv.ToError
import Derived.Shelf.Strconv.ToErrorRange
import Derived.Shelf.Strings.AsciiSet
import Derived.Shelf.Strings.Builder1
import Derived.Shelf.Strings.Builder2
import Derived.Shelf.Strings.Builder2Cap
import Derived.Shelf.Strings.BuilderF
import Derived.Shelf.Strings.Count
import Derived.Shelf.Strings.Cut
import Derived.Shelf.Strings.Explode
import Derived.Shelf.Strings.OnBuilder
import Derived.Shelf.Strings.Prefix
import Derived.Shelf.Strings.Replace
import Derived.Shelf.Strings.RuneCount
import Derived.Shelf.Strings.Runes
import Derived.Shelf.Strings.Search1
import Derived.Shelf.Strings.Search2
import Derived.Shelf.Strings.Search3
import Derived.Shelf.Strings.Shaped
import Derived.Shelf.Strings.Split
import Derived.Shelf.Strings.SplitShaped
import Derived.Shelf.Strings.Trim
import Derived.Shelf.Unicode.Decode
import Derived.Shelf.Unicode.DecodeAny
import Derived.Shelf.Unicode.DecodeLast
import Derived.Shelf.Unicode.DecodeSlow
import Derived.Shelf.Utf8.RuneCount
import Derived.Test.YthmogphlnjpakaaGreatDoorProg
namespace Go.Proofs
open Go.Shelf
open Go.RowKit (Below)
def Tryz.laysC172_ren : Go.Shelf.Ren := ⟨fun | 172 => 212 | 244 => 246 | 245 => 247 | 247 => 277 | 279 => 278 | 280 => 279 | 281 => 280 | 282 => 281 | 287 => 295 | 316 => 296 | 171 => 143 | 205 => 297 | 321 => 303 | 322 => 304 | 243 => 204 | 246 => 237 | 283 => 270 | 284 => 271 | 285 => 272 | 286 => 273 | 129 => 290 | 317 => 291 | 318 => 292 | 319 => 293 | 320 => 294 | 337 => 301 | 338 => 302 | n => n, fun | 9 => 9 | 3 => 3 | 75 => 203 | 76 => 204 | 4 => 4 | 5 => 5 | 167 => 309 | 37 => 199 | 0 => 0 | 85 => 310 | 2 => 2 | 168 => 312 | 53 => 84 | 175 => 326 | 46 => 107 | 210 => 329 | 127 => 248 | 145 => 336 | 143 => 334 | 21 => 21 | 171 => 303 | 173 => 305 | 212 => 323 | 51 => 276 | 20 => 20 | 213 => 324 | 232 => 338 | 233 => 339 | 80 => 196 | n => n, fun | 15 => 6 | 16 => 7 | 17 => 5 | 18 => 8 | 19 => 9 | n => n⟩
theorem Tryz.laysC172 : Go.Proofs.LaysC.n172 Tryz.prog Tryz.laysC172_ren := {
  mixed := by kernel_rfl
  f129 := Tryz.func290.trans (congrArg some (by kernel_rfl))
  f171 := Tryz.func143.trans (congrArg some (by kernel_rfl))
  f172 := Tryz.func212.trans (congrArg some (by kernel_rfl))
  f205 := Tryz.func297.trans (congrArg some (by kernel_rfl))
  f243 := Tryz.func204.trans (congrArg some (by kernel_rfl))
  f244 := Tryz.func246.trans (congrArg some (by kernel_rfl))
  f245 := Tryz.func247.trans (congrArg some (by kernel_rfl))
  f246 := Tryz.func237.trans (congrArg some (by kernel_rfl))
  f247 := Tryz.func277.trans (congrArg some (by kernel_rfl))
  f279 := Tryz.func278.trans (congrArg some (by kernel_rfl))
  f280 := Tryz.func279.trans (congrArg some (by kernel_rfl))
  f281 := Tryz.func280.trans (congrArg some (by kernel_rfl))
  f282 := Tryz.func281.trans (congrArg some (by kernel_rfl))
  f283 := Tryz.func270.trans (congrArg some (by kernel_rfl))
  f284 := Tryz.func271.trans (congrArg some (by kernel_rfl))
  f285 := Tryz.func272.trans (congrArg some (by kernel_rfl))
  f286 := Tryz.func273.trans (congrArg some (by kernel_rfl))
  f287 := Tryz.func295.trans (congrArg some (by kernel_rfl))
  f316 := Tryz.func296.trans (congrArg some (by kernel_rfl))
  f317 := Tryz.func291.trans (congrArg some (by kernel_rfl))
  f318 := Tryz.func292.trans (congrArg some (by kernel_rfl))
  f319 := Tryz.func293.trans (congrArg some (by kernel_rfl))
  f320 := Tryz.func294.trans (congrArg some (by kernel_rfl))
  f321 := Tryz.func303.trans (congrArg some (by kernel_rfl))
  f322 := Tryz.func304.trans (congrArg some (by kernel_rfl))
  f337 := Tryz.func301.trans (congrArg some (by kernel_rfl))
  f338 := Tryz.func302.trans (congrArg some (by kernel_rfl))
  t0 := Tryz.underlying0
  a0 := Tryz.isAgg0
  z0 := Tryz.sizeOf0
  v0 := Tryz.zeroValue0
  t2 := Tryz.underlying2
  a2 := Tryz.isAgg2
  z2 := Tryz.sizeOf2
  v2 := Tryz.zeroValue2
  t3 := Tryz.underlying3
  a3 := Tryz.isAgg3
  z3 := Tryz.sizeOf3
  v3 := Tryz.zeroValue3
  t4 := Tryz.underlying4
  a4 := Tryz.isAgg4
  z4 := Tryz.sizeOf4
  v4 := Tryz.zeroValue4
  t5 := Tryz.underlying5
  a5 := Tryz.isAgg5
  z5 := Tryz.sizeOf5
  v5 := Tryz.zeroValue5
  t9 := Tryz.underlying9
  a9 := Tryz.isAgg9
  z9 := Tryz.sizeOf9
  v9 := Tryz.zeroValue9
  t20 := Tryz.underlying20
  a20 := Tryz.isAgg20
  z20 := Tryz.sizeOf20
  v20 := Tryz.zeroValue20
  t21 := Tryz.underlying21
  a21 := Tryz.isAgg21
  z21 := Tryz.sizeOf21
  v21 := Tryz.zeroValue21
  t37 := Tryz.underlying199
  a37 := Tryz.isAgg199
  z37 := Tryz.sizeOf199
  v37 := Tryz.zeroValue199
  t46 := Tryz.underlying107
  a46 := Tryz.isAgg107
  z46 := Tryz.sizeOf107
  v46 := Tryz.zeroValue107
  t51 := Tryz.underlying276
  a51 := Tryz.isAgg276
  z51 := Tryz.sizeOf276
  v51 := Tryz.zeroValue276
  t53 := Tryz.underlying84
  a53 := Tryz.isAgg84
  z53 := Tryz.sizeOf84
  v53 := Tryz.zeroValue84
  t75 := Tryz.underlying203
  a75 := Tryz.isAgg203
  z75 := Tryz.sizeOf203
  v75 := Tryz.zeroValue203
  t76 := Tryz.underlying204
  a76 := Tryz.isAgg204
  z76 := Tryz.sizeOf204
  v76 := Tryz.zeroValue204
  t85 := Tryz.underlying310
  a85 := Tryz.isAgg310
  z85 := Tryz.sizeOf310
  v85 := Tryz.zeroValue310
  t127 := Tryz.underlying248
  a127 := Tryz.isAgg248
  z127 := Tryz.sizeOf248
  v127 := Tryz.zeroValue248
  t143 := Tryz.underlying334
  a143 := Tryz.isAgg334
  z143 := Tryz.sizeOf334
  v143 := Tryz.zeroValue334
  t145 := Tryz.underlying336
  a145 := Tryz.isAgg336
  z145 := Tryz.sizeOf336
  v145 := Tryz.zeroValue336
  t167 := Tryz.underlying309
  a167 := Tryz.isAgg309
  z167 := Tryz.sizeOf309
  v167 := Tryz.zeroValue309
  t168 := Tryz.underlying312
  a168 := Tryz.isAgg312
  z168 := Tryz.sizeOf312
  v168 := Tryz.zeroValue312
  t171 := Tryz.underlying303
  a171 := Tryz.isAgg303
  z171 := Tryz.sizeOf303
  v171 := Tryz.zeroValue303
  t173 := Tryz.underlying305
  a173 := Tryz.isAgg305
  z173 := Tryz.sizeOf305
  v173 := Tryz.zeroValue305
  t175 := Tryz.underlying326
  a175 := Tryz.isAgg326
  z175 := Tryz.sizeOf326
  v175 := Tryz.zeroValue326
  t210 := Tryz.underlying329
  a210 := Tryz.isAgg329
  z210 := Tryz.sizeOf329
  v210 := Tryz.zeroValue329
  t212 := Tryz.underlying323
  a212 := Tryz.isAgg323
  z212 := Tryz.sizeOf323
  v212 := Tryz.zeroValue323
  t213 := Tryz.underlying324
  a213 := Tryz.isAgg324
  z213 := Tryz.sizeOf324
  t232 := Tryz.underlying338
  a232 := Tryz.isAgg338
  z232 := Tryz.sizeOf338
  v232 := Tryz.zeroValue338
  t233 := Tryz.underlying339
  a233 := Tryz.isAgg339
  z233 := Tryz.sizeOf339
  v233 := Tryz.zeroValue339
  g15 := by kernel_rfl
  g16 := by kernel_rfl
  g17 := by kernel_rfl
  g18 := by kernel_rfl
  g19 := by kernel_rfl
  t80 := Tryz.underlying196
  a80 := Tryz.isAgg196
  z80 := Tryz.sizeOf196
  v80 := Tryz.zeroValue196
  i0 := by kernel_rfl
  i2 := by kernel_rfl
  i3 := by kernel_rfl
  i4 := by kernel_rfl
  i5 := by kernel_rfl
  i9 := by kernel_rfl
  i20 := by kernel_rfl
  i21 := by kernel_rfl
  i37 := by kernel_rfl
  i46 := by kernel_rfl
  i51 := by kernel_rfl
  i53 := by kernel_rfl
  i75 := by kernel_rfl
  i76 := by kernel_rfl
  i80 := by kernel_rfl
  i85 := by kernel_rfl
  i127 := by kernel_rfl
  i143 := by kernel_rfl
  i145 := by kernel_rfl
  i167 := by kernel_rfl
  i168 := by kernel_rfl
  i171 := by kernel_rfl
  i173 := by kernel_rfl
  i175 := by kernel_rfl
  i210 := by kernel_rfl
  i212 := by kernel_rfl
  i232 := by kernel_rfl
  i233 := by kernel_rfl
  m15 := by kernel_rfl
  m16 := by kernel_rfl
  m17 := by kernel_rfl
  m18 := by kernel_rfl
  m19 := by kernel_rfl
  c0 := by kernel_rfl
  c2 := by kernel_rfl
  c3 := by kernel_rfl
  c4 := by kernel_rfl
  c5 := by kernel_rfl
  c9 := by kernel_rfl
  c20 := by kernel_rfl
  c21 := by kernel_rfl
  c37 := by kernel_rfl
  c46 := by kernel_rfl
  c51 := by kernel_rfl
  c53 := by kernel_rfl
  c75 := by kernel_rfl
  c76 := by kernel_rfl
  c80 := by kernel_rfl
  c85 := by kernel_rfl
  c127 := by kernel_rfl
  c143 := by kernel_rfl
  c145 := by kernel_rfl
  c167 := by kernel_rfl
  c168 := by kernel_rfl
  c171 := by kernel_rfl
  c173 := by kernel_rfl
  c175 := by kernel_rfl
  c210 := by kernel_rfl
  c212 := by kernel_rfl
  c213 := by kernel_rfl
  c232 := by kernel_rfl
  c233 := by kernel_rfl }
open Go.RowKit in
theorem Tryz.strconv_Atoi_ok (s : ByteArray) (hmax : s.size ≤ 9223372036854775806) (v : Int) (h : Lib.atoiAll s.data.toList = .ok v) (w : World) :
    Calls Tryz.prog 212 #[.string s] w fun e w' => e = .returned (.tuple #[.int .i64 v, .nilIface]) ∧ (w' = w ∨ ∃ t, w' = Lib.bytesWorld w 5 t) := Any.strconv_Atoi_ok Tryz.laysC172 s hmax v h w
open Go.RowKit in
theorem Tryz.strconv_Atoi_syntax_var (s : ByteArray) (hlim : s.size ≤ 281474976710656) (h : Lib.atoiAll s.data.toList = Lib.atoiAll []) (tp : TypeId) (p : Value) (w : World) (hvar : w.var? Tryz.prog "strconv.ErrSyntax" = some #[.iface tp p]) :
    Calls Tryz.prog 212 #[.string s] w fun e w' => ∃ N, e = .returned (.tuple #[.int .i64 0, .iface 312 (.pointer (some ⟨N, 0, none⟩))]) ∧ w.heap.size ≤ N ∧ w'.heap[N]? = some (.cells #[.string ⟨#[65, 116, 111, 105]⟩, .string s, .iface tp p] 329 (0, 0)) ∧ Below w.heap.size w w' := Any.strconv_Atoi_syntax_var Tryz.laysC172 s hlim h tp p w hvar
open Go.RowKit in
theorem Tryz.strconv_Atoi_range_var (s : ByteArray) (hlim : s.size ≤ 281474976710656) (h : Lib.atoiAll s.data.toList = .range) (tp : TypeId) (p : Value) (w : World) (hvar : w.var? Tryz.prog "strconv.ErrRange" = some #[.iface tp p]) :
    Calls Tryz.prog 212 #[.string s] w fun e w' => ∃ N, e = .returned (.tuple #[.int .i64 (Lib.atoiSat s.data.toList), .iface 312 (.pointer (some ⟨N, 0, none⟩))]) ∧ w.heap.size ≤ N ∧ w'.heap[N]? = some (.cells #[.string ⟨#[65, 116, 111, 105]⟩, .string s, .iface tp p] 329 (0, 0)) ∧ Below w.heap.size w w' := Any.strconv_Atoi_range_var Tryz.laysC172 s hlim h tp p w hvar
def Tryz.lays146_ren : Go.Shelf.Ren := ⟨fun | 146 => 176 | 221 => 228 | 268 => 267 | 138 => 104 | 143 => 148 | 195 => 152 | 197 => 244 | 218 => 153 | 219 => 208 | 260 => 276 | 217 => 240 | 225 => 241 | 224 => 242 | 267 => 243 | 266 => 274 | 314 => 275 | n => n, fun | 9 => 9 | 31 => 23 | 3 => 3 | 4 => 4 | 0 => 0 | 105 => 277 | 21 => 21 | 5 => 5 | 46 => 107 | 119 => 103 | 139 => 106 | 138 => 105 | 146 => 307 | 51 => 276 | n => n, fun | 1 => 2 | 3 => 0 | 4 => 1 | n => n⟩
theorem Tryz.lays146 : Go.Proofs.Lays.n146 Tryz.prog Tryz.lays146_ren := {
  mixed := by kernel_rfl
  f138 := Tryz.func104.trans (congrArg some (by kernel_rfl))
  f143 := Tryz.func148.trans (congrArg some (by kernel_rfl))
  f146 := Tryz.func176.trans (congrArg some (by kernel_rfl))
  f195 := Tryz.func152.trans (congrArg some (by kernel_rfl))
  f197 := Tryz.func244.trans (congrArg some (by kernel_rfl))
  f217 := Tryz.func240.trans (congrArg some (by kernel_rfl))
  f218 := Tryz.func153.trans (congrArg some (by kernel_rfl))
  f219 := Tryz.func208.trans (congrArg some (by kernel_rfl))
  f221 := Tryz.func228.trans (congrArg some (by kernel_rfl))
  f224 := Tryz.func242.trans (congrArg some (by kernel_rfl))
  f225 := Tryz.func241.trans (congrArg some (by kernel_rfl))
  f260 := Tryz.func276.trans (congrArg some (by kernel_rfl))
  f266 := Tryz.func274.trans (congrArg some (by kernel_rfl))
  f267 := Tryz.func243.trans (congrArg some (by kernel_rfl))
  f268 := Tryz.func267.trans (congrArg some (by kernel_rfl))
  f314 := Tryz.func275.trans (congrArg some (by kernel_rfl))
  t0 := Tryz.underlying0
  a0 := Tryz.isAgg0
  z0 := Tryz.sizeOf0
  v0 := Tryz.zeroValue0
  t3 := Tryz.underlying3
  a3 := Tryz.isAgg3
  z3 := Tryz.sizeOf3
  v3 := Tryz.zeroValue3
  t4 := Tryz.underlying4
  a4 := Tryz.isAgg4
  z4 := Tryz.sizeOf4
  v4 := Tryz.zeroValue4
  t5 := Tryz.underlying5
  a5 := Tryz.isAgg5
  z5 := Tryz.sizeOf5
  v5 := Tryz.zeroValue5
  t9 := Tryz.underlying9
  a9 := Tryz.isAgg9
  z9 := Tryz.sizeOf9
  v9 := Tryz.zeroValue9
  t21 := Tryz.underlying21
  a21 := Tryz.isAgg21
  z21 := Tryz.sizeOf21
  v21 := Tryz.zeroValue21
  t31 := Tryz.underlying23
  a31 := Tryz.isAgg23
  z31 := Tryz.sizeOf23
  v31 := Tryz.zeroValue23
  t46 := Tryz.underlying107
  a46 := Tryz.isAgg107
  z46 := Tryz.sizeOf107
  v46 := Tryz.zeroValue107
  t51 := Tryz.underlying276
  a51 := Tryz.isAgg276
  z51 := Tryz.sizeOf276
  v51 := Tryz.zeroValue276
  t105 := Tryz.underlying277
  a105 := Tryz.isAgg277
  z105 := Tryz.sizeOf277
  v105 := Tryz.zeroValue277
  t119 := Tryz.underlying103
  a119 := Tryz.isAgg103
  z119 := Tryz.sizeOf103
  t138 := Tryz.underlying105
  a138 := Tryz.isAgg105
  z138 := Tryz.sizeOf105
  v138 := Tryz.zeroValue105
  t139 := Tryz.underlying106
  a139 := Tryz.isAgg106
  z139 := Tryz.sizeOf106
  v139 := Tryz.zeroValue106
  t146 := Tryz.underlying307
  a146 := Tryz.isAgg307
  z146 := Tryz.sizeOf307
  v146 := Tryz.zeroValue307
  g1 := by kernel_rfl
  g3 := by kernel_rfl
  g4 := by kernel_rfl }
open Go.RowKit Go.Lib in
theorem Tryz.strings_Split (s sep : ByteArray) (m : Int) (w : World) (hs : s.size < 4294967281) (hm : w.cell? ⟨2, 0, none⟩ = some (.int .i64 m)) (h1 : 1 ≤ sep.size) :
    Calls Tryz.prog 176 #[.string s, .string sep] w fun e w' =>
      e = .returned (.slice (some ⟨w.heap.size, 0, none⟩) (Lib.countB s sep + 1) (Lib.countB s sep + 1)) ∧ w' = w.alloc (.cells ((Lib.splitB sep 0 (Lib.countB s sep) s).map Value.string).toArray 9) := Any.strings_Split Tryz.lays146 (by kernel_rfl) s sep m w hs hm h1
end Go.Proofs
