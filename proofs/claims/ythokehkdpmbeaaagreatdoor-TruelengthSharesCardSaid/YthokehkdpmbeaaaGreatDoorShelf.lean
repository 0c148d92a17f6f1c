/-
  The library's contracts at this program: laid by the kit's tools lay-shelf.mjs and lay-plain.mjs, cut down by dev_prune.py.
-/
import Derived.Test.YthokehkdpmbeaaaGreatDoorProg
import Derived.Shelf.Strings.Builder1
import Derived.Shelf.Strings.Builder2
import Derived.Shelf.Strings.Trim
import Derived.Shelf.Small.Utf8
import Derived.Shelf.Small.Bits
import Derived.Shelf.Small.Strs
import Derived.Shelf.Small.Wraps
import Derived.Shelf.Strings.BuilderF
import Derived.Shelf.Strings.BuilderK
import Derived.Shelf.Strings.Builder2Cap
import Derived.Shelf.Strconv.Atoi
import Derived.Shelf.Strconv.Itoa0
import Derived.Shelf.Strconv.Itoa1
import Derived.Shelf.LaysM
import Derived.Shelf.Strconv.Itoa2
import Derived.Shelf.Strconv.Itoa3
import Derived.Shelf.Strconv.AtoiErrFast
import Derived.Shelf.Strconv.ParseIntEmpty
import Derived.Shelf.Strconv.AtoiFail
import Derived.Shelf.Strconv.Clone
import Derived.Shelf.Strconv.SyntaxError
import Derived.Shelf.LaysC
import Derived.Shelf.Strconv.ToError
import Derived.Shelf.Strconv.Lower
import Derived.Shelf.Strconv.ParseUint10
import Derived.Shelf.Strconv.ParseUint10Empty
import Derived.Shelf.Strconv.ParseUint10Any
import Derived.Shelf.Strconv.ParseInt10
import Derived.Shelf.Strconv.AtoiLong
import Derived.Shelf.Strconv.AtoiInnerAll
import Derived.Shelf.Strconv.RangeError
import Derived.Shelf.Strconv.ToErrorRange
import Derived.Shelf.Strconv.AtoiAll
import Derived.Shelf.Strconv.ErrVarAll
import Derived.Shelf.Strings.Search1
import Derived.Shelf.Strings.Search2
import Derived.Shelf.Strings.Search3
import Derived.Shelf.Strings.Cut
import Derived.Shelf.Strings.Shaped
import Derived.Shelf.Strings.Prefix
import Derived.Shelf.Strings.Runes
import Derived.Shelf.Strings.AsciiSet
import Derived.Shelf.Bits.Mul64
import Derived.Shelf.Strings.Repeat
import Derived.Shelf.Unicode.DecodeSlow
import Derived.Shelf.Strings.BuilderCap
namespace Go.Proofs
open Go.Shelf
def Tryz.lays169_ren : Go.Shelf.Ren := ⟨fun | 169 => 179 | n => n, fun | 70 => 240 | 9 => 9 | 0 => 0 | 72 => 242 | 37 => 210 | 127 => 286 | 3 => 3 | 5 => 5 | n => n, fun | n => n⟩
theorem Tryz.lays169 : Go.Proofs.Lays.n169 Tryz.prog Tryz.lays169_ren := {
  mixed := by kernel_rfl
  f169 := Tryz.func179.trans (congrArg some (by kernel_rfl))
  t0 := Tryz.underlying0
  a0 := Tryz.isAgg0
  z0 := Tryz.sizeOf0
  v0 := Tryz.zeroValue0
  t3 := Tryz.underlying3
  a3 := Tryz.isAgg3
  z3 := Tryz.sizeOf3
  v3 := Tryz.zeroValue3
  t9 := Tryz.underlying9
  a9 := Tryz.isAgg9
  z9 := Tryz.sizeOf9
  v9 := Tryz.zeroValue9
  t37 := Tryz.underlying210
  a37 := Tryz.isAgg210
  z37 := Tryz.sizeOf210
  v37 := Tryz.zeroValue210
  t70 := Tryz.underlying240
  a70 := Tryz.isAgg240
  z70 := Tryz.sizeOf240
  v70 := Tryz.zeroValue240
  t72 := Tryz.underlying242
  a72 := Tryz.isAgg242
  z72 := Tryz.sizeOf242
  v72 := Tryz.zeroValue242
  t127 := Tryz.underlying286
  a127 := Tryz.isAgg286
  z127 := Tryz.sizeOf286
  v127 := Tryz.zeroValue286 }
theorem Tryz.Builder_Extra_169 : Builder.Extra Tryz.prog Tryz.lays169_ren := {
  sizeBuilder := by kernel_rfl
  liesBuilder := by kernel_rfl
  t5 := Tryz.underlying5
  a5 := Tryz.isAgg5
  z5 := Tryz.sizeOf5
  v5 := Tryz.zeroValue5
  infoByte := by kernel_rfl
  cellsByte := by kernel_rfl
  sizeByte := by kernel_rfl
  neB5 := by decide }
def Tryz.lays160_ren : Go.Shelf.Ren := ⟨fun | 160 => 174 | 232 => 210 | 231 => 209 | 227 => 211 | 234 => 213 | 233 => 212 | 236 => 215 | 235 => 214 | 228 => 233 | 271 => 236 | 151 => 235 | 197 => 234 | 120 => 251 | 152 => 250 | 260 => 249 | 137 => 258 | 119 => 259 | 224 => 244 | 225 => 243 | 217 => 242 | 266 => 254 | n => n, fun | 9 => 9 | 4 => 4 | 3 => 3 | 5 => 5 | 117 => 278 | 116 => 277 | 0 => 0 | 124 => 281 | 21 => 21 | 105 => 300 | 46 => 165 | 119 => 314 | 139 => 317 | 138 => 316 | n => n, fun | 3 => 6 | 4 => 7 | n => n⟩
theorem Tryz.lays160 : Go.Proofs.Lays.n160 Tryz.prog Tryz.lays160_ren := {
  mixed := by kernel_rfl
  f119 := Tryz.func259.trans (congrArg some (by kernel_rfl))
  f120 := Tryz.func251.trans (congrArg some (by kernel_rfl))
  f137 := Tryz.func258.trans (congrArg some (by kernel_rfl))
  f151 := Tryz.func235.trans (congrArg some (by kernel_rfl))
  f152 := Tryz.func250.trans (congrArg some (by kernel_rfl))
  f160 := Tryz.func174.trans (congrArg some (by kernel_rfl))
  f197 := Tryz.func234.trans (congrArg some (by kernel_rfl))
  f217 := Tryz.func242.trans (congrArg some (by kernel_rfl))
  f224 := Tryz.func244.trans (congrArg some (by kernel_rfl))
  f225 := Tryz.func243.trans (congrArg some (by kernel_rfl))
  f227 := Tryz.func211.trans (congrArg some (by kernel_rfl))
  f228 := Tryz.func233.trans (congrArg some (by kernel_rfl))
  f231 := Tryz.func209.trans (congrArg some (by kernel_rfl))
  f232 := Tryz.func210.trans (congrArg some (by kernel_rfl))
  f233 := Tryz.func212.trans (congrArg some (by kernel_rfl))
  f234 := Tryz.func213.trans (congrArg some (by kernel_rfl))
  f235 := Tryz.func214.trans (congrArg some (by kernel_rfl))
  f236 := Tryz.func215.trans (congrArg some (by kernel_rfl))
  f260 := Tryz.func249.trans (congrArg some (by kernel_rfl))
  f266 := Tryz.func254.trans (congrArg some (by kernel_rfl))
  f271 := Tryz.func236.trans (congrArg some (by kernel_rfl))
  t0 := Tryz.underlying0
  a0 := Tryz.isAgg0
  z0 := Tryz.sizeOf0
  v0 := Tryz.zeroValue0
  t3 := Tryz.underlying3
  a3 := Tryz.isAgg3
  z3 := Tryz.sizeOf3
  v3 := Tryz.zeroValue3
  t4 := Tryz.underlying4
  a4 := Tryz.isAgg4
  z4 := Tryz.sizeOf4
  v4 := Tryz.zeroValue4
  t5 := Tryz.underlying5
  a5 := Tryz.isAgg5
  z5 := Tryz.sizeOf5
  v5 := Tryz.zeroValue5
  t9 := Tryz.underlying9
  a9 := Tryz.isAgg9
  z9 := Tryz.sizeOf9
  v9 := Tryz.zeroValue9
  t21 := Tryz.underlying21
  a21 := Tryz.isAgg21
  z21 := Tryz.sizeOf21
  v21 := Tryz.zeroValue21
  t46 := Tryz.underlying165
  a46 := Tryz.isAgg165
  z46 := Tryz.sizeOf165
  v46 := Tryz.zeroValue165
  t105 := Tryz.underlying300
  a105 := Tryz.isAgg300
  z105 := Tryz.sizeOf300
  v105 := Tryz.zeroValue300
  t116 := Tryz.underlying277
  a116 := Tryz.isAgg277
  z116 := Tryz.sizeOf277
  t117 := Tryz.underlying278
  a117 := Tryz.isAgg278
  z117 := Tryz.sizeOf278
  v117 := Tryz.zeroValue278
  t119 := Tryz.underlying314
  a119 := Tryz.isAgg314
  z119 := Tryz.sizeOf314
  t124 := Tryz.underlying281
  a124 := Tryz.isAgg281
  z124 := Tryz.sizeOf281
  v124 := Tryz.zeroValue281
  t138 := Tryz.underlying316
  a138 := Tryz.isAgg316
  z138 := Tryz.sizeOf316
  v138 := Tryz.zeroValue316
  t139 := Tryz.underlying317
  a139 := Tryz.isAgg317
  z139 := Tryz.sizeOf317
  v139 := Tryz.zeroValue317
  g3 := by kernel_rfl
  g4 := by kernel_rfl }
def Tryz.lays125_ren : Go.Shelf.Ren := ⟨fun | 125 => 115 | 128 => 169 | 129 => 170 | n => n, fun | 46 => 165 | 3 => 3 | 51 => 233 | 53 => 235 | 4 => 4 | 5 => 5 | 9 => 9 | n => n, fun | n => n⟩
theorem Tryz.lays125 : Go.Proofs.Lays.n125 Tryz.prog Tryz.lays125_ren := {
  mixed := by kernel_rfl
  f125 := Tryz.func115.trans (congrArg some (by kernel_rfl))
  f128 := Tryz.func169.trans (congrArg some (by kernel_rfl))
  f129 := Tryz.func170.trans (congrArg some (by kernel_rfl))
  t3 := Tryz.underlying3
  a3 := Tryz.isAgg3
  z3 := Tryz.sizeOf3
  v3 := Tryz.zeroValue3
  t4 := Tryz.underlying4
  a4 := Tryz.isAgg4
  z4 := Tryz.sizeOf4
  v4 := Tryz.zeroValue4
  t5 := Tryz.underlying5
  a5 := Tryz.isAgg5
  z5 := Tryz.sizeOf5
  v5 := Tryz.zeroValue5
  t9 := Tryz.underlying9
  a9 := Tryz.isAgg9
  z9 := Tryz.sizeOf9
  v9 := Tryz.zeroValue9
  t46 := Tryz.underlying165
  a46 := Tryz.isAgg165
  z46 := Tryz.sizeOf165
  v46 := Tryz.zeroValue165
  t51 := Tryz.underlying233
  a51 := Tryz.isAgg233
  z51 := Tryz.sizeOf233
  v51 := Tryz.zeroValue233
  t53 := Tryz.underlying235
  a53 := Tryz.isAgg235
  z53 := Tryz.sizeOf235
  v53 := Tryz.zeroValue235 }
theorem Tryz.bits_Len (x : Int) (w : World) (h0 : 0 ≤ x) (h1 : x ≤ 18446744073709551615) :
    Calls Tryz.prog 115 #[.int .u64 x] w fun e w' => e = .returned (.int .i64 (Lib.bitLen x.toNat)) ∧ w' = w := Any.bits_Len Tryz.lays125 x w h0 h1
def Tryz.lays103_ren : Go.Shelf.Ren := ⟨fun | 103 => 128 | 210 => 180 | 206 => 92 | n => n, fun | 9 => 9 | 4 => 4 | 24 => 177 | 3 => 3 | n => n, fun | n => n⟩
theorem Tryz.lays103 : Go.Proofs.Lays.n103 Tryz.prog Tryz.lays103_ren := {
  mixed := by kernel_rfl
  f103 := Tryz.func128.trans (congrArg some (by kernel_rfl))
  f206 := Tryz.func92.trans (congrArg some (by kernel_rfl))
  f210 := Tryz.func180.trans (congrArg some (by kernel_rfl))
  t3 := Tryz.underlying3
  a3 := Tryz.isAgg3
  z3 := Tryz.sizeOf3
  v3 := Tryz.zeroValue3
  t4 := Tryz.underlying4
  a4 := Tryz.isAgg4
  z4 := Tryz.sizeOf4
  v4 := Tryz.zeroValue4
  t9 := Tryz.underlying9
  a9 := Tryz.isAgg9
  z9 := Tryz.sizeOf9
  v9 := Tryz.zeroValue9
  t24 := Tryz.underlying177
  a24 := Tryz.isAgg177
  z24 := Tryz.sizeOf177
  v24 := Tryz.zeroValue177 }
open Go.RowKit in
theorem Tryz.strings_CutPrefix (s p : ByteArray) (w : World) :
    Calls Tryz.prog 128 #[.string s, .string p] w fun e w' => e = .returned (.tuple #[.string ⟨(Lib.trimPrefix s.data.toList p.data.toList).toArray⟩, .bool (Lib.hasPrefix s.data.toList p.data.toList)]) ∧ w' = w := Any.strings_CutPrefix Tryz.lays103 s p w
def Tryz.lays122_ren : Go.Shelf.Ren := ⟨fun | 122 => 90 | 215 => 134 | n => n, fun | 3 => 3 | 4 => 4 | n => n, fun | n => n⟩
theorem Tryz.lays122 : Go.Proofs.Lays.n122 Tryz.prog Tryz.lays122_ren := {
  mixed := by kernel_rfl
  f122 := Tryz.func90.trans (congrArg some (by kernel_rfl))
  f215 := Tryz.func134.trans (congrArg some (by kernel_rfl))
  t3 := Tryz.underlying3
  a3 := Tryz.isAgg3
  z3 := Tryz.sizeOf3
  v3 := Tryz.zeroValue3
  t4 := Tryz.underlying4
  a4 := Tryz.isAgg4
  z4 := Tryz.sizeOf4
  v4 := Tryz.zeroValue4 }
open Go.RowKit in
theorem Tryz.cmp_Compare_int (x y : Int) (w : World) :
    Calls Tryz.prog 90 #[.int .i64 x, .int .i64 y] w fun e w' => e = .returned (.int .i64 (Lib.compareInt x y)) ∧ w' = w := Any.cmp_Compare_int Tryz.lays122 x y w
def Tryz.lays172_ren : Go.Shelf.Ren := ⟨fun | 172 => 65 | 244 => 109 | 245 => 110 | 247 => 150 | 279 => 151 | 280 => 152 | 281 => 153 | 282 => 154 | 287 => 197 | 316 => 198 | 171 => 83 | 205 => 199 | 321 => 230 | 322 => 231 | 243 => 122 | 246 => 175 | 283 => 216 | 284 => 217 | 285 => 218 | 286 => 219 | 129 => 170 | 317 => 237 | 318 => 238 | 319 => 239 | 320 => 240 | 337 => 252 | 338 => 253 | n => n, fun | 9 => 9 | 3 => 3 | 75 => 105 | 76 => 106 | 4 => 4 | 5 => 5 | 167 => 209 | 37 => 210 | 0 => 0 | 85 => 211 | 2 => 2 | 168 => 213 | 53 => 235 | 175 => 259 | 46 => 165 | 210 => 262 | 127 => 286 | 145 => 296 | 143 => 294 | 21 => 21 | 171 => 282 | 173 => 284 | 212 => 304 | 51 => 233 | 20 => 20 | 213 => 305 | 232 => 319 | 233 => 320 | 80 => 245 | n => n, fun | 15 => 1 | 16 => 2 | 17 => 4 | 18 => 8 | 19 => 9 | n => n⟩
theorem Tryz.lays172 : Go.Proofs.Lays.n172 Tryz.prog Tryz.lays172_ren := {
  mixed := by kernel_rfl
  f129 := Tryz.func170.trans (congrArg some (by kernel_rfl))
  f171 := Tryz.func83.trans (congrArg some (by kernel_rfl))
  f172 := Tryz.func65.trans (congrArg some (by kernel_rfl))
  f205 := Tryz.func199.trans (congrArg some (by kernel_rfl))
  f243 := Tryz.func122.trans (congrArg some (by kernel_rfl))
  f244 := Tryz.func109.trans (congrArg some (by kernel_rfl))
  f245 := Tryz.func110.trans (congrArg some (by kernel_rfl))
  f246 := Tryz.func175.trans (congrArg some (by kernel_rfl))
  f247 := Tryz.func150.trans (congrArg some (by kernel_rfl))
  f279 := Tryz.func151.trans (congrArg some (by kernel_rfl))
  f280 := Tryz.func152.trans (congrArg some (by kernel_rfl))
  f281 := Tryz.func153.trans (congrArg some (by kernel_rfl))
  f282 := Tryz.func154.trans (congrArg some (by kernel_rfl))
  f283 := Tryz.func216.trans (congrArg some (by kernel_rfl))
  f284 := Tryz.func217.trans (congrArg some (by kernel_rfl))
  f285 := Tryz.func218.trans (congrArg some (by kernel_rfl))
  f286 := Tryz.func219.trans (congrArg some (by kernel_rfl))
  f287 := Tryz.func197.trans (congrArg some (by kernel_rfl))
  f316 := Tryz.func198.trans (congrArg some (by kernel_rfl))
  f317 := Tryz.func237.trans (congrArg some (by kernel_rfl))
  f318 := Tryz.func238.trans (congrArg some (by kernel_rfl))
  f319 := Tryz.func239.trans (congrArg some (by kernel_rfl))
  f320 := Tryz.func240.trans (congrArg some (by kernel_rfl))
  f321 := Tryz.func230.trans (congrArg some (by kernel_rfl))
  f322 := Tryz.func231.trans (congrArg some (by kernel_rfl))
  f337 := Tryz.func252.trans (congrArg some (by kernel_rfl))
  f338 := Tryz.func253.trans (congrArg some (by kernel_rfl))
  t0 := Tryz.underlying0
  a0 := Tryz.isAgg0
  z0 := Tryz.sizeOf0
  v0 := Tryz.zeroValue0
  t2 := Tryz.underlying2
  a2 := Tryz.isAgg2
  z2 := Tryz.sizeOf2
  v2 := Tryz.zeroValue2
  t3 := Tryz.underlying3
  a3 := Tryz.isAgg3
  z3 := Tryz.sizeOf3
  v3 := Tryz.zeroValue3
  t4 := Tryz.underlying4
  a4 := Tryz.isAgg4
  z4 := Tryz.sizeOf4
  v4 := Tryz.zeroValue4
  t5 := Tryz.underlying5
  a5 := Tryz.isAgg5
  z5 := Tryz.sizeOf5
  v5 := Tryz.zeroValue5
  t9 := Tryz.underlying9
  a9 := Tryz.isAgg9
  z9 := Tryz.sizeOf9
  v9 := Tryz.zeroValue9
  t20 := Tryz.underlying20
  a20 := Tryz.isAgg20
  z20 := Tryz.sizeOf20
  v20 := Tryz.zeroValue20
  t21 := Tryz.underlying21
  a21 := Tryz.isAgg21
  z21 := Tryz.sizeOf21
  v21 := Tryz.zeroValue21
  t37 := Tryz.underlying210
  a37 := Tryz.isAgg210
  z37 := Tryz.sizeOf210
  v37 := Tryz.zeroValue210
  t46 := Tryz.underlying165
  a46 := Tryz.isAgg165
  z46 := Tryz.sizeOf165
  v46 := Tryz.zeroValue165
  t51 := Tryz.underlying233
  a51 := Tryz.isAgg233
  z51 := Tryz.sizeOf233
  v51 := Tryz.zeroValue233
  t53 := Tryz.underlying235
  a53 := Tryz.isAgg235
  z53 := Tryz.sizeOf235
  v53 := Tryz.zeroValue235
  t75 := Tryz.underlying105
  a75 := Tryz.isAgg105
  z75 := Tryz.sizeOf105
  v75 := Tryz.zeroValue105
  t76 := Tryz.underlying106
  a76 := Tryz.isAgg106
  z76 := Tryz.sizeOf106
  v76 := Tryz.zeroValue106
  t85 := Tryz.underlying211
  a85 := Tryz.isAgg211
  z85 := Tryz.sizeOf211
  v85 := Tryz.zeroValue211
  t127 := Tryz.underlying286
  a127 := Tryz.isAgg286
  z127 := Tryz.sizeOf286
  v127 := Tryz.zeroValue286
  t143 := Tryz.underlying294
  a143 := Tryz.isAgg294
  z143 := Tryz.sizeOf294
  v143 := Tryz.zeroValue294
  t145 := Tryz.underlying296
  a145 := Tryz.isAgg296
  z145 := Tryz.sizeOf296
  v145 := Tryz.zeroValue296
  t167 := Tryz.underlying209
  a167 := Tryz.isAgg209
  z167 := Tryz.sizeOf209
  v167 := Tryz.zeroValue209
  t168 := Tryz.underlying213
  a168 := Tryz.isAgg213
  z168 := Tryz.sizeOf213
  v168 := Tryz.zeroValue213
  t171 := Tryz.underlying282
  a171 := Tryz.isAgg282
  z171 := Tryz.sizeOf282
  v171 := Tryz.zeroValue282
  t173 := Tryz.underlying284
  a173 := Tryz.isAgg284
  z173 := Tryz.sizeOf284
  v173 := Tryz.zeroValue284
  t175 := Tryz.underlying259
  a175 := Tryz.isAgg259
  z175 := Tryz.sizeOf259
  v175 := Tryz.zeroValue259
  t210 := Tryz.underlying262
  a210 := Tryz.isAgg262
  z210 := Tryz.sizeOf262
  v210 := Tryz.zeroValue262
  t212 := Tryz.underlying304
  a212 := Tryz.isAgg304
  z212 := Tryz.sizeOf304
  v212 := Tryz.zeroValue304
  t213 := Tryz.underlying305
  a213 := Tryz.isAgg305
  z213 := Tryz.sizeOf305
  t232 := Tryz.underlying319
  a232 := Tryz.isAgg319
  z232 := Tryz.sizeOf319
  v232 := Tryz.zeroValue319
  t233 := Tryz.underlying320
  a233 := Tryz.isAgg320
  z233 := Tryz.sizeOf320
  v233 := Tryz.zeroValue320
  g15 := by kernel_rfl
  g16 := by kernel_rfl
  g17 := by kernel_rfl
  g18 := by kernel_rfl
  g19 := by kernel_rfl }
open Go.RowKit in
theorem Tryz.strconv_Atoi (s : ByteArray) (n : Int) (hl : s.size ≤ 18) (h : Lib.atoi s.data.toList = some n) (w : World) :
    Calls Tryz.prog 65 #[.string s] w fun e w' => e = .returned (.tuple #[.int .i64 n, .nilIface]) ∧ ∃ t, w' = Lib.bytesWorld w 5 t := Any.strconv_Atoi Tryz.lays172 s n hl h w
def Tryz.laysM171_ren : Go.Shelf.Ren := ⟨fun | 171 => 83 | 243 => 122 | 246 => 175 | 283 => 216 | 284 => 217 | 285 => 218 | 286 => 219 | 129 => 170 | 317 => 237 | 318 => 238 | 319 => 239 | 320 => 240 | 337 => 252 | 338 => 253 | n => n, fun | 3 => 3 | 9 => 9 | 2 => 2 | 4 => 4 | 171 => 282 | 0 => 0 | 53 => 235 | 37 => 210 | 5 => 5 | 173 => 284 | 212 => 304 | 51 => 233 | 20 => 20 | 213 => 305 | 46 => 165 | 232 => 319 | 233 => 320 | n => n, fun | 17 => 4 | 18 => 8 | 19 => 9 | n => n⟩
theorem Tryz.laysM171 : Go.Proofs.LaysM.n171 Tryz.prog Tryz.laysM171_ren := {
  mixed := by kernel_rfl
  f129 := Tryz.func170.trans (congrArg some (by kernel_rfl))
  f171 := Tryz.func83.trans (congrArg some (by kernel_rfl))
  f243 := Tryz.func122.trans (congrArg some (by kernel_rfl))
  f246 := Tryz.func175.trans (congrArg some (by kernel_rfl))
  f283 := Tryz.func216.trans (congrArg some (by kernel_rfl))
  f284 := Tryz.func217.trans (congrArg some (by kernel_rfl))
  f285 := Tryz.func218.trans (congrArg some (by kernel_rfl))
  f286 := Tryz.func219.trans (congrArg some (by kernel_rfl))
  f317 := Tryz.func237.trans (congrArg some (by kernel_rfl))
  f318 := Tryz.func238.trans (congrArg some (by kernel_rfl))
  f319 := Tryz.func239.trans (congrArg some (by kernel_rfl))
  f320 := Tryz.func240.trans (congrArg some (by kernel_rfl))
  f337 := Tryz.func252.trans (congrArg some (by kernel_rfl))
  f338 := Tryz.func253.trans (congrArg some (by kernel_rfl))
  t0 := Tryz.underlying0
  a0 := Tryz.isAgg0
  z0 := Tryz.sizeOf0
  v0 := Tryz.zeroValue0
  t2 := Tryz.underlying2
  a2 := Tryz.isAgg2
  z2 := Tryz.sizeOf2
  v2 := Tryz.zeroValue2
  t3 := Tryz.underlying3
  a3 := Tryz.isAgg3
  z3 := Tryz.sizeOf3
  v3 := Tryz.zeroValue3
  t4 := Tryz.underlying4
  a4 := Tryz.isAgg4
  z4 := Tryz.sizeOf4
  v4 := Tryz.zeroValue4
  t5 := Tryz.underlying5
  a5 := Tryz.isAgg5
  z5 := Tryz.sizeOf5
  v5 := Tryz.zeroValue5
  t9 := Tryz.underlying9
  a9 := Tryz.isAgg9
  z9 := Tryz.sizeOf9
  v9 := Tryz.zeroValue9
  t20 := Tryz.underlying20
  a20 := Tryz.isAgg20
  z20 := Tryz.sizeOf20
  v20 := Tryz.zeroValue20
  t37 := Tryz.underlying210
  a37 := Tryz.isAgg210
  z37 := Tryz.sizeOf210
  v37 := Tryz.zeroValue210
  t46 := Tryz.underlying165
  a46 := Tryz.isAgg165
  z46 := Tryz.sizeOf165
  v46 := Tryz.zeroValue165
  t51 := Tryz.underlying233
  a51 := Tryz.isAgg233
  z51 := Tryz.sizeOf233
  v51 := Tryz.zeroValue233
  t53 := Tryz.underlying235
  a53 := Tryz.isAgg235
  z53 := Tryz.sizeOf235
  v53 := Tryz.zeroValue235
  t171 := Tryz.underlying282
  a171 := Tryz.isAgg282
  z171 := Tryz.sizeOf282
  v171 := Tryz.zeroValue282
  t173 := Tryz.underlying284
  a173 := Tryz.isAgg284
  z173 := Tryz.sizeOf284
  v173 := Tryz.zeroValue284
  t212 := Tryz.underlying304
  a212 := Tryz.isAgg304
  z212 := Tryz.sizeOf304
  v212 := Tryz.zeroValue304
  t213 := Tryz.underlying305
  a213 := Tryz.isAgg305
  z213 := Tryz.sizeOf305
  t232 := Tryz.underlying319
  a232 := Tryz.isAgg319
  z232 := Tryz.sizeOf319
  v232 := Tryz.zeroValue319
  t233 := Tryz.underlying320
  a233 := Tryz.isAgg320
  z233 := Tryz.sizeOf320
  v233 := Tryz.zeroValue320
  g17 := by kernel_rfl
  g18 := by kernel_rfl
  g19 := by kernel_rfl
  i0 := by kernel_rfl
  i2 := by kernel_rfl
  i3 := by kernel_rfl
  i4 := by kernel_rfl
  i5 := by kernel_rfl
  i9 := by kernel_rfl
  i20 := by kernel_rfl
  i37 := by kernel_rfl
  i46 := by kernel_rfl
  i51 := by kernel_rfl
  i53 := by kernel_rfl
  i171 := by kernel_rfl
  i173 := by kernel_rfl
  i212 := by kernel_rfl
  i232 := by kernel_rfl
  i233 := by kernel_rfl
  m17 := by kernel_rfl
  m18 := by kernel_rfl
  m19 := by kernel_rfl }
open Go.RowKit Go.Sort Go.Lib in
theorem Tryz.strconv_Itoa (n : Int) (h0 : -9223372036854775808 ≤ n) (h1 : n ≤ 9223372036854775807) (w : World) (htab : Lib.TabIs Tryz.prog w "internal/strconv.uint64pow10" .u64 Lib.pow10Tab) :
    Calls Tryz.prog 83 #[.int .i64 n] w fun e w' => e = .returned (.string ⟨(Lib.itoa n).toArray⟩) ∧ ∃ k os, w' = grow (w.drewN k) os := Any.strconv_Itoa Tryz.laysM171 n h0 h1 w htab
def Tryz.lays144_ren : Go.Shelf.Ren := ⟨fun | 144 => 137 | 143 => 183 | 219 => 222 | 217 => 242 | 225 => 243 | 224 => 244 | 267 => 245 | 266 => 254 | 314 => 255 | n => n, fun | 9 => 9 | 4 => 4 | 3 => 3 | 5 => 5 | 46 => 165 | 146 => 287 | 51 => 233 | n => n, fun | 1 => 5 | n => n⟩
theorem Tryz.lays144 : Go.Proofs.Lays.n144 Tryz.prog Tryz.lays144_ren := {
  mixed := by kernel_rfl
  f143 := Tryz.func183.trans (congrArg some (by kernel_rfl))
  f144 := Tryz.func137.trans (congrArg some (by kernel_rfl))
  f217 := Tryz.func242.trans (congrArg some (by kernel_rfl))
  f219 := Tryz.func222.trans (congrArg some (by kernel_rfl))
  f224 := Tryz.func244.trans (congrArg some (by kernel_rfl))
  f225 := Tryz.func243.trans (congrArg some (by kernel_rfl))
  f266 := Tryz.func254.trans (congrArg some (by kernel_rfl))
  f267 := Tryz.func245.trans (congrArg some (by kernel_rfl))
  f314 := Tryz.func255.trans (congrArg some (by kernel_rfl))
  t3 := Tryz.underlying3
  a3 := Tryz.isAgg3
  z3 := Tryz.sizeOf3
  v3 := Tryz.zeroValue3
  t4 := Tryz.underlying4
  a4 := Tryz.isAgg4
  z4 := Tryz.sizeOf4
  v4 := Tryz.zeroValue4
  t5 := Tryz.underlying5
  a5 := Tryz.isAgg5
  z5 := Tryz.sizeOf5
  v5 := Tryz.zeroValue5
  t9 := Tryz.underlying9
  a9 := Tryz.isAgg9
  z9 := Tryz.sizeOf9
  v9 := Tryz.zeroValue9
  t46 := Tryz.underlying165
  a46 := Tryz.isAgg165
  z46 := Tryz.sizeOf165
  v46 := Tryz.zeroValue165
  t51 := Tryz.underlying233
  a51 := Tryz.isAgg233
  z51 := Tryz.sizeOf233
  v51 := Tryz.zeroValue233
  t146 := Tryz.underlying287
  a146 := Tryz.isAgg287
  z146 := Tryz.sizeOf287
  v146 := Tryz.zeroValue287
  g1 := by kernel_rfl }
open Go.RowKit Go.Lib in
theorem Tryz.strings_Contains (s sub : ByteArray) (m : Int) (w : World) (hs : s.size < 4294967281) (hm : w.cell? ⟨5, 0, none⟩ = some (.int .i64 m)) :
    Calls Tryz.prog 137 #[.string s, .string sub] w fun e w' => e = .returned (.bool (Lib.contains s.data.toList sub.data.toList)) ∧ w' = w := Any.strings_Contains Tryz.lays144 s sub m w hs hm
def Tryz.lays145_ren : Go.Shelf.Ren := ⟨fun | 145 => 148 | 220 => 196 | 219 => 222 | 217 => 242 | 225 => 243 | 224 => 244 | 267 => 245 | 266 => 254 | 314 => 255 | n => n, fun | 9 => 9 | 4 => 4 | 59 => 207 | 3 => 3 | 5 => 5 | 46 => 165 | 146 => 287 | 51 => 233 | n => n, fun | 1 => 5 | n => n⟩
theorem Tryz.lays145 : Go.Proofs.Lays.n145 Tryz.prog Tryz.lays145_ren := {
  mixed := by kernel_rfl
  f145 := Tryz.func148.trans (congrArg some (by kernel_rfl))
  f217 := Tryz.func242.trans (congrArg some (by kernel_rfl))
  f219 := Tryz.func222.trans (congrArg some (by kernel_rfl))
  f220 := Tryz.func196.trans (congrArg some (by kernel_rfl))
  f224 := Tryz.func244.trans (congrArg some (by kernel_rfl))
  f225 := Tryz.func243.trans (congrArg some (by kernel_rfl))
  f266 := Tryz.func254.trans (congrArg some (by kernel_rfl))
  f267 := Tryz.func245.trans (congrArg some (by kernel_rfl))
  f314 := Tryz.func255.trans (congrArg some (by kernel_rfl))
  t3 := Tryz.underlying3
  a3 := Tryz.isAgg3
  z3 := Tryz.sizeOf3
  v3 := Tryz.zeroValue3
  t4 := Tryz.underlying4
  a4 := Tryz.isAgg4
  z4 := Tryz.sizeOf4
  v4 := Tryz.zeroValue4
  t5 := Tryz.underlying5
  a5 := Tryz.isAgg5
  z5 := Tryz.sizeOf5
  v5 := Tryz.zeroValue5
  t9 := Tryz.underlying9
  a9 := Tryz.isAgg9
  z9 := Tryz.sizeOf9
  v9 := Tryz.zeroValue9
  t46 := Tryz.underlying165
  a46 := Tryz.isAgg165
  z46 := Tryz.sizeOf165
  v46 := Tryz.zeroValue165
  t51 := Tryz.underlying233
  a51 := Tryz.isAgg233
  z51 := Tryz.sizeOf233
  v51 := Tryz.zeroValue233
  t59 := Tryz.underlying207
  a59 := Tryz.isAgg207
  z59 := Tryz.sizeOf207
  v59 := Tryz.zeroValue207
  t146 := Tryz.underlying287
  a146 := Tryz.isAgg287
  z146 := Tryz.sizeOf287
  v146 := Tryz.zeroValue287
  g1 := by kernel_rfl }
open Go.RowKit Go.Lib in
theorem Tryz.strings_Cut (s sep : ByteArray) (m : Int) (w : World) (hs : s.size < 4294967281) (hm : w.cell? ⟨5, 0, none⟩ = some (.int .i64 m)) :
    Calls Tryz.prog 148 #[.string s, .string sep] w fun e w' => e = .returned (.tuple #[.string ⟨(Lib.cut s.data.toList sep.data.toList).1.toArray⟩, .string ⟨(Lib.cut s.data.toList sep.data.toList).2.1.toArray⟩, .bool (Lib.cut s.data.toList sep.data.toList).2.2]) ∧ ∃ n, w' = w.drewN n := Any.strings_Cut Tryz.lays145 s sep m w hs hm
def Tryz.lays99_ren : Go.Shelf.Ren := ⟨fun | 99 => 50 | 206 => 92 | n => n, fun | 9 => 9 | 4 => 4 | 3 => 3 | n => n, fun | n => n⟩
theorem Tryz.lays99 : Go.Proofs.Lays.n99 Tryz.prog Tryz.lays99_ren := {
  mixed := by kernel_rfl
  f99 := Tryz.func50.trans (congrArg some (by kernel_rfl))
  f206 := Tryz.func92.trans (congrArg some (by kernel_rfl))
  t3 := Tryz.underlying3
  a3 := Tryz.isAgg3
  z3 := Tryz.sizeOf3
  v3 := Tryz.zeroValue3
  t4 := Tryz.underlying4
  a4 := Tryz.isAgg4
  z4 := Tryz.sizeOf4
  v4 := Tryz.zeroValue4
  t9 := Tryz.underlying9
  a9 := Tryz.isAgg9
  z9 := Tryz.sizeOf9
  v9 := Tryz.zeroValue9 }
open Go.RowKit Go.Lib in
theorem Tryz.strings_HasPrefix (s p : ByteArray) (w : World) :
    Calls Tryz.prog 50 #[.string s, .string p] w fun e w' => e = .returned (.bool (Lib.hasPrefix s.data.toList p.data.toList)) ∧ w' = w := Any.strings_HasPrefix Tryz.lays99 s p w
def Tryz.lays101_ren : Go.Shelf.Ren := ⟨fun | 101 => 48 | 208 => 89 | 206 => 92 | n => n, fun | 9 => 9 | 4 => 4 | 3 => 3 | n => n, fun | n => n⟩
theorem Tryz.lays101 : Go.Proofs.Lays.n101 Tryz.prog Tryz.lays101_ren := {
  mixed := by kernel_rfl
  f101 := Tryz.func48.trans (congrArg some (by kernel_rfl))
  f206 := Tryz.func92.trans (congrArg some (by kernel_rfl))
  f208 := Tryz.func89.trans (congrArg some (by kernel_rfl))
  t3 := Tryz.underlying3
  a3 := Tryz.isAgg3
  z3 := Tryz.sizeOf3
  v3 := Tryz.zeroValue3
  t4 := Tryz.underlying4
  a4 := Tryz.isAgg4
  z4 := Tryz.sizeOf4
  v4 := Tryz.zeroValue4
  t9 := Tryz.underlying9
  a9 := Tryz.isAgg9
  z9 := Tryz.sizeOf9
  v9 := Tryz.zeroValue9 }
open Go.RowKit Go.Lib in
theorem Tryz.strings_TrimPrefix (s p : ByteArray) (w : World) :
    Calls Tryz.prog 48 #[.string s, .string p] w fun e w' => e = .returned (.string ⟨(Lib.trimPrefix s.data.toList p.data.toList).toArray⟩) ∧ w' = w := Any.strings_TrimPrefix Tryz.lays101 s p w
end Go.Proofs
