/-
  The library's contracts at this program: laid by the kit's tools lay-shelf.mjs and lay-plain.mjs, cut down by dev_prune.py.
-/
import Derived.Test.YtedijdmenfcjlaaGreatDoorProg
import Derived.Shelf.Strings.Builder1
import Derived.Shelf.Strings.Builder2
import Derived.Shelf.Strings.Trim
import Derived.Shelf.Small.Utf8
import Derived.Shelf.Small.Bits
import Derived.Shelf.Small.Strs
import Derived.Shelf.Small.Wraps
import Derived.Shelf.Strings.BuilderF
import Derived.Shelf.Strings.BuilderK
import Derived.Shelf.Strings.Builder2Cap
import Derived.Shelf.Strconv.Atoi
import Derived.Shelf.Strconv.Itoa0
import Derived.Shelf.Strconv.Itoa1
import Derived.Shelf.LaysM
import Derived.Shelf.Strconv.Itoa2
import Derived.Shelf.Strconv.Itoa3
import Derived.Shelf.Strconv.AtoiErrFast
import Derived.Shelf.Strconv.ParseIntEmpty
import Derived.Shelf.Strconv.AtoiFail
import Derived.Shelf.Strconv.Clone
import Derived.Shelf.Strconv.SyntaxError
import Derived.Shelf.LaysC
import Derived.Shelf.Strconv.ToError
import Derived.Shelf.Strconv.Lower
import Derived.Shelf.Strconv.ParseUint10
import Derived.Shelf.Strconv.ParseUint10Empty
import Derived.Shelf.Strconv.ParseUint10Any
import Derived.Shelf.Strconv.ParseInt10
import Derived.Shelf.Strconv.AtoiLong
import Derived.Shelf.Strconv.AtoiInnerAll
import Derived.Shelf.Strconv.RangeError
import Derived.Shelf.Strconv.ToErrorRange
import Derived.Shelf.Strconv.AtoiAll
import Derived.Shelf.Strconv.ErrVarAll
import Derived.Shelf.Strings.Search1
import Derived.Shelf.Strings.Search2
import Derived.Shelf.Strings.Search3
import Derived.Shelf.Strings.Cut
import Derived.Shelf.Strings.Shaped
import Derived.Shelf.Strings.Prefix
import Derived.Shelf.Strings.Runes
import Derived.Shelf.Strings.AsciiSet
import Derived.Shelf.Bits.Mul64
import Derived.Shelf.Strings.Repeat
import Derived.Shelf.Unicode.DecodeSlow
namespace Go.Proofs
open Go.Shelf
def Tryz.lays169_ren : Go.Shelf.Ren := ⟨fun | 169 => 153 | n => n, fun | 70 => 220 | 9 => 9 | 0 => 0 | 72 => 223 | 37 => 221 | 127 => 256 | 3 => 3 | 5 => 5 | n => n, fun | n => n⟩
theorem Tryz.lays169 : Go.Proofs.Lays.n169 Tryz.prog Tryz.lays169_ren := {
 mixed := by kernel_rfl
 f169 := Tryz.func153.trans (congrArg some (by kernel_rfl))
 t0 := Tryz.underlying0
 a0 := Tryz.isAgg0
 z0 := Tryz.sizeOf0
 v0 := Tryz.zeroValue0
 t3 := Tryz.underlying3
 a3 := Tryz.isAgg3
 z3 := Tryz.sizeOf3
 v3 := Tryz.zeroValue3
 t9 := Tryz.underlying9
 a9 := Tryz.isAgg9
 z9 := Tryz.sizeOf9
 v9 := Tryz.zeroValue9
 t37 := Tryz.underlying221
 a37 := Tryz.isAgg221
 z37 := Tryz.sizeOf221
 v37 := Tryz.zeroValue221
 t70 := Tryz.underlying220
 a70 := Tryz.isAgg220
 z70 := Tryz.sizeOf220
 v70 := Tryz.zeroValue220
 t72 := Tryz.underlying223
 a72 := Tryz.isAgg223
 z72 := Tryz.sizeOf223
 v72 := Tryz.zeroValue223
 t127 := Tryz.underlying256
 a127 := Tryz.isAgg256
 z127 := Tryz.sizeOf256
 v127 := Tryz.zeroValue256 }
theorem Tryz.Builder_Extra_169 : Builder.Extra Tryz.prog Tryz.lays169_ren := {
 sizeBuilder := by kernel_rfl
 liesBuilder := by kernel_rfl
 t5 := Tryz.underlying5
 a5 := Tryz.isAgg5
 z5 := Tryz.sizeOf5
 v5 := Tryz.zeroValue5
 infoByte := by kernel_rfl
 cellsByte := by kernel_rfl
 sizeByte := by kernel_rfl
 neB5 := by decide }
def Tryz.lays160_ren : Go.Shelf.Ren := ⟨fun | 160 => 177 | 232 => 206 | 231 => 205 | 227 => 207 | 234 => 209 | 233 => 208 | 236 => 211 | 235 => 210 | 228 => 231 | 271 => 234 | 151 => 233 | 197 => 232 | 120 => 246 | 152 => 245 | 260 => 244 | 137 => 252 | 119 => 253 | 224 => 229 | 225 => 228 | 217 => 227 | 266 => 242 | n => n, fun | 9 => 9 | 4 => 4 | 3 => 3 | 5 => 5 | 117 => 271 | 116 => 270 | 0 => 0 | 124 => 274 | 21 => 21 | 105 => 290 | 46 => 140 | 119 => 311 | 139 => 314 | 138 => 313 | n => n, fun | 3 => 8 | 4 => 9 | n => n⟩
theorem Tryz.lays160 : Go.Proofs.Lays.n160 Tryz.prog Tryz.lays160_ren := {
 mixed := by kernel_rfl
 f119 := Tryz.func253.trans (congrArg some (by kernel_rfl))
 f120 := Tryz.func246.trans (congrArg some (by kernel_rfl))
 f137 := Tryz.func252.trans (congrArg some (by kernel_rfl))
 f151 := Tryz.func233.trans (congrArg some (by kernel_rfl))
 f152 := Tryz.func245.trans (congrArg some (by kernel_rfl))
 f160 := Tryz.func177.trans (congrArg some (by kernel_rfl))
 f197 := Tryz.func232.trans (congrArg some (by kernel_rfl))
 f217 := Tryz.func227.trans (congrArg some (by kernel_rfl))
 f224 := Tryz.func229.trans (congrArg some (by kernel_rfl))
 f225 := Tryz.func228.trans (congrArg some (by kernel_rfl))
 f227 := Tryz.func207.trans (congrArg some (by kernel_rfl))
 f228 := Tryz.func231.trans (congrArg some (by kernel_rfl))
 f231 := Tryz.func205.trans (congrArg some (by kernel_rfl))
 f232 := Tryz.func206.trans (congrArg some (by kernel_rfl))
 f233 := Tryz.func208.trans (congrArg some (by kernel_rfl))
 f234 := Tryz.func209.trans (congrArg some (by kernel_rfl))
 f235 := Tryz.func210.trans (congrArg some (by kernel_rfl))
 f236 := Tryz.func211.trans (congrArg some (by kernel_rfl))
 f260 := Tryz.func244.trans (congrArg some (by kernel_rfl))
 f266 := Tryz.func242.trans (congrArg some (by kernel_rfl))
 f271 := Tryz.func234.trans (congrArg some (by kernel_rfl))
 t0 := Tryz.underlying0
 a0 := Tryz.isAgg0
 z0 := Tryz.sizeOf0
 v0 := Tryz.zeroValue0
 t3 := Tryz.underlying3
 a3 := Tryz.isAgg3
 z3 := Tryz.sizeOf3
 v3 := Tryz.zeroValue3
 t4 := Tryz.underlying4
 a4 := Tryz.isAgg4
 z4 := Tryz.sizeOf4
 v4 := Tryz.zeroValue4
 t5 := Tryz.underlying5
 a5 := Tryz.isAgg5
 z5 := Tryz.sizeOf5
 v5 := Tryz.zeroValue5
 t9 := Tryz.underlying9
 a9 := Tryz.isAgg9
 z9 := Tryz.sizeOf9
 v9 := Tryz.zeroValue9
 t21 := Tryz.underlying21
 a21 := Tryz.isAgg21
 z21 := Tryz.sizeOf21
 v21 := Tryz.zeroValue21
 t46 := Tryz.underlying140
 a46 := Tryz.isAgg140
 z46 := Tryz.sizeOf140
 v46 := Tryz.zeroValue140
 t105 := Tryz.underlying290
 a105 := Tryz.isAgg290
 z105 := Tryz.sizeOf290
 v105 := Tryz.zeroValue290
 t116 := Tryz.underlying270
 a116 := Tryz.isAgg270
 z116 := Tryz.sizeOf270
 t117 := Tryz.underlying271
 a117 := Tryz.isAgg271
 z117 := Tryz.sizeOf271
 v117 := Tryz.zeroValue271
 t119 := Tryz.underlying311
 a119 := Tryz.isAgg311
 z119 := Tryz.sizeOf311
 t124 := Tryz.underlying274
 a124 := Tryz.isAgg274
 z124 := Tryz.sizeOf274
 v124 := Tryz.zeroValue274
 t138 := Tryz.underlying313
 a138 := Tryz.isAgg313
 z138 := Tryz.sizeOf313
 v138 := Tryz.zeroValue313
 t139 := Tryz.underlying314
 a139 := Tryz.isAgg314
 z139 := Tryz.sizeOf314
 v139 := Tryz.zeroValue314
 g3 := by kernel_rfl
 g4 := by kernel_rfl }
def Tryz.lays125_ren : Go.Shelf.Ren := ⟨fun | 125 => 83 | 128 => 136 | 129 => 137 | n => n, fun | 46 => 140 | 3 => 3 | 51 => 200 | 53 => 202 | 4 => 4 | 5 => 5 | 9 => 9 | n => n, fun | n => n⟩
theorem Tryz.lays125 : Go.Proofs.Lays.n125 Tryz.prog Tryz.lays125_ren := {
 mixed := by kernel_rfl
 f125 := Tryz.func83.trans (congrArg some (by kernel_rfl))
 f128 := Tryz.func136.trans (congrArg some (by kernel_rfl))
 f129 := Tryz.func137.trans (congrArg some (by kernel_rfl))
 t3 := Tryz.underlying3
 a3 := Tryz.isAgg3
 z3 := Tryz.sizeOf3
 v3 := Tryz.zeroValue3
 t4 := Tryz.underlying4
 a4 := Tryz.isAgg4
 z4 := Tryz.sizeOf4
 v4 := Tryz.zeroValue4
 t5 := Tryz.underlying5
 a5 := Tryz.isAgg5
 z5 := Tryz.sizeOf5
 v5 := Tryz.zeroValue5
 t9 := Tryz.underlying9
 a9 := Tryz.isAgg9
 z9 := Tryz.sizeOf9
 v9 := Tryz.zeroValue9
 t46 := Tryz.underlying140
 a46 := Tryz.isAgg140
 z46 := Tryz.sizeOf140
 v46 := Tryz.zeroValue140
 t51 := Tryz.underlying200
 a51 := Tryz.isAgg200
 z51 := Tryz.sizeOf200
 v51 := Tryz.zeroValue200
 t53 := Tryz.underlying202
 a53 := Tryz.isAgg202
 z53 := Tryz.sizeOf202
 v53 := Tryz.zeroValue202 }
theorem Tryz.bits_Len (x : Int) (w : World) (h0 : 0 ≤ x) (h1 : x ≤ 18446744073709551615) :
  Calls Tryz.prog 83 #[.int .u64 x] w fun e w' => e = .returned (.int .i64 (Lib.bitLen x.toNat)) ∧ w' = w := Any.bits_Len Tryz.lays125 x w h0 h1
def Tryz.lays103_ren : Go.Shelf.Ren := ⟨fun | 103 => 145 | 210 => 183 | 206 => 65 | n => n, fun | 9 => 9 | 4 => 4 | 24 => 189 | 3 => 3 | n => n, fun | n => n⟩
theorem Tryz.lays103 : Go.Proofs.Lays.n103 Tryz.prog Tryz.lays103_ren := {
 mixed := by kernel_rfl
 f103 := Tryz.func145.trans (congrArg some (by kernel_rfl))
 f206 := Tryz.func65.trans (congrArg some (by kernel_rfl))
 f210 := Tryz.func183.trans (congrArg some (by kernel_rfl))
 t3 := Tryz.underlying3
 a3 := Tryz.isAgg3
 z3 := Tryz.sizeOf3
 v3 := Tryz.zeroValue3
 t4 := Tryz.underlying4
 a4 := Tryz.isAgg4
 z4 := Tryz.sizeOf4
 v4 := Tryz.zeroValue4
 t9 := Tryz.underlying9
 a9 := Tryz.isAgg9
 z9 := Tryz.sizeOf9
 v9 := Tryz.zeroValue9
 t24 := Tryz.underlying189
 a24 := Tryz.isAgg189
 z24 := Tryz.sizeOf189
 v24 := Tryz.zeroValue189 }
open Go.RowKit in
theorem Tryz.strings_CutPrefix (s p : ByteArray) (w : World) :
  Calls Tryz.prog 145 #[.string s, .string p] w fun e w' => e = .returned (.tuple #[.string ⟨(Lib.trimPrefix s.data.toList p.data.toList).toArray⟩, .bool (Lib.hasPrefix s.data.toList p.data.toList)]) ∧ w' = w := Any.strings_CutPrefix Tryz.lays103 s p w
def Tryz.lays122_ren : Go.Shelf.Ren := ⟨fun | 122 => 63 | 215 => 106 | n => n, fun | 3 => 3 | 4 => 4 | n => n, fun | n => n⟩
theorem Tryz.lays122 : Go.Proofs.Lays.n122 Tryz.prog Tryz.lays122_ren := {
 mixed := by kernel_rfl
 f122 := Tryz.func63.trans (congrArg some (by kernel_rfl))
 f215 := Tryz.func106.trans (congrArg some (by kernel_rfl))
 t3 := Tryz.underlying3
 a3 := Tryz.isAgg3
 z3 := Tryz.sizeOf3
 v3 := Tryz.zeroValue3
 t4 := Tryz.underlying4
 a4 := Tryz.isAgg4
 z4 := Tryz.sizeOf4
 v4 := Tryz.zeroValue4 }
open Go.RowKit in
theorem Tryz.cmp_Compare_int (x y : Int) (w : World) :
  Calls Tryz.prog 63 #[.int .i64 x, .int .i64 y] w fun e w' => e = .returned (.int .i64 (Lib.compareInt x y)) ∧ w' = w := Any.cmp_Compare_int Tryz.lays122 x y w
def Tryz.lays172_ren : Go.Shelf.Ren := ⟨fun | 172 => 139 | 244 => 178 | 245 => 179 | 247 => 212 | 279 => 213 | 280 => 214 | 281 => 215 | 282 => 216 | 287 => 235 | 316 => 236 | 171 => 70 | 205 => 237 | 321 => 247 | 322 => 248 | 243 => 114 | 246 => 166 | 283 => 199 | 284 => 200 | 285 => 201 | 286 => 202 | 129 => 137 | 317 => 223 | 318 => 224 | 319 => 225 | 320 => 226 | 337 => 240 | 338 => 241 | n => n, fun | 9 => 9 | 3 => 3 | 75 => 205 | 76 => 206 | 4 => 4 | 5 => 5 | 167 => 275 | 37 => 221 | 0 => 0 | 85 => 276 | 2 => 2 | 168 => 278 | 53 => 202 | 175 => 293 | 46 => 140 | 210 => 296 | 127 => 256 | 145 => 305 | 143 => 303 | 21 => 21 | 171 => 262 | 173 => 264 | 212 => 286 | 51 => 200 | 20 => 20 | 213 => 287 | 232 => 309 | 233 => 310 | 80 => 226 | n => n, fun | 15 => 4 | 16 => 5 | 17 => 2 | 18 => 6 | 19 => 7 | n => n⟩
theorem Tryz.lays172 : Go.Proofs.Lays.n172 Tryz.prog Tryz.lays172_ren := {
 mixed := by kernel_rfl
 f129 := Tryz.func137.trans (congrArg some (by kernel_rfl))
 f171 := Tryz.func70.trans (congrArg some (by kernel_rfl))
 f172 := Tryz.func139.trans (congrArg some (by kernel_rfl))
 f205 := Tryz.func237.trans (congrArg some (by kernel_rfl))
 f243 := Tryz.func114.trans (congrArg some (by kernel_rfl))
 f244 := Tryz.func178.trans (congrArg some (by kernel_rfl))
 f245 := Tryz.func179.trans (congrArg some (by kernel_rfl))
 f246 := Tryz.func166.trans (congrArg some (by kernel_rfl))
 f247 := Tryz.func212.trans (congrArg some (by kernel_rfl))
 f279 := Tryz.func213.trans (congrArg some (by kernel_rfl))
 f280 := Tryz.func214.trans (congrArg some (by kernel_rfl))
 f281 := Tryz.func215.trans (congrArg some (by kernel_rfl))
 f282 := Tryz.func216.trans (congrArg some (by kernel_rfl))
 f283 := Tryz.func199.trans (congrArg some (by kernel_rfl))
 f284 := Tryz.func200.trans (congrArg some (by kernel_rfl))
 f285 := Tryz.func201.trans (congrArg some (by kernel_rfl))
 f286 := Tryz.func202.trans (congrArg some (by kernel_rfl))
 f287 := Tryz.func235.trans (congrArg some (by kernel_rfl))
 f316 := Tryz.func236.trans (congrArg some (by kernel_rfl))
 f317 := Tryz.func223.trans (congrArg some (by kernel_rfl))
 f318 := Tryz.func224.trans (congrArg some (by kernel_rfl))
 f319 := Tryz.func225.trans (congrArg some (by kernel_rfl))
 f320 := Tryz.func226.trans (congrArg some (by kernel_rfl))
 f321 := Tryz.func247.trans (congrArg some (by kernel_rfl))
 f322 := Tryz.func248.trans (congrArg some (by kernel_rfl))
 f337 := Tryz.func240.trans (congrArg some (by kernel_rfl))
 f338 := Tryz.func241.trans (congrArg some (by kernel_rfl))
 t0 := Tryz.underlying0
 a0 := Tryz.isAgg0
 z0 := Tryz.sizeOf0
 v0 := Tryz.zeroValue0
 t2 := Tryz.underlying2
 a2 := Tryz.isAgg2
 z2 := Tryz.sizeOf2
 v2 := Tryz.zeroValue2
 t3 := Tryz.underlying3
 a3 := Tryz.isAgg3
 z3 := Tryz.sizeOf3
 v3 := Tryz.zeroValue3
 t4 := Tryz.underlying4
 a4 := Tryz.isAgg4
 z4 := Tryz.sizeOf4
 v4 := Tryz.zeroValue4
 t5 := Tryz.underlying5
 a5 := Tryz.isAgg5
 z5 := Tryz.sizeOf5
 v5 := Tryz.zeroValue5
 t9 := Tryz.underlying9
 a9 := Tryz.isAgg9
 z9 := Tryz.sizeOf9
 v9 := Tryz.zeroValue9
 t20 := Tryz.underlying20
 a20 := Tryz.isAgg20
 z20 := Tryz.sizeOf20
 v20 := Tryz.zeroValue20
 t21 := Tryz.underlying21
 a21 := Tryz.isAgg21
 z21 := Tryz.sizeOf21
 v21 := Tryz.zeroValue21
 t37 := Tryz.underlying221
 a37 := Tryz.isAgg221
 z37 := Tryz.sizeOf221
 v37 := Tryz.zeroValue221
 t46 := Tryz.underlying140
 a46 := Tryz.isAgg140
 z46 := Tryz.sizeOf140
 v46 := Tryz.zeroValue140
 t51 := Tryz.underlying200
 a51 := Tryz.isAgg200
 z51 := Tryz.sizeOf200
 v51 := Tryz.zeroValue200
 t53 := Tryz.underlying202
 a53 := Tryz.isAgg202
 z53 := Tryz.sizeOf202
 v53 := Tryz.zeroValue202
 t75 := Tryz.underlying205
 a75 := Tryz.isAgg205
 z75 := Tryz.sizeOf205
 v75 := Tryz.zeroValue205
 t76 := Tryz.underlying206
 a76 := Tryz.isAgg206
 z76 := Tryz.sizeOf206
 v76 := Tryz.zeroValue206
 t85 := Tryz.underlying276
 a85 := Tryz.isAgg276
 z85 := Tryz.sizeOf276
 v85 := Tryz.zeroValue276
 t127 := Tryz.underlying256
 a127 := Tryz.isAgg256
 z127 := Tryz.sizeOf256
 v127 := Tryz.zeroValue256
 t143 := Tryz.underlying303
 a143 := Tryz.isAgg303
 z143 := Tryz.sizeOf303
 v143 := Tryz.zeroValue303
 t145 := Tryz.underlying305
 a145 := Tryz.isAgg305
 z145 := Tryz.sizeOf305
 v145 := Tryz.zeroValue305
 t167 := Tryz.underlying275
 a167 := Tryz.isAgg275
 z167 := Tryz.sizeOf275
 v167 := Tryz.zeroValue275
 t168 := Tryz.underlying278
 a168 := Tryz.isAgg278
 z168 := Tryz.sizeOf278
 v168 := Tryz.zeroValue278
 t171 := Tryz.underlying262
 a171 := Tryz.isAgg262
 z171 := Tryz.sizeOf262
 v171 := Tryz.zeroValue262
 t173 := Tryz.underlying264
 a173 := Tryz.isAgg264
 z173 := Tryz.sizeOf264
 v173 := Tryz.zeroValue264
 t175 := Tryz.underlying293
 a175 := Tryz.isAgg293
 z175 := Tryz.sizeOf293
 v175 := Tryz.zeroValue293
 t210 := Tryz.underlying296
 a210 := Tryz.isAgg296
 z210 := Tryz.sizeOf296
 v210 := Tryz.zeroValue296
 t212 := Tryz.underlying286
 a212 := Tryz.isAgg286
 z212 := Tryz.sizeOf286
 v212 := Tryz.zeroValue286
 t213 := Tryz.underlying287
 a213 := Tryz.isAgg287
 z213 := Tryz.sizeOf287
 t232 := Tryz.underlying309
 a232 := Tryz.isAgg309
 z232 := Tryz.sizeOf309
 v232 := Tryz.zeroValue309
 t233 := Tryz.underlying310
 a233 := Tryz.isAgg310
 z233 := Tryz.sizeOf310
 v233 := Tryz.zeroValue310
 g15 := by kernel_rfl
 g16 := by kernel_rfl
 g17 := by kernel_rfl
 g18 := by kernel_rfl
 g19 := by kernel_rfl }
open Go.RowKit in
theorem Tryz.strconv_Atoi (s : ByteArray) (n : Int) (hl : s.size ≤ 18) (h : Lib.atoi s.data.toList = some n) (w : World) :
  Calls Tryz.prog 139 #[.string s] w fun e w' => e = .returned (.tuple #[.int .i64 n, .nilIface]) ∧ ∃ t, w' = Lib.bytesWorld w 5 t := Any.strconv_Atoi Tryz.lays172 s n hl h w
def Tryz.laysM171_ren : Go.Shelf.Ren := ⟨fun | 171 => 70 | 243 => 114 | 246 => 166 | 283 => 199 | 284 => 200 | 285 => 201 | 286 => 202 | 129 => 137 | 317 => 223 | 318 => 224 | 319 => 225 | 320 => 226 | 337 => 240 | 338 => 241 | n => n, fun | 3 => 3 | 9 => 9 | 2 => 2 | 4 => 4 | 171 => 262 | 0 => 0 | 53 => 202 | 37 => 221 | 5 => 5 | 173 => 264 | 212 => 286 | 51 => 200 | 20 => 20 | 213 => 287 | 46 => 140 | 232 => 309 | 233 => 310 | n => n, fun | 17 => 2 | 18 => 6 | 19 => 7 | n => n⟩
theorem Tryz.laysM171 : Go.Proofs.LaysM.n171 Tryz.prog Tryz.laysM171_ren := {
 mixed := by kernel_rfl
 f129 := Tryz.func137.trans (congrArg some (by kernel_rfl))
 f171 := Tryz.func70.trans (congrArg some (by kernel_rfl))
 f243 := Tryz.func114.trans (congrArg some (by kernel_rfl))
 f246 := Tryz.func166.trans (congrArg some (by kernel_rfl))
 f283 := Tryz.func199.trans (congrArg some (by kernel_rfl))
 f284 := Tryz.func200.trans (congrArg some (by kernel_rfl))
 f285 := Tryz.func201.trans (congrArg some (by kernel_rfl))
 f286 := Tryz.func202.trans (congrArg some (by kernel_rfl))
 f317 := Tryz.func223.trans (congrArg some (by kernel_rfl))
 f318 := Tryz.func224.trans (congrArg some (by kernel_rfl))
 f319 := Tryz.func225.trans (congrArg some (by kernel_rfl))
 f320 := Tryz.func226.trans (congrArg some (by kernel_rfl))
 f337 := Tryz.func240.trans (congrArg some (by kernel_rfl))
 f338 := Tryz.func241.trans (congrArg some (by kernel_rfl))
 t0 := Tryz.underlying0
 a0 := Tryz.isAgg0
 z0 := Tryz.sizeOf0
 v0 := Tryz.zeroValue0
 t2 := Tryz.underlying2
 a2 := Tryz.isAgg2
 z2 := Tryz.sizeOf2
 v2 := Tryz.zeroValue2
 t3 := Tryz.underlying3
 a3 := Tryz.isAgg3
 z3 := Tryz.sizeOf3
 v3 := Tryz.zeroValue3
 t4 := Tryz.underlying4
 a4 := Tryz.isAgg4
 z4 := Tryz.sizeOf4
 v4 := Tryz.zeroValue4
 t5 := Tryz.underlying5
 a5 := Tryz.isAgg5
 z5 := Tryz.sizeOf5
 v5 := Tryz.zeroValue5
 t9 := Tryz.underlying9
 a9 := Tryz.isAgg9
 z9 := Tryz.sizeOf9
 v9 := Tryz.zeroValue9
 t20 := Tryz.underlying20
 a20 := Tryz.isAgg20
 z20 := Tryz.sizeOf20
 v20 := Tryz.zeroValue20
 t37 := Tryz.underlying221
 a37 := Tryz.isAgg221
 z37 := Tryz.sizeOf221
 v37 := Tryz.zeroValue221
 t46 := Tryz.underlying140
 a46 := Tryz.isAgg140
 z46 := Tryz.sizeOf140
 v46 := Tryz.zeroValue140
 t51 := Tryz.underlying200
 a51 := Tryz.isAgg200
 z51 := Tryz.sizeOf200
 v51 := Tryz.zeroValue200
 t53 := Tryz.underlying202
 a53 := Tryz.isAgg202
 z53 := Tryz.sizeOf202
 v53 := Tryz.zeroValue202
 t171 := Tryz.underlying262
 a171 := Tryz.isAgg262
 z171 := Tryz.sizeOf262
 v171 := Tryz.zeroValue262
 t173 := Tryz.underlying264
 a173 := Tryz.isAgg264
 z173 := Tryz.sizeOf264
 v173 := Tryz.zeroValue264
 t212 := Tryz.underlying286
 a212 := Tryz.isAgg286
 z212 := Tryz.sizeOf286
 v212 := Tryz.zeroValue286
 t213 := Tryz.underlying287
 a213 := Tryz.isAgg287
 z213 := Tryz.sizeOf287
 t232 := Tryz.underlying309
 a232 := Tryz.isAgg309
 z232 := Tryz.sizeOf309
 v232 := Tryz.zeroValue309
 t233 := Tryz.underlying310
 a233 := Tryz.isAgg310
 z233 := Tryz.sizeOf310
 v233 := Tryz.zeroValue310
 g17 := by kernel_rfl
 g18 := by kernel_rfl
 g19 := by kernel_rfl
 i0 := by kernel_rfl
 i2 := by kernel_rfl
 i3 := by kernel_rfl
 i4 := by kernel_rfl
 i5 := by kernel_rfl
 i9 := by kernel_rfl
 i20 := by kernel_rfl
 i37 := by kernel_rfl
 i46 := by kernel_rfl
 i51 := by kernel_rfl
 i53 := by kernel_rfl
 i171 := by kernel_rfl
 i173 := by kernel_rfl
 i212 := by kernel_rfl
 i232 := by kernel_rfl
 i233 := by kernel_rfl
 m17 := by kernel_rfl
 m18 := by kernel_rfl
 m19 := by kernel_rfl }
open Go.RowKit Go.Sort Go.Lib in
theorem Tryz.strconv_Itoa (n : Int) (h0 : -9223372036854775808 ≤ n) (h1 : n ≤ 9223372036854775807) (w : World) (htab : Lib.TabIs Tryz.prog w "internal/strconv.uint64pow10" .u64 Lib.pow10Tab) :
  Calls Tryz.prog 70 #[.int .i64 n] w fun e w' => e = .returned (.string ⟨(Lib.itoa n).toArray⟩) ∧ ∃ k os, w' = grow (w.drewN k) os := Any.strconv_Itoa Tryz.laysM171 n h0 h1 w htab
def Tryz.lays144_ren : Go.Shelf.Ren := ⟨fun | 144 => 117 | 143 => 167 | 219 => 203 | 217 => 227 | 225 => 228 | 224 => 229 | 267 => 230 | 266 => 242 | 314 => 243 | n => n, fun | 9 => 9 | 4 => 4 | 3 => 3 | 5 => 5 | 46 => 140 | 146 => 252 | 51 => 200 | n => n, fun | 1 => 3 | n => n⟩
theorem Tryz.lays144 : Go.Proofs.Lays.n144 Tryz.prog Tryz.lays144_ren := {
 mixed := by kernel_rfl
 f143 := Tryz.func167.trans (congrArg some (by kernel_rfl))
 f144 := Tryz.func117.trans (congrArg some (by kernel_rfl))
 f217 := Tryz.func227.trans (congrArg some (by kernel_rfl))
 f219 := Tryz.func203.trans (congrArg some (by kernel_rfl))
 f224 := Tryz.func229.trans (congrArg some (by kernel_rfl))
 f225 := Tryz.func228.trans (congrArg some (by kernel_rfl))
 f266 := Tryz.func242.trans (congrArg some (by kernel_rfl))
 f267 := Tryz.func230.trans (congrArg some (by kernel_rfl))
 f314 := Tryz.func243.trans (congrArg some (by kernel_rfl))
 t3 := Tryz.underlying3
 a3 := Tryz.isAgg3
 z3 := Tryz.sizeOf3
 v3 := Tryz.zeroValue3
 t4 := Tryz.underlying4
 a4 := Tryz.isAgg4
 z4 := Tryz.sizeOf4
 v4 := Tryz.zeroValue4
 t5 := Tryz.underlying5
 a5 := Tryz.isAgg5
 z5 := Tryz.sizeOf5
 v5 := Tryz.zeroValue5
 t9 := Tryz.underlying9
 a9 := Tryz.isAgg9
 z9 := Tryz.sizeOf9
 v9 := Tryz.zeroValue9
 t46 := Tryz.underlying140
 a46 := Tryz.isAgg140
 z46 := Tryz.sizeOf140
 v46 := Tryz.zeroValue140
 t51 := Tryz.underlying200
 a51 := Tryz.isAgg200
 z51 := Tryz.sizeOf200
 v51 := Tryz.zeroValue200
 t146 := Tryz.underlying252
 a146 := Tryz.isAgg252
 z146 := Tryz.sizeOf252
 v146 := Tryz.zeroValue252
 g1 := by kernel_rfl }
open Go.RowKit Go.Lib in
theorem Tryz.strings_Contains (s sub : ByteArray) (m : Int) (w : World) (hs : s.size < 4294967281) (hm : w.cell? ⟨3, 0, none⟩ = some (.int .i64 m)) :
  Calls Tryz.prog 117 #[.string s, .string sub] w fun e w' => e = .returned (.bool (Lib.contains s.data.toList sub.data.toList)) ∧ w' = w := Any.strings_Contains Tryz.lays144 s sub m w hs hm
def Tryz.lays145_ren : Go.Shelf.Ren := ⟨fun | 145 => 162 | 220 => 198 | 219 => 203 | 217 => 227 | 225 => 228 | 224 => 229 | 267 => 230 | 266 => 242 | 314 => 243 | n => n, fun | 9 => 9 | 4 => 4 | 59 => 231 | 3 => 3 | 5 => 5 | 46 => 140 | 146 => 252 | 51 => 200 | n => n, fun | 1 => 3 | n => n⟩
theorem Tryz.lays145 : Go.Proofs.Lays.n145 Tryz.prog Tryz.lays145_ren := {
 mixed := by kernel_rfl
 f145 := Tryz.func162.trans (congrArg some (by kernel_rfl))
 f217 := Tryz.func227.trans (congrArg some (by kernel_rfl))
 f219 := Tryz.func203.trans (congrArg some (by kernel_rfl))
 f220 := Tryz.func198.trans (congrArg some (by kernel_rfl))
 f224 := Tryz.func229.trans (congrArg some (by kernel_rfl))
 f225 := Tryz.func228.trans (congrArg some (by kernel_rfl))
 f266 := Tryz.func242.trans (congrArg some (by kernel_rfl))
 f267 := Tryz.func230.trans (congrArg some (by kernel_rfl))
 f314 := Tryz.func243.trans (congrArg some (by kernel_rfl))
 t3 := Tryz.underlying3
 a3 := Tryz.isAgg3
 z3 := Tryz.sizeOf3
 v3 := Tryz.zeroValue3
 t4 := Tryz.underlying4
 a4 := Tryz.isAgg4
 z4 := Tryz.sizeOf4
 v4 := Tryz.zeroValue4
 t5 := Tryz.underlying5
 a5 := Tryz.isAgg5
 z5 := Tryz.sizeOf5
 v5 := Tryz.zeroValue5
 t9 := Tryz.underlying9
 a9 := Tryz.isAgg9
 z9 := Tryz.sizeOf9
 v9 := Tryz.zeroValue9
 t46 := Tryz.underlying140
 a46 := Tryz.isAgg140
 z46 := Tryz.sizeOf140
 v46 := Tryz.zeroValue140
 t51 := Tryz.underlying200
 a51 := Tryz.isAgg200
 z51 := Tryz.sizeOf200
 v51 := Tryz.zeroValue200
 t59 := Tryz.underlying231
 a59 := Tryz.isAgg231
 z59 := Tryz.sizeOf231
 v59 := Tryz.zeroValue231
 t146 := Tryz.underlying252
 a146 := Tryz.isAgg252
 z146 := Tryz.sizeOf252
 v146 := Tryz.zeroValue252
 g1 := by kernel_rfl }
open Go.RowKit Go.Lib in
theorem Tryz.strings_Cut (s sep : ByteArray) (m : Int) (w : World) (hs : s.size < 4294967281) (hm : w.cell? ⟨3, 0, none⟩ = some (.int .i64 m)) :
  Calls Tryz.prog 162 #[.string s, .string sep] w fun e w' => e = .returned (.tuple #[.string ⟨(Lib.cut s.data.toList sep.data.toList).1.toArray⟩, .string ⟨(Lib.cut s.data.toList sep.data.toList).2.1.toArray⟩, .bool (Lib.cut s.data.toList sep.data.toList).2.2]) ∧ ∃ n, w' = w.drewN n := Any.strings_Cut Tryz.lays145 s sep m w hs hm
def Tryz.lays99_ren : Go.Shelf.Ren := ⟨fun | 99 => 37 | 206 => 65 | n => n, fun | 9 => 9 | 4 => 4 | 3 => 3 | n => n, fun | n => n⟩
theorem Tryz.lays99 : Go.Proofs.Lays.n99 Tryz.prog Tryz.lays99_ren := {
 mixed := by kernel_rfl
 f99 := Tryz.func37.trans (congrArg some (by kernel_rfl))
 f206 := Tryz.func65.trans (congrArg some (by kernel_rfl))
 t3 := Tryz.underlying3
 a3 := Tryz.isAgg3
 z3 := Tryz.sizeOf3
 v3 := Tryz.zeroValue3
 t4 := Tryz.underlying4
 a4 := Tryz.isAgg4
 z4 := Tryz.sizeOf4
 v4 := Tryz.zeroValue4
 t9 := Tryz.underlying9
 a9 := Tryz.isAgg9
 z9 := Tryz.sizeOf9
 v9 := Tryz.zeroValue9 }
open Go.RowKit Go.Lib in
theorem Tryz.strings_HasPrefix (s p : ByteArray) (w : World) :
  Calls Tryz.prog 37 #[.string s, .string p] w fun e w' => e = .returned (.bool (Lib.hasPrefix s.data.toList p.data.toList)) ∧ w' = w := Any.strings_HasPrefix Tryz.lays99 s p w
def Tryz.lays101_ren : Go.Shelf.Ren := ⟨fun | 101 => 35 | 208 => 61 | 206 => 65 | n => n, fun | 9 => 9 | 4 => 4 | 3 => 3 | n => n, fun | n => n⟩
theorem Tryz.lays101 : Go.Proofs.Lays.n101 Tryz.prog Tryz.lays101_ren := {
 mixed := by kernel_rfl
 f101 := Tryz.func35.trans (congrArg some (by kernel_rfl))
 f206 := Tryz.func65.trans (congrArg some (by kernel_rfl))
 f208 := Tryz.func61.trans (congrArg some (by kernel_rfl))
 t3 := Tryz.underlying3
 a3 := Tryz.isAgg3
 z3 := Tryz.sizeOf3
 v3 := Tryz.zeroValue3
 t4 := Tryz.underlying4
 a4 := Tryz.isAgg4
 z4 := Tryz.sizeOf4
 v4 := Tryz.zeroValue4
 t9 := Tryz.underlying9
 a9 := Tryz.isAgg9
 z9 := Tryz.sizeOf9
 v9 := Tryz.zeroValue9 }
open Go.RowKit Go.Lib in
theorem Tryz.strings_TrimPrefix (s p : ByteArray) (w : World) :
  Calls Tryz.prog 35 #[.string s, .string p] w fun e w' => e = .returned (.string ⟨(Lib.trimPrefix s.data.toList p.data.toList).toArray⟩) ∧ w' = w := Any.strings_TrimPrefix Tryz.lays101 s p w
end Go.Proofs
