/-
  The library's contracts at this program: laid by the kit's tools lay-shelf.mjs and lay-plain.mjs, cut down by dev_prune.py.
-/
import Derived.Test.YtjnhmfcklodfdaaGreatDoorProg
import Derived.Shelf.Strings.Builder1
import Derived.Shelf.Strings.Builder2
import Derived.Shelf.Strings.Trim
import Derived.Shelf.Small.Utf8
import Derived.Shelf.Small.Bits
import Derived.Shelf.Small.Strs
import Derived.Shelf.Small.Wraps
import Derived.Shelf.Strings.BuilderF
import Derived.Shelf.Strings.BuilderK
import Derived.Shelf.Strings.Builder2Cap
import Derived.Shelf.Strconv.Atoi
import Derived.Shelf.Strconv.Itoa0
import Derived.Shelf.Strconv.Itoa1
import Derived.Shelf.LaysM
import Derived.Shelf.Strconv.Itoa2
import Derived.Shelf.Strconv.Itoa3
import Derived.Shelf.Strconv.AtoiErrFast
import Derived.Shelf.Strconv.ParseIntEmpty
import Derived.Shelf.Strconv.AtoiFail
import Derived.Shelf.Strconv.Clone
import Derived.Shelf.Strconv.SyntaxError
import Derived.Shelf.LaysC
import Derived.Shelf.Strconv.ToError
import Derived.Shelf.Strconv.Lower
import Derived.Shelf.Strconv.ParseUint10
import Derived.Shelf.Strconv.ParseUint10Empty
import Derived.Shelf.Strconv.ParseUint10Any
import Derived.Shelf.Strconv.ParseInt10
import Derived.Shelf.Strconv.AtoiLong
import Derived.Shelf.Strconv.AtoiInnerAll
import Derived.Shelf.Strconv.RangeError
import Derived.Shelf.Strconv.ToErrorRange
import Derived.Shelf.Strconv.AtoiAll
import Derived.Shelf.Strconv.ErrVarAll
import Derived.Shelf.Strings.Search1
import Derived.Shelf.Strings.Search2
import Derived.Shelf.Strings.Search3
import Derived.Shelf.Strings.Cut
import Derived.Shelf.Strings.Shaped
import Derived.Shelf.Strings.Prefix
import Derived.Shelf.Strings.Runes
import Derived.Shelf.Strings.AsciiSet
import Derived.Shelf.Bits.Mul64
import Derived.Shelf.Strings.Repeat
import Derived.Shelf.Unicode.DecodeSlow
import Derived.Shelf.Unicode.DecodeAny
import Derived.Ground.Names2Prog
import Derived.Shelf.Slices.SearchI
namespace Go.Proofs
open Go.Shelf
def Tryz.lays169_ren:Go.Shelf.Ren:=⟨fun | 169=>233 | n=>n,fun | 70=>304 | 9=>9 | 0=>0 | 72=>307 | 37=>305 | 127=>348 | 3=>3 | 5=>5 | n=>n,fun | n=>n⟩
theorem Tryz.lays169:Go.Proofs.Lays.n169 Tryz.prog Tryz.lays169_ren:={
 mixed:=by kernel_rfl
 f169:=Tryz.func233.trans (congrArg some (by kernel_rfl))
 t0:=Tryz.underlying0
 a0:=Tryz.isAgg0
 z0:=Tryz.sizeOf0
 v0:=Tryz.zeroValue0
 t3:=Tryz.underlying3
 a3:=Tryz.isAgg3
 z3:=Tryz.sizeOf3
 v3:=Tryz.zeroValue3
 t9:=Tryz.underlying9
 a9:=Tryz.isAgg9
 z9:=Tryz.sizeOf9
 v9:=Tryz.zeroValue9
 t37:=Tryz.underlying305
 a37:=Tryz.isAgg305
 z37:=Tryz.sizeOf305
 v37:=Tryz.zeroValue305
 t70:=Tryz.underlying304
 a70:=Tryz.isAgg304
 z70:=Tryz.sizeOf304
 v70:=Tryz.zeroValue304
 t72:=Tryz.underlying307
 a72:=Tryz.isAgg307
 z72:=Tryz.sizeOf307
 v72:=Tryz.zeroValue307
 t127:=Tryz.underlying348
 a127:=Tryz.isAgg348
 z127:=Tryz.sizeOf348
 v127:=Tryz.zeroValue348 }
theorem Tryz.Builder_Extra_169:Builder.Extra Tryz.prog Tryz.lays169_ren:={
 sizeBuilder:=by kernel_rfl
 liesBuilder:=by kernel_rfl
 t5:=Tryz.underlying5
 a5:=Tryz.isAgg5
 z5:=Tryz.sizeOf5
 v5:=Tryz.zeroValue5
 infoByte:=by kernel_rfl
 cellsByte:=by kernel_rfl
 sizeByte:=by kernel_rfl
 neB5:=by decide }
def Tryz.lays160_ren:Go.Shelf.Ren:=⟨fun | 160=>224 | 232=>264 | 231=>263 | 227=>265 | 234=>267 | 233=>266 | 236=>269 | 235=>268 | 228=>289 | 271=>292 | 151=>291 | 197=>290 | 120=>306 | 152=>305 | 260=>304 | 137=>311 | 119=>312 | 224=>287 | 225=>286 | 217=>285 | 266=>302 | n=>n,fun | 9=>9 | 4=>4 | 3=>3 | 5=>5 | 117=>334 | 116=>333 | 0=>0 | 124=>337 | 21=>21 | 105=>357 | 46=>186 | 119=>377 | 139=>380 | 138=>379 | n=>n,fun | 3=>9 | 4=>10 | n=>n⟩
theorem Tryz.lays160:Go.Proofs.Lays.n160 Tryz.prog Tryz.lays160_ren:={
 mixed:=by kernel_rfl
 f119:=Tryz.func312.trans (congrArg some (by kernel_rfl))
 f120:=Tryz.func306.trans (congrArg some (by kernel_rfl))
 f137:=Tryz.func311.trans (congrArg some (by kernel_rfl))
 f151:=Tryz.func291.trans (congrArg some (by kernel_rfl))
 f152:=Tryz.func305.trans (congrArg some (by kernel_rfl))
 f160:=Tryz.func224.trans (congrArg some (by kernel_rfl))
 f197:=Tryz.func290.trans (congrArg some (by kernel_rfl))
 f217:=Tryz.func285.trans (congrArg some (by kernel_rfl))
 f224:=Tryz.func287.trans (congrArg some (by kernel_rfl))
 f225:=Tryz.func286.trans (congrArg some (by kernel_rfl))
 f227:=Tryz.func265.trans (congrArg some (by kernel_rfl))
 f228:=Tryz.func289.trans (congrArg some (by kernel_rfl))
 f231:=Tryz.func263.trans (congrArg some (by kernel_rfl))
 f232:=Tryz.func264.trans (congrArg some (by kernel_rfl))
 f233:=Tryz.func266.trans (congrArg some (by kernel_rfl))
 f234:=Tryz.func267.trans (congrArg some (by kernel_rfl))
 f235:=Tryz.func268.trans (congrArg some (by kernel_rfl))
 f236:=Tryz.func269.trans (congrArg some (by kernel_rfl))
 f260:=Tryz.func304.trans (congrArg some (by kernel_rfl))
 f266:=Tryz.func302.trans (congrArg some (by kernel_rfl))
 f271:=Tryz.func292.trans (congrArg some (by kernel_rfl))
 t0:=Tryz.underlying0
 a0:=Tryz.isAgg0
 z0:=Tryz.sizeOf0
 v0:=Tryz.zeroValue0
 t3:=Tryz.underlying3
 a3:=Tryz.isAgg3
 z3:=Tryz.sizeOf3
 v3:=Tryz.zeroValue3
 t4:=Tryz.underlying4
 a4:=Tryz.isAgg4
 z4:=Tryz.sizeOf4
 v4:=Tryz.zeroValue4
 t5:=Tryz.underlying5
 a5:=Tryz.isAgg5
 z5:=Tryz.sizeOf5
 v5:=Tryz.zeroValue5
 t9:=Tryz.underlying9
 a9:=Tryz.isAgg9
 z9:=Tryz.sizeOf9
 v9:=Tryz.zeroValue9
 t21:=Tryz.underlying21
 a21:=Tryz.isAgg21
 z21:=Tryz.sizeOf21
 v21:=Tryz.zeroValue21
 t46:=Tryz.underlying186
 a46:=Tryz.isAgg186
 z46:=Tryz.sizeOf186
 v46:=Tryz.zeroValue186
 t105:=Tryz.underlying357
 a105:=Tryz.isAgg357
 z105:=Tryz.sizeOf357
 v105:=Tryz.zeroValue357
 t116:=Tryz.underlying333
 a116:=Tryz.isAgg333
 z116:=Tryz.sizeOf333
 t117:=Tryz.underlying334
 a117:=Tryz.isAgg334
 z117:=Tryz.sizeOf334
 v117:=Tryz.zeroValue334
 t119:=Tryz.underlying377
 a119:=Tryz.isAgg377
 z119:=Tryz.sizeOf377
 t124:=Tryz.underlying337
 a124:=Tryz.isAgg337
 z124:=Tryz.sizeOf337
 v124:=Tryz.zeroValue337
 t138:=Tryz.underlying379
 a138:=Tryz.isAgg379
 z138:=Tryz.sizeOf379
 v138:=Tryz.zeroValue379
 t139:=Tryz.underlying380
 a139:=Tryz.isAgg380
 z139:=Tryz.sizeOf380
 v139:=Tryz.zeroValue380
 g3:=by kernel_rfl
 g4:=by kernel_rfl }
def Tryz.lays125_ren:Go.Shelf.Ren:=⟨fun | 125=>119 | 128=>191 | 129=>192 | n=>n,fun | 46=>186 | 3=>3 | 51=>256 | 53=>258 | 4=>4 | 5=>5 | 9=>9 | n=>n,fun | n=>n⟩
theorem Tryz.lays125:Go.Proofs.Lays.n125 Tryz.prog Tryz.lays125_ren:={
 mixed:=by kernel_rfl
 f125:=Tryz.func119.trans (congrArg some (by kernel_rfl))
 f128:=Tryz.func191.trans (congrArg some (by kernel_rfl))
 f129:=Tryz.func192.trans (congrArg some (by kernel_rfl))
 t3:=Tryz.underlying3
 a3:=Tryz.isAgg3
 z3:=Tryz.sizeOf3
 v3:=Tryz.zeroValue3
 t4:=Tryz.underlying4
 a4:=Tryz.isAgg4
 z4:=Tryz.sizeOf4
 v4:=Tryz.zeroValue4
 t5:=Tryz.underlying5
 a5:=Tryz.isAgg5
 z5:=Tryz.sizeOf5
 v5:=Tryz.zeroValue5
 t9:=Tryz.underlying9
 a9:=Tryz.isAgg9
 z9:=Tryz.sizeOf9
 v9:=Tryz.zeroValue9
 t46:=Tryz.underlying186
 a46:=Tryz.isAgg186
 z46:=Tryz.sizeOf186
 v46:=Tryz.zeroValue186
 t51:=Tryz.underlying256
 a51:=Tryz.isAgg256
 z51:=Tryz.sizeOf256
 v51:=Tryz.zeroValue256
 t53:=Tryz.underlying258
 a53:=Tryz.isAgg258
 z53:=Tryz.sizeOf258
 v53:=Tryz.zeroValue258 }
theorem Tryz.bits_Len(x:Int)(w:World)(h0:0≤x)(h1:x≤18446744073709551615) :
  Calls Tryz.prog 119 #[.int .u64 x] w fun e w'=>e=.returned (.int .i64 (Lib.bitLen x.toNat))∧w'=w:=Any.bits_Len Tryz.lays125 x w h0 h1
def Tryz.lays103_ren:Go.Shelf.Ren:=⟨fun | 103=>168 | 210=>228 | 206=>76 | n=>n,fun | 9=>9 | 4=>4 | 24=>227 | 3=>3 | n=>n,fun | n=>n⟩
theorem Tryz.lays103:Go.Proofs.Lays.n103 Tryz.prog Tryz.lays103_ren:={
 mixed:=by kernel_rfl
 f103:=Tryz.func168.trans (congrArg some (by kernel_rfl))
 f206:=Tryz.func76.trans (congrArg some (by kernel_rfl))
 f210:=Tryz.func228.trans (congrArg some (by kernel_rfl))
 t3:=Tryz.underlying3
 a3:=Tryz.isAgg3
 z3:=Tryz.sizeOf3
 v3:=Tryz.zeroValue3
 t4:=Tryz.underlying4
 a4:=Tryz.isAgg4
 z4:=Tryz.sizeOf4
 v4:=Tryz.zeroValue4
 t9:=Tryz.underlying9
 a9:=Tryz.isAgg9
 z9:=Tryz.sizeOf9
 v9:=Tryz.zeroValue9
 t24:=Tryz.underlying227
 a24:=Tryz.isAgg227
 z24:=Tryz.sizeOf227
 v24:=Tryz.zeroValue227 }
open Go.RowKit in
theorem Tryz.strings_CutPrefix(s p:ByteArray)(w:World) :
  Calls Tryz.prog 168 #[.string s,.string p] w fun e w'=>e=.returned (.tuple #[.string ⟨(Lib.trimPrefix s.data.toList p.data.toList).toArray⟩,.bool (Lib.hasPrefix s.data.toList p.data.toList)])∧w'=w:=Any.strings_CutPrefix Tryz.lays103 s p w
def Tryz.lays122_ren:Go.Shelf.Ren:=⟨fun | 122=>73 | 215=>125 | n=>n,fun | 3=>3 | 4=>4 | n=>n,fun | n=>n⟩
theorem Tryz.lays122:Go.Proofs.Lays.n122 Tryz.prog Tryz.lays122_ren:={
 mixed:=by kernel_rfl
 f122:=Tryz.func73.trans (congrArg some (by kernel_rfl))
 f215:=Tryz.func125.trans (congrArg some (by kernel_rfl))
 t3:=Tryz.underlying3
 a3:=Tryz.isAgg3
 z3:=Tryz.sizeOf3
 v3:=Tryz.zeroValue3
 t4:=Tryz.underlying4
 a4:=Tryz.isAgg4
 z4:=Tryz.sizeOf4
 v4:=Tryz.zeroValue4 }
open Go.RowKit in
theorem Tryz.cmp_Compare_int(x y:Int)(w:World) :
  Calls Tryz.prog 73 #[.int .i64 x,.int .i64 y] w fun e w'=>e=.returned (.int .i64 (Lib.compareInt x y))∧w'=w:=Any.cmp_Compare_int Tryz.lays122 x y w
def Tryz.lays172_ren:Go.Shelf.Ren:=⟨fun | 172=>166 | 244=>225 | 245=>226 | 247=>270 | 279=>271 | 280=>272 | 281=>273 | 282=>274 | 287=>293 | 316=>294 | 171=>108 | 205=>295 | 321=>307 | 322=>308 | 243=>167 | 246=>227 | 283=>275 | 284=>276 | 285=>277 | 286=>278 | 129=>192 | 317=>296 | 318=>297 | 319=>298 | 320=>299 | 337=>309 | 338=>310 | n=>n,fun | 9=>9 | 3=>3 | 75=>224 | 76=>225 | 4=>4 | 5=>5 | 167=>338 | 37=>305 | 0=>0 | 85=>339 | 2=>2 | 168=>341 | 53=>258 | 175=>360 | 46=>186 | 210=>363 | 127=>348 | 145=>376 | 143=>374 | 21=>21 | 171=>344 | 173=>346 | 212=>366 | 51=>256 | 20=>20 | 213=>367 | 232=>382 | 233=>383 | 80=>310 | n=>n,fun | 15=>6 | 16=>7 | 17=>8 | 18=>11 | 19=>12 | n=>n⟩
theorem Tryz.lays172:Go.Proofs.Lays.n172 Tryz.prog Tryz.lays172_ren:={
 mixed:=by kernel_rfl
 f129:=Tryz.func192.trans (congrArg some (by kernel_rfl))
 f171:=Tryz.func108.trans (congrArg some (by kernel_rfl))
 f172:=Tryz.func166.trans (congrArg some (by kernel_rfl))
 f205:=Tryz.func295.trans (congrArg some (by kernel_rfl))
 f243:=Tryz.func167.trans (congrArg some (by kernel_rfl))
 f244:=Tryz.func225.trans (congrArg some (by kernel_rfl))
 f245:=Tryz.func226.trans (congrArg some (by kernel_rfl))
 f246:=Tryz.func227.trans (congrArg some (by kernel_rfl))
 f247:=Tryz.func270.trans (congrArg some (by kernel_rfl))
 f279:=Tryz.func271.trans (congrArg some (by kernel_rfl))
 f280:=Tryz.func272.trans (congrArg some (by kernel_rfl))
 f281:=Tryz.func273.trans (congrArg some (by kernel_rfl))
 f282:=Tryz.func274.trans (congrArg some (by kernel_rfl))
 f283:=Tryz.func275.trans (congrArg some (by kernel_rfl))
 f284:=Tryz.func276.trans (congrArg some (by kernel_rfl))
 f285:=Tryz.func277.trans (congrArg some (by kernel_rfl))
 f286:=Tryz.func278.trans (congrArg some (by kernel_rfl))
 f287:=Tryz.func293.trans (congrArg some (by kernel_rfl))
 f316:=Tryz.func294.trans (congrArg some (by kernel_rfl))
 f317:=Tryz.func296.trans (congrArg some (by kernel_rfl))
 f318:=Tryz.func297.trans (congrArg some (by kernel_rfl))
 f319:=Tryz.func298.trans (congrArg some (by kernel_rfl))
 f320:=Tryz.func299.trans (congrArg some (by kernel_rfl))
 f321:=Tryz.func307.trans (congrArg some (by kernel_rfl))
 f322:=Tryz.func308.trans (congrArg some (by kernel_rfl))
 f337:=Tryz.func309.trans (congrArg some (by kernel_rfl))
 f338:=Tryz.func310.trans (congrArg some (by kernel_rfl))
 t0:=Tryz.underlying0
 a0:=Tryz.isAgg0
 z0:=Tryz.sizeOf0
 v0:=Tryz.zeroValue0
 t2:=Tryz.underlying2
 a2:=Tryz.isAgg2
 z2:=Tryz.sizeOf2
 v2:=Tryz.zeroValue2
 t3:=Tryz.underlying3
 a3:=Tryz.isAgg3
 z3:=Tryz.sizeOf3
 v3:=Tryz.zeroValue3
 t4:=Tryz.underlying4
 a4:=Tryz.isAgg4
 z4:=Tryz.sizeOf4
 v4:=Tryz.zeroValue4
 t5:=Tryz.underlying5
 a5:=Tryz.isAgg5
 z5:=Tryz.sizeOf5
 v5:=Tryz.zeroValue5
 t9:=Tryz.underlying9
 a9:=Tryz.isAgg9
 z9:=Tryz.sizeOf9
 v9:=Tryz.zeroValue9
 t20:=Tryz.underlying20
 a20:=Tryz.isAgg20
 z20:=Tryz.sizeOf20
 v20:=Tryz.zeroValue20
 t21:=Tryz.underlying21
 a21:=Tryz.isAgg21
 z21:=Tryz.sizeOf21
 v21:=Tryz.zeroValue21
 t37:=Tryz.underlying305
 a37:=Tryz.isAgg305
 z37:=Tryz.sizeOf305
 v37:=Tryz.zeroValue305
 t46:=Tryz.underlying186
 a46:=Tryz.isAgg186
 z46:=Tryz.sizeOf186
 v46:=Tryz.zeroValue186
 t51:=Tryz.underlying256
 a51:=Tryz.isAgg256
 z51:=Tryz.sizeOf256
 v51:=Tryz.zeroValue256
 t53:=Tryz.underlying258
 a53:=Tryz.isAgg258
 z53:=Tryz.sizeOf258
 v53:=Tryz.zeroValue258
 t75:=Tryz.underlying224
 a75:=Tryz.isAgg224
 z75:=Tryz.sizeOf224
 v75:=Tryz.zeroValue224
 t76:=Tryz.underlying225
 a76:=Tryz.isAgg225
 z76:=Tryz.sizeOf225
 v76:=Tryz.zeroValue225
 t85:=Tryz.underlying339
 a85:=Tryz.isAgg339
 z85:=Tryz.sizeOf339
 v85:=Tryz.zeroValue339
 t127:=Tryz.underlying348
 a127:=Tryz.isAgg348
 z127:=Tryz.sizeOf348
 v127:=Tryz.zeroValue348
 t143:=Tryz.underlying374
 a143:=Tryz.isAgg374
 z143:=Tryz.sizeOf374
 v143:=Tryz.zeroValue374
 t145:=Tryz.underlying376
 a145:=Tryz.isAgg376
 z145:=Tryz.sizeOf376
 v145:=Tryz.zeroValue376
 t167:=Tryz.underlying338
 a167:=Tryz.isAgg338
 z167:=Tryz.sizeOf338
 v167:=Tryz.zeroValue338
 t168:=Tryz.underlying341
 a168:=Tryz.isAgg341
 z168:=Tryz.sizeOf341
 v168:=Tryz.zeroValue341
 t171:=Tryz.underlying344
 a171:=Tryz.isAgg344
 z171:=Tryz.sizeOf344
 v171:=Tryz.zeroValue344
 t173:=Tryz.underlying346
 a173:=Tryz.isAgg346
 z173:=Tryz.sizeOf346
 v173:=Tryz.zeroValue346
 t175:=Tryz.underlying360
 a175:=Tryz.isAgg360
 z175:=Tryz.sizeOf360
 v175:=Tryz.zeroValue360
 t210:=Tryz.underlying363
 a210:=Tryz.isAgg363
 z210:=Tryz.sizeOf363
 v210:=Tryz.zeroValue363
 t212:=Tryz.underlying366
 a212:=Tryz.isAgg366
 z212:=Tryz.sizeOf366
 v212:=Tryz.zeroValue366
 t213:=Tryz.underlying367
 a213:=Tryz.isAgg367
 z213:=Tryz.sizeOf367
 t232:=Tryz.underlying382
 a232:=Tryz.isAgg382
 z232:=Tryz.sizeOf382
 v232:=Tryz.zeroValue382
 t233:=Tryz.underlying383
 a233:=Tryz.isAgg383
 z233:=Tryz.sizeOf383
 v233:=Tryz.zeroValue383
 g15:=by kernel_rfl
 g16:=by kernel_rfl
 g17:=by kernel_rfl
 g18:=by kernel_rfl
 g19:=by kernel_rfl }
open Go.RowKit in
theorem Tryz.strconv_Atoi(s:ByteArray)(n:Int)(hl:s.size≤18)(h:Lib.atoi s.data.toList=some n)(w:World) :
  Calls Tryz.prog 166 #[.string s] w fun e w'=>e=.returned (.tuple #[.int .i64 n,.nilIface])∧∃ t,w'=Lib.bytesWorld w 5 t:=Any.strconv_Atoi Tryz.lays172 s n hl h w
def Tryz.laysM171_ren:Go.Shelf.Ren:=⟨fun | 171=>108 | 243=>167 | 246=>227 | 283=>275 | 284=>276 | 285=>277 | 286=>278 | 129=>192 | 317=>296 | 318=>297 | 319=>298 | 320=>299 | 337=>309 | 338=>310 | n=>n,fun | 3=>3 | 9=>9 | 2=>2 | 4=>4 | 171=>344 | 0=>0 | 53=>258 | 37=>305 | 5=>5 | 173=>346 | 212=>366 | 51=>256 | 20=>20 | 213=>367 | 46=>186 | 232=>382 | 233=>383 | n=>n,fun | 17=>8 | 18=>11 | 19=>12 | n=>n⟩
theorem Tryz.laysM171:Go.Proofs.LaysM.n171 Tryz.prog Tryz.laysM171_ren:={
 mixed:=by kernel_rfl
 f129:=Tryz.func192.trans (congrArg some (by kernel_rfl))
 f171:=Tryz.func108.trans (congrArg some (by kernel_rfl))
 f243:=Tryz.func167.trans (congrArg some (by kernel_rfl))
 f246:=Tryz.func227.trans (congrArg some (by kernel_rfl))
 f283:=Tryz.func275.trans (congrArg some (by kernel_rfl))
 f284:=Tryz.func276.trans (congrArg some (by kernel_rfl))
 f285:=Tryz.func277.trans (congrArg some (by kernel_rfl))
 f286:=Tryz.func278.trans (congrArg some (by kernel_rfl))
 f317:=Tryz.func296.trans (congrArg some (by kernel_rfl))
 f318:=Tryz.func297.trans (congrArg some (by kernel_rfl))
 f319:=Tryz.func298.trans (congrArg some (by kernel_rfl))
 f320:=Tryz.func299.trans (congrArg some (by kernel_rfl))
 f337:=Tryz.func309.trans (congrArg some (by kernel_rfl))
 f338:=Tryz.func310.trans (congrArg some (by kernel_rfl))
 t0:=Tryz.underlying0
 a0:=Tryz.isAgg0
 z0:=Tryz.sizeOf0
 v0:=Tryz.zeroValue0
 t2:=Tryz.underlying2
 a2:=Tryz.isAgg2
 z2:=Tryz.sizeOf2
 v2:=Tryz.zeroValue2
 t3:=Tryz.underlying3
 a3:=Tryz.isAgg3
 z3:=Tryz.sizeOf3
 v3:=Tryz.zeroValue3
 t4:=Tryz.underlying4
 a4:=Tryz.isAgg4
 z4:=Tryz.sizeOf4
 v4:=Tryz.zeroValue4
 t5:=Tryz.underlying5
 a5:=Tryz.isAgg5
 z5:=Tryz.sizeOf5
 v5:=Tryz.zeroValue5
 t9:=Tryz.underlying9
 a9:=Tryz.isAgg9
 z9:=Tryz.sizeOf9
 v9:=Tryz.zeroValue9
 t20:=Tryz.underlying20
 a20:=Tryz.isAgg20
 z20:=Tryz.sizeOf20
 v20:=Tryz.zeroValue20
 t37:=Tryz.underlying305
 a37:=Tryz.isAgg305
 z37:=Tryz.sizeOf305
 v37:=Tryz.zeroValue305
 t46:=Tryz.underlying186
 a46:=Tryz.isAgg186
 z46:=Tryz.sizeOf186
 v46:=Tryz.zeroValue186
 t51:=Tryz.underlying256
 a51:=Tryz.isAgg256
 z51:=Tryz.sizeOf256
 v51:=Tryz.zeroValue256
 t53:=Tryz.underlying258
 a53:=Tryz.isAgg258
 z53:=Tryz.sizeOf258
 v53:=Tryz.zeroValue258
 t171:=Tryz.underlying344
 a171:=Tryz.isAgg344
 z171:=Tryz.sizeOf344
 v171:=Tryz.zeroValue344
 t173:=Tryz.underlying346
 a173:=Tryz.isAgg346
 z173:=Tryz.sizeOf346
 v173:=Tryz.zeroValue346
 t212:=Tryz.underlying366
 a212:=Tryz.isAgg366
 z212:=Tryz.sizeOf366
 v212:=Tryz.zeroValue366
 t213:=Tryz.underlying367
 a213:=Tryz.isAgg367
 z213:=Tryz.sizeOf367
 t232:=Tryz.underlying382
 a232:=Tryz.isAgg382
 z232:=Tryz.sizeOf382
 v232:=Tryz.zeroValue382
 t233:=Tryz.underlying383
 a233:=Tryz.isAgg383
 z233:=Tryz.sizeOf383
 v233:=Tryz.zeroValue383
 g17:=by kernel_rfl
 g18:=by kernel_rfl
 g19:=by kernel_rfl
 i0:=by kernel_rfl
 i2:=by kernel_rfl
 i3:=by kernel_rfl
 i4:=by kernel_rfl
 i5:=by kernel_rfl
 i9:=by kernel_rfl
 i20:=by kernel_rfl
 i37:=by kernel_rfl
 i46:=by kernel_rfl
 i51:=by kernel_rfl
 i53:=by kernel_rfl
 i171:=by kernel_rfl
 i173:=by kernel_rfl
 i212:=by kernel_rfl
 i232:=by kernel_rfl
 i233:=by kernel_rfl
 m17:=by kernel_rfl
 m18:=by kernel_rfl
 m19:=by kernel_rfl }
open Go.RowKit Go.Sort Go.Lib in
theorem Tryz.strconv_Itoa (n : Int) (h0 : -9223372036854775808 ≤ n) (h1 : n ≤ 9223372036854775807) (w : World) (htab : Lib.TabIs Tryz.prog w "internal/strconv.uint64pow10" .u64 Lib.pow10Tab) :
  Calls Tryz.prog 108 #[.int .i64 n] w fun e w'=>e=.returned (.string ⟨(Lib.itoa n).toArray⟩)∧∃ k os,w'=grow (w.drewN k) os:=Any.strconv_Itoa Tryz.laysM171 n h0 h1 w htab
def Tryz.lays144_ren:Go.Shelf.Ren:=⟨fun | 144=>160 | 143=>222 | 219=>262 | 217=>285 | 225=>286 | 224=>287 | 267=>288 | 266=>302 | 314=>303 | n=>n,fun | 9=>9 | 4=>4 | 3=>3 | 5=>5 | 46=>186 | 146=>351 | 51=>256 | n=>n,fun | 1=>5 | n=>n⟩
theorem Tryz.lays144:Go.Proofs.Lays.n144 Tryz.prog Tryz.lays144_ren:={
 mixed:=by kernel_rfl
 f143:=Tryz.func222.trans (congrArg some (by kernel_rfl))
 f144:=Tryz.func160.trans (congrArg some (by kernel_rfl))
 f217:=Tryz.func285.trans (congrArg some (by kernel_rfl))
 f219:=Tryz.func262.trans (congrArg some (by kernel_rfl))
 f224:=Tryz.func287.trans (congrArg some (by kernel_rfl))
 f225:=Tryz.func286.trans (congrArg some (by kernel_rfl))
 f266:=Tryz.func302.trans (congrArg some (by kernel_rfl))
 f267:=Tryz.func288.trans (congrArg some (by kernel_rfl))
 f314:=Tryz.func303.trans (congrArg some (by kernel_rfl))
 t3:=Tryz.underlying3
 a3:=Tryz.isAgg3
 z3:=Tryz.sizeOf3
 v3:=Tryz.zeroValue3
 t4:=Tryz.underlying4
 a4:=Tryz.isAgg4
 z4:=Tryz.sizeOf4
 v4:=Tryz.zeroValue4
 t5:=Tryz.underlying5
 a5:=Tryz.isAgg5
 z5:=Tryz.sizeOf5
 v5:=Tryz.zeroValue5
 t9:=Tryz.underlying9
 a9:=Tryz.isAgg9
 z9:=Tryz.sizeOf9
 v9:=Tryz.zeroValue9
 t46:=Tryz.underlying186
 a46:=Tryz.isAgg186
 z46:=Tryz.sizeOf186
 v46:=Tryz.zeroValue186
 t51:=Tryz.underlying256
 a51:=Tryz.isAgg256
 z51:=Tryz.sizeOf256
 v51:=Tryz.zeroValue256
 t146:=Tryz.underlying351
 a146:=Tryz.isAgg351
 z146:=Tryz.sizeOf351
 v146:=Tryz.zeroValue351
 g1:=by kernel_rfl }
open Go.RowKit Go.Lib in
theorem Tryz.strings_Contains(s sub:ByteArray)(m:Int)(w:World)(hs:s.size<4294967281)(hm:w.cell? ⟨5,0,none⟩=some (.int .i64 m)) :
  Calls Tryz.prog 160 #[.string s,.string sub] w fun e w'=>e=.returned (.bool (Lib.contains s.data.toList sub.data.toList))∧w'=w:=Any.strings_Contains Tryz.lays144 s sub m w hs hm
def Tryz.lays145_ren:Go.Shelf.Ren:=⟨fun | 145=>193 | 220=>246 | 219=>262 | 217=>285 | 225=>286 | 224=>287 | 267=>288 | 266=>302 | 314=>303 | n=>n,fun | 9=>9 | 4=>4 | 59=>259 | 3=>3 | 5=>5 | 46=>186 | 146=>351 | 51=>256 | n=>n,fun | 1=>5 | n=>n⟩
theorem Tryz.lays145:Go.Proofs.Lays.n145 Tryz.prog Tryz.lays145_ren:={
 mixed:=by kernel_rfl
 f145:=Tryz.func193.trans (congrArg some (by kernel_rfl))
 f217:=Tryz.func285.trans (congrArg some (by kernel_rfl))
 f219:=Tryz.func262.trans (congrArg some (by kernel_rfl))
 f220:=Tryz.func246.trans (congrArg some (by kernel_rfl))
 f224:=Tryz.func287.trans (congrArg some (by kernel_rfl))
 f225:=Tryz.func286.trans (congrArg some (by kernel_rfl))
 f266:=Tryz.func302.trans (congrArg some (by kernel_rfl))
 f267:=Tryz.func288.trans (congrArg some (by kernel_rfl))
 f314:=Tryz.func303.trans (congrArg some (by kernel_rfl))
 t3:=Tryz.underlying3
 a3:=Tryz.isAgg3
 z3:=Tryz.sizeOf3
 v3:=Tryz.zeroValue3
 t4:=Tryz.underlying4
 a4:=Tryz.isAgg4
 z4:=Tryz.sizeOf4
 v4:=Tryz.zeroValue4
 t5:=Tryz.underlying5
 a5:=Tryz.isAgg5
 z5:=Tryz.sizeOf5
 v5:=Tryz.zeroValue5
 t9:=Tryz.underlying9
 a9:=Tryz.isAgg9
 z9:=Tryz.sizeOf9
 v9:=Tryz.zeroValue9
 t46:=Tryz.underlying186
 a46:=Tryz.isAgg186
 z46:=Tryz.sizeOf186
 v46:=Tryz.zeroValue186
 t51:=Tryz.underlying256
 a51:=Tryz.isAgg256
 z51:=Tryz.sizeOf256
 v51:=Tryz.zeroValue256
 t59:=Tryz.underlying259
 a59:=Tryz.isAgg259
 z59:=Tryz.sizeOf259
 v59:=Tryz.zeroValue259
 t146:=Tryz.underlying351
 a146:=Tryz.isAgg351
 z146:=Tryz.sizeOf351
 v146:=Tryz.zeroValue351
 g1:=by kernel_rfl }
open Go.RowKit Go.Lib in
theorem Tryz.strings_Cut(s sep:ByteArray)(m:Int)(w:World)(hs:s.size<4294967281)(hm:w.cell? ⟨5,0,none⟩=some (.int .i64 m)) :
  Calls Tryz.prog 193 #[.string s,.string sep] w fun e w'=>e=.returned (.tuple #[.string ⟨(Lib.cut s.data.toList sep.data.toList).1.toArray⟩,.string ⟨(Lib.cut s.data.toList sep.data.toList).2.1.toArray⟩,.bool (Lib.cut s.data.toList sep.data.toList).2.2])∧∃ n,w'=w.drewN n:=Any.strings_Cut Tryz.lays145 s sep m w hs hm
def Tryz.lays99_ren:Go.Shelf.Ren:=⟨fun | 99=>34 | 206=>76 | n=>n,fun | 9=>9 | 4=>4 | 3=>3 | n=>n,fun | n=>n⟩
theorem Tryz.lays99:Go.Proofs.Lays.n99 Tryz.prog Tryz.lays99_ren:={
 mixed:=by kernel_rfl
 f99:=Tryz.func34.trans (congrArg some (by kernel_rfl))
 f206:=Tryz.func76.trans (congrArg some (by kernel_rfl))
 t3:=Tryz.underlying3
 a3:=Tryz.isAgg3
 z3:=Tryz.sizeOf3
 v3:=Tryz.zeroValue3
 t4:=Tryz.underlying4
 a4:=Tryz.isAgg4
 z4:=Tryz.sizeOf4
 v4:=Tryz.zeroValue4
 t9:=Tryz.underlying9
 a9:=Tryz.isAgg9
 z9:=Tryz.sizeOf9
 v9:=Tryz.zeroValue9 }
open Go.RowKit Go.Lib in
theorem Tryz.strings_HasPrefix(s p:ByteArray)(w:World) :
  Calls Tryz.prog 34 #[.string s,.string p] w fun e w'=>e=.returned (.bool (Lib.hasPrefix s.data.toList p.data.toList))∧w'=w:=Any.strings_HasPrefix Tryz.lays99 s p w
def Tryz.lays101_ren:Go.Shelf.Ren:=⟨fun | 101=>32 | 208=>71 | 206=>76 | n=>n,fun | 9=>9 | 4=>4 | 3=>3 | n=>n,fun | n=>n⟩
theorem Tryz.lays101:Go.Proofs.Lays.n101 Tryz.prog Tryz.lays101_ren:={
 mixed:=by kernel_rfl
 f101:=Tryz.func32.trans (congrArg some (by kernel_rfl))
 f206:=Tryz.func76.trans (congrArg some (by kernel_rfl))
 f208:=Tryz.func71.trans (congrArg some (by kernel_rfl))
 t3:=Tryz.underlying3
 a3:=Tryz.isAgg3
 z3:=Tryz.sizeOf3
 v3:=Tryz.zeroValue3
 t4:=Tryz.underlying4
 a4:=Tryz.isAgg4
 z4:=Tryz.sizeOf4
 v4:=Tryz.zeroValue4
 t9:=Tryz.underlying9
 a9:=Tryz.isAgg9
 z9:=Tryz.sizeOf9
 v9:=Tryz.zeroValue9 }
open Go.RowKit Go.Lib in
theorem Tryz.strings_TrimPrefix(s p:ByteArray)(w:World) :
  Calls Tryz.prog 32 #[.string s,.string p] w fun e w'=>e=.returned (.string ⟨(Lib.trimPrefix s.data.toList p.data.toList).toArray⟩)∧w'=w:=Any.strings_TrimPrefix Tryz.lays101 s p w
end Go.Proofs
