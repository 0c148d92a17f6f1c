/-
  The library's contracts at this program: laid by the kit's tools lay-shelf.mjs and lay-plain.mjs, cut down by dev_prune.py.
-/
import Derived.Test.YtapnkgdnflofbaaGreatDoorProg
import Derived.Shelf.Strings.Builder1
import Derived.Shelf.Strings.Builder2
import Derived.Shelf.Strings.Trim
import Derived.Shelf.Small.Utf8
import Derived.Shelf.Small.Bits
import Derived.Shelf.Small.Strs
import Derived.Shelf.Small.Wraps
import Derived.Shelf.Strings.BuilderF
import Derived.Shelf.Strings.BuilderK
import Derived.Shelf.Strings.Builder2Cap
import Derived.Shelf.Strconv.Atoi
import Derived.Shelf.Strconv.Itoa0
import Derived.Shelf.Strconv.Itoa1
import Derived.Shelf.LaysM
import Derived.Shelf.Strconv.Itoa2
import Derived.Shelf.Strconv.Itoa3
import Derived.Shelf.Strconv.AtoiErrFast
import Derived.Shelf.Strconv.ParseIntEmpty
import Derived.Shelf.Strconv.AtoiFail
import Derived.Shelf.Strconv.Clone
import Derived.Shelf.Strconv.SyntaxError
import Derived.Shelf.LaysC
import Derived.Shelf.Strconv.ToError
import Derived.Shelf.Strconv.Lower
import Derived.Shelf.Strconv.ParseUint10
import Derived.Shelf.Strconv.ParseUint10Empty
import Derived.Shelf.Strconv.ParseUint10Any
import Derived.Shelf.Strconv.ParseInt10
import Derived.Shelf.Strconv.AtoiLong
import Derived.Shelf.Strconv.AtoiInnerAll
import Derived.Shelf.Strconv.RangeError
import Derived.Shelf.Strconv.ToErrorRange
import Derived.Shelf.Strconv.AtoiAll
import Derived.Shelf.Strconv.ErrVarAll
import Derived.Shelf.Strings.Search1
import Derived.Shelf.Strings.Search2
import Derived.Shelf.Strings.Search3
import Derived.Shelf.Strings.Cut
import Derived.Shelf.Strings.Shaped
import Derived.Shelf.Sort.Plain
import Derived.Shelf.Strings.Prefix
import Derived.Shelf.Strings.Runes
import Derived.Shelf.Strings.AsciiSet
import Derived.Shelf.Bits.Mul64
import Derived.Shelf.Strings.Repeat
import Derived.Shelf.Unicode.DecodeSlow
import Derived.Shelf.Slices.Turned
import Derived.Ground.Names2Prog
import Derived.Shelf.Slices.Clone
import Derived.Ground.SlgnProg
import Derived.Shelf.SlicesE.Clone
namespace Go.Proofs
open Go.Shelf
def Tryz.lays169_ren:Go.Shelf.Ren:=⟨fun | 169=>269 | n=>n,fun | 70=>323 | 9=>9 | 0=>0 | 72=>325 | 37=>296 | 127=>366 | 3=>3 | 5=>5 | n=>n,fun | n=>n⟩
theorem Tryz.lays169:Go.Proofs.Lays.n169 Tryz.prog Tryz.lays169_ren:={
 mixed:=by kernel_rfl
 f169:=Tryz.func269.trans (congrArg some (by kernel_rfl))
 t0:=Tryz.underlying0
 a0:=Tryz.isAgg0
 z0:=Tryz.sizeOf0
 v0:=Tryz.zeroValue0
 t3:=Tryz.underlying3
 a3:=Tryz.isAgg3
 z3:=Tryz.sizeOf3
 v3:=Tryz.zeroValue3
 t9:=Tryz.underlying9
 a9:=Tryz.isAgg9
 z9:=Tryz.sizeOf9
 v9:=Tryz.zeroValue9
 t37:=Tryz.underlying296
 a37:=Tryz.isAgg296
 z37:=Tryz.sizeOf296
 v37:=Tryz.zeroValue296
 t70:=Tryz.underlying323
 a70:=Tryz.isAgg323
 z70:=Tryz.sizeOf323
 v70:=Tryz.zeroValue323
 t72:=Tryz.underlying325
 a72:=Tryz.isAgg325
 z72:=Tryz.sizeOf325
 v72:=Tryz.zeroValue325
 t127:=Tryz.underlying366
 a127:=Tryz.isAgg366
 z127:=Tryz.sizeOf366
 v127:=Tryz.zeroValue366 }
theorem Tryz.Builder_Extra_169:Builder.Extra Tryz.prog Tryz.lays169_ren:={
 sizeBuilder:=by kernel_rfl
 liesBuilder:=by kernel_rfl
 t5:=Tryz.underlying5
 a5:=Tryz.isAgg5
 z5:=Tryz.sizeOf5
 v5:=Tryz.zeroValue5
 infoByte:=by kernel_rfl
 cellsByte:=by kernel_rfl
 sizeByte:=by kernel_rfl
 neB5:=by decide }
def Tryz.lays160_ren:Go.Shelf.Ren:=⟨fun | 160=>259 | 232=>291 | 231=>290 | 227=>292 | 234=>294 | 233=>293 | 236=>296 | 235=>295 | 228=>316 | 271=>319 | 151=>318 | 197=>317 | 120=>337 | 152=>336 | 260=>335 | 137=>345 | 119=>346 | 224=>333 | 225=>332 | 217=>331 | 266=>343 | n=>n,fun | 9=>9 | 4=>4 | 3=>3 | 5=>5 | 117=>348 | 116=>347 | 0=>0 | 124=>351 | 21=>21 | 105=>371 | 46=>101 | 119=>396 | 139=>399 | 138=>398 | n=>n,fun | 3=>7 | 4=>8 | n=>n⟩
theorem Tryz.lays160:Go.Proofs.Lays.n160 Tryz.prog Tryz.lays160_ren:={
 mixed:=by kernel_rfl
 f119:=Tryz.func346.trans (congrArg some (by kernel_rfl))
 f120:=Tryz.func337.trans (congrArg some (by kernel_rfl))
 f137:=Tryz.func345.trans (congrArg some (by kernel_rfl))
 f151:=Tryz.func318.trans (congrArg some (by kernel_rfl))
 f152:=Tryz.func336.trans (congrArg some (by kernel_rfl))
 f160:=Tryz.func259.trans (congrArg some (by kernel_rfl))
 f197:=Tryz.func317.trans (congrArg some (by kernel_rfl))
 f217:=Tryz.func331.trans (congrArg some (by kernel_rfl))
 f224:=Tryz.func333.trans (congrArg some (by kernel_rfl))
 f225:=Tryz.func332.trans (congrArg some (by kernel_rfl))
 f227:=Tryz.func292.trans (congrArg some (by kernel_rfl))
 f228:=Tryz.func316.trans (congrArg some (by kernel_rfl))
 f231:=Tryz.func290.trans (congrArg some (by kernel_rfl))
 f232:=Tryz.func291.trans (congrArg some (by kernel_rfl))
 f233:=Tryz.func293.trans (congrArg some (by kernel_rfl))
 f234:=Tryz.func294.trans (congrArg some (by kernel_rfl))
 f235:=Tryz.func295.trans (congrArg some (by kernel_rfl))
 f236:=Tryz.func296.trans (congrArg some (by kernel_rfl))
 f260:=Tryz.func335.trans (congrArg some (by kernel_rfl))
 f266:=Tryz.func343.trans (congrArg some (by kernel_rfl))
 f271:=Tryz.func319.trans (congrArg some (by kernel_rfl))
 t0:=Tryz.underlying0
 a0:=Tryz.isAgg0
 z0:=Tryz.sizeOf0
 v0:=Tryz.zeroValue0
 t3:=Tryz.underlying3
 a3:=Tryz.isAgg3
 z3:=Tryz.sizeOf3
 v3:=Tryz.zeroValue3
 t4:=Tryz.underlying4
 a4:=Tryz.isAgg4
 z4:=Tryz.sizeOf4
 v4:=Tryz.zeroValue4
 t5:=Tryz.underlying5
 a5:=Tryz.isAgg5
 z5:=Tryz.sizeOf5
 v5:=Tryz.zeroValue5
 t9:=Tryz.underlying9
 a9:=Tryz.isAgg9
 z9:=Tryz.sizeOf9
 v9:=Tryz.zeroValue9
 t21:=Tryz.underlying21
 a21:=Tryz.isAgg21
 z21:=Tryz.sizeOf21
 v21:=Tryz.zeroValue21
 t46:=Tryz.underlying101
 a46:=Tryz.isAgg101
 z46:=Tryz.sizeOf101
 v46:=Tryz.zeroValue101
 t105:=Tryz.underlying371
 a105:=Tryz.isAgg371
 z105:=Tryz.sizeOf371
 v105:=Tryz.zeroValue371
 t116:=Tryz.underlying347
 a116:=Tryz.isAgg347
 z116:=Tryz.sizeOf347
 t117:=Tryz.underlying348
 a117:=Tryz.isAgg348
 z117:=Tryz.sizeOf348
 v117:=Tryz.zeroValue348
 t119:=Tryz.underlying396
 a119:=Tryz.isAgg396
 z119:=Tryz.sizeOf396
 t124:=Tryz.underlying351
 a124:=Tryz.isAgg351
 z124:=Tryz.sizeOf351
 v124:=Tryz.zeroValue351
 t138:=Tryz.underlying398
 a138:=Tryz.isAgg398
 z138:=Tryz.sizeOf398
 v138:=Tryz.zeroValue398
 t139:=Tryz.underlying399
 a139:=Tryz.isAgg399
 z139:=Tryz.sizeOf399
 v139:=Tryz.zeroValue399
 g3:=by kernel_rfl
 g4:=by kernel_rfl }
def Tryz.lays125_ren:Go.Shelf.Ren:=⟨fun | 125=>53 | 128=>111 | 129=>112 | n=>n,fun | 46=>101 | 3=>3 | 51=>173 | 53=>175 | 4=>4 | 5=>5 | 9=>9 | n=>n,fun | n=>n⟩
theorem Tryz.lays125:Go.Proofs.Lays.n125 Tryz.prog Tryz.lays125_ren:={
 mixed:=by kernel_rfl
 f125:=Tryz.func53.trans (congrArg some (by kernel_rfl))
 f128:=Tryz.func111.trans (congrArg some (by kernel_rfl))
 f129:=Tryz.func112.trans (congrArg some (by kernel_rfl))
 t3:=Tryz.underlying3
 a3:=Tryz.isAgg3
 z3:=Tryz.sizeOf3
 v3:=Tryz.zeroValue3
 t4:=Tryz.underlying4
 a4:=Tryz.isAgg4
 z4:=Tryz.sizeOf4
 v4:=Tryz.zeroValue4
 t5:=Tryz.underlying5
 a5:=Tryz.isAgg5
 z5:=Tryz.sizeOf5
 v5:=Tryz.zeroValue5
 t9:=Tryz.underlying9
 a9:=Tryz.isAgg9
 z9:=Tryz.sizeOf9
 v9:=Tryz.zeroValue9
 t46:=Tryz.underlying101
 a46:=Tryz.isAgg101
 z46:=Tryz.sizeOf101
 v46:=Tryz.zeroValue101
 t51:=Tryz.underlying173
 a51:=Tryz.isAgg173
 z51:=Tryz.sizeOf173
 v51:=Tryz.zeroValue173
 t53:=Tryz.underlying175
 a53:=Tryz.isAgg175
 z53:=Tryz.sizeOf175
 v53:=Tryz.zeroValue175 }
theorem Tryz.bits_Len(x:Int)(w:World)(h0:0≤x)(h1:x≤18446744073709551615) :
  Calls Tryz.prog 53 #[.int .u64 x] w fun e w'=>e=.returned (.int .i64 (Lib.bitLen x.toNat))∧w'=w:=Any.bits_Len Tryz.lays125 x w h0 h1
def Tryz.lays103_ren:Go.Shelf.Ren:=⟨fun | 103=>199 | 210=>263 | 206=>164 | n=>n,fun | 9=>9 | 4=>4 | 24=>260 | 3=>3 | n=>n,fun | n=>n⟩
theorem Tryz.lays103:Go.Proofs.Lays.n103 Tryz.prog Tryz.lays103_ren:={
 mixed:=by kernel_rfl
 f103:=Tryz.func199.trans (congrArg some (by kernel_rfl))
 f206:=Tryz.func164.trans (congrArg some (by kernel_rfl))
 f210:=Tryz.func263.trans (congrArg some (by kernel_rfl))
 t3:=Tryz.underlying3
 a3:=Tryz.isAgg3
 z3:=Tryz.sizeOf3
 v3:=Tryz.zeroValue3
 t4:=Tryz.underlying4
 a4:=Tryz.isAgg4
 z4:=Tryz.sizeOf4
 v4:=Tryz.zeroValue4
 t9:=Tryz.underlying9
 a9:=Tryz.isAgg9
 z9:=Tryz.sizeOf9
 v9:=Tryz.zeroValue9
 t24:=Tryz.underlying260
 a24:=Tryz.isAgg260
 z24:=Tryz.sizeOf260
 v24:=Tryz.zeroValue260 }
open Go.RowKit in
theorem Tryz.strings_CutPrefix(s p:ByteArray)(w:World) :
  Calls Tryz.prog 199 #[.string s,.string p] w fun e w'=>e=.returned (.tuple #[.string ⟨(Lib.trimPrefix s.data.toList p.data.toList).toArray⟩,.bool (Lib.hasPrefix s.data.toList p.data.toList)])∧w'=w:=Any.strings_CutPrefix Tryz.lays103 s p w
def Tryz.lays122_ren:Go.Shelf.Ren:=⟨fun | 122=>80 | 215=>153 | n=>n,fun | 3=>3 | 4=>4 | n=>n,fun | n=>n⟩
theorem Tryz.lays122:Go.Proofs.Lays.n122 Tryz.prog Tryz.lays122_ren:={
 mixed:=by kernel_rfl
 f122:=Tryz.func80.trans (congrArg some (by kernel_rfl))
 f215:=Tryz.func153.trans (congrArg some (by kernel_rfl))
 t3:=Tryz.underlying3
 a3:=Tryz.isAgg3
 z3:=Tryz.sizeOf3
 v3:=Tryz.zeroValue3
 t4:=Tryz.underlying4
 a4:=Tryz.isAgg4
 z4:=Tryz.sizeOf4
 v4:=Tryz.zeroValue4 }
open Go.RowKit in
theorem Tryz.cmp_Compare_int(x y:Int)(w:World) :
  Calls Tryz.prog 80 #[.int .i64 x,.int .i64 y] w fun e w'=>e=.returned (.int .i64 (Lib.compareInt x y))∧w'=w:=Any.cmp_Compare_int Tryz.lays122 x y w
def Tryz.lays172_ren:Go.Shelf.Ren:=⟨fun | 172=>197 | 244=>260 | 245=>261 | 247=>297 | 279=>298 | 280=>299 | 281=>300 | 282=>301 | 287=>320 | 316=>321 | 171=>143 | 205=>322 | 321=>338 | 322=>339 | 243=>198 | 246=>262 | 283=>302 | 284=>303 | 285=>304 | 286=>305 | 129=>112 | 317=>323 | 318=>324 | 319=>325 | 320=>326 | 337=>340 | 338=>341 | n=>n,fun | 9=>9 | 3=>3 | 75=>257 | 76=>258 | 4=>4 | 5=>5 | 167=>352 | 37=>296 | 0=>0 | 85=>353 | 2=>2 | 168=>355 | 53=>175 | 175=>374 | 46=>101 | 210=>377 | 127=>366 | 145=>393 | 143=>391 | 21=>21 | 171=>358 | 173=>360 | 212=>380 | 51=>173 | 20=>20 | 213=>381 | 232=>401 | 233=>402 | 80=>329 | n=>n,fun | 15=>3 | 16=>4 | 17=>5 | 18=>9 | 19=>10 | n=>n⟩
theorem Tryz.lays172:Go.Proofs.Lays.n172 Tryz.prog Tryz.lays172_ren:={
 mixed:=by kernel_rfl
 f129:=Tryz.func112.trans (congrArg some (by kernel_rfl))
 f171:=Tryz.func143.trans (congrArg some (by kernel_rfl))
 f172:=Tryz.func197.trans (congrArg some (by kernel_rfl))
 f205:=Tryz.func322.trans (congrArg some (by kernel_rfl))
 f243:=Tryz.func198.trans (congrArg some (by kernel_rfl))
 f244:=Tryz.func260.trans (congrArg some (by kernel_rfl))
 f245:=Tryz.func261.trans (congrArg some (by kernel_rfl))
 f246:=Tryz.func262.trans (congrArg some (by kernel_rfl))
 f247:=Tryz.func297.trans (congrArg some (by kernel_rfl))
 f279:=Tryz.func298.trans (congrArg some (by kernel_rfl))
 f280:=Tryz.func299.trans (congrArg some (by kernel_rfl))
 f281:=Tryz.func300.trans (congrArg some (by kernel_rfl))
 f282:=Tryz.func301.trans (congrArg some (by kernel_rfl))
 f283:=Tryz.func302.trans (congrArg some (by kernel_rfl))
 f284:=Tryz.func303.trans (congrArg some (by kernel_rfl))
 f285:=Tryz.func304.trans (congrArg some (by kernel_rfl))
 f286:=Tryz.func305.trans (congrArg some (by kernel_rfl))
 f287:=Tryz.func320.trans (congrArg some (by kernel_rfl))
 f316:=Tryz.func321.trans (congrArg some (by kernel_rfl))
 f317:=Tryz.func323.trans (congrArg some (by kernel_rfl))
 f318:=Tryz.func324.trans (congrArg some (by kernel_rfl))
 f319:=Tryz.func325.trans (congrArg some (by kernel_rfl))
 f320:=Tryz.func326.trans (congrArg some (by kernel_rfl))
 f321:=Tryz.func338.trans (congrArg some (by kernel_rfl))
 f322:=Tryz.func339.trans (congrArg some (by kernel_rfl))
 f337:=Tryz.func340.trans (congrArg some (by kernel_rfl))
 f338:=Tryz.func341.trans (congrArg some (by kernel_rfl))
 t0:=Tryz.underlying0
 a0:=Tryz.isAgg0
 z0:=Tryz.sizeOf0
 v0:=Tryz.zeroValue0
 t2:=Tryz.underlying2
 a2:=Tryz.isAgg2
 z2:=Tryz.sizeOf2
 v2:=Tryz.zeroValue2
 t3:=Tryz.underlying3
 a3:=Tryz.isAgg3
 z3:=Tryz.sizeOf3
 v3:=Tryz.zeroValue3
 t4:=Tryz.underlying4
 a4:=Tryz.isAgg4
 z4:=Tryz.sizeOf4
 v4:=Tryz.zeroValue4
 t5:=Tryz.underlying5
 a5:=Tryz.isAgg5
 z5:=Tryz.sizeOf5
 v5:=Tryz.zeroValue5
 t9:=Tryz.underlying9
 a9:=Tryz.isAgg9
 z9:=Tryz.sizeOf9
 v9:=Tryz.zeroValue9
 t20:=Tryz.underlying20
 a20:=Tryz.isAgg20
 z20:=Tryz.sizeOf20
 v20:=Tryz.zeroValue20
 t21:=Tryz.underlying21
 a21:=Tryz.isAgg21
 z21:=Tryz.sizeOf21
 v21:=Tryz.zeroValue21
 t37:=Tryz.underlying296
 a37:=Tryz.isAgg296
 z37:=Tryz.sizeOf296
 v37:=Tryz.zeroValue296
 t46:=Tryz.underlying101
 a46:=Tryz.isAgg101
 z46:=Tryz.sizeOf101
 v46:=Tryz.zeroValue101
 t51:=Tryz.underlying173
 a51:=Tryz.isAgg173
 z51:=Tryz.sizeOf173
 v51:=Tryz.zeroValue173
 t53:=Tryz.underlying175
 a53:=Tryz.isAgg175
 z53:=Tryz.sizeOf175
 v53:=Tryz.zeroValue175
 t75:=Tryz.underlying257
 a75:=Tryz.isAgg257
 z75:=Tryz.sizeOf257
 v75:=Tryz.zeroValue257
 t76:=Tryz.underlying258
 a76:=Tryz.isAgg258
 z76:=Tryz.sizeOf258
 v76:=Tryz.zeroValue258
 t85:=Tryz.underlying353
 a85:=Tryz.isAgg353
 z85:=Tryz.sizeOf353
 v85:=Tryz.zeroValue353
 t127:=Tryz.underlying366
 a127:=Tryz.isAgg366
 z127:=Tryz.sizeOf366
 v127:=Tryz.zeroValue366
 t143:=Tryz.underlying391
 a143:=Tryz.isAgg391
 z143:=Tryz.sizeOf391
 v143:=Tryz.zeroValue391
 t145:=Tryz.underlying393
 a145:=Tryz.isAgg393
 z145:=Tryz.sizeOf393
 v145:=Tryz.zeroValue393
 t167:=Tryz.underlying352
 a167:=Tryz.isAgg352
 z167:=Tryz.sizeOf352
 v167:=Tryz.zeroValue352
 t168:=Tryz.underlying355
 a168:=Tryz.isAgg355
 z168:=Tryz.sizeOf355
 v168:=Tryz.zeroValue355
 t171:=Tryz.underlying358
 a171:=Tryz.isAgg358
 z171:=Tryz.sizeOf358
 v171:=Tryz.zeroValue358
 t173:=Tryz.underlying360
 a173:=Tryz.isAgg360
 z173:=Tryz.sizeOf360
 v173:=Tryz.zeroValue360
 t175:=Tryz.underlying374
 a175:=Tryz.isAgg374
 z175:=Tryz.sizeOf374
 v175:=Tryz.zeroValue374
 t210:=Tryz.underlying377
 a210:=Tryz.isAgg377
 z210:=Tryz.sizeOf377
 v210:=Tryz.zeroValue377
 t212:=Tryz.underlying380
 a212:=Tryz.isAgg380
 z212:=Tryz.sizeOf380
 v212:=Tryz.zeroValue380
 t213:=Tryz.underlying381
 a213:=Tryz.isAgg381
 z213:=Tryz.sizeOf381
 t232:=Tryz.underlying401
 a232:=Tryz.isAgg401
 z232:=Tryz.sizeOf401
 v232:=Tryz.zeroValue401
 t233:=Tryz.underlying402
 a233:=Tryz.isAgg402
 z233:=Tryz.sizeOf402
 v233:=Tryz.zeroValue402
 g15:=by kernel_rfl
 g16:=by kernel_rfl
 g17:=by kernel_rfl
 g18:=by kernel_rfl
 g19:=by kernel_rfl }
open Go.RowKit in
theorem Tryz.strconv_Atoi(s:ByteArray)(n:Int)(hl:s.size≤18)(h:Lib.atoi s.data.toList=some n)(w:World) :
  Calls Tryz.prog 197 #[.string s] w fun e w'=>e=.returned (.tuple #[.int .i64 n,.nilIface])∧∃ t,w'=Lib.bytesWorld w 5 t:=Any.strconv_Atoi Tryz.lays172 s n hl h w
def Tryz.laysM171_ren:Go.Shelf.Ren:=⟨fun | 171=>143 | 243=>198 | 246=>262 | 283=>302 | 284=>303 | 285=>304 | 286=>305 | 129=>112 | 317=>323 | 318=>324 | 319=>325 | 320=>326 | 337=>340 | 338=>341 | n=>n,fun | 3=>3 | 9=>9 | 2=>2 | 4=>4 | 171=>358 | 0=>0 | 53=>175 | 37=>296 | 5=>5 | 173=>360 | 212=>380 | 51=>173 | 20=>20 | 213=>381 | 46=>101 | 232=>401 | 233=>402 | n=>n,fun | 17=>5 | 18=>9 | 19=>10 | n=>n⟩
theorem Tryz.laysM171:Go.Proofs.LaysM.n171 Tryz.prog Tryz.laysM171_ren:={
 mixed:=by kernel_rfl
 f129:=Tryz.func112.trans (congrArg some (by kernel_rfl))
 f171:=Tryz.func143.trans (congrArg some (by kernel_rfl))
 f243:=Tryz.func198.trans (congrArg some (by kernel_rfl))
 f246:=Tryz.func262.trans (congrArg some (by kernel_rfl))
 f283:=Tryz.func302.trans (congrArg some (by kernel_rfl))
 f284:=Tryz.func303.trans (congrArg some (by kernel_rfl))
 f285:=Tryz.func304.trans (congrArg some (by kernel_rfl))
 f286:=Tryz.func305.trans (congrArg some (by kernel_rfl))
 f317:=Tryz.func323.trans (congrArg some (by kernel_rfl))
 f318:=Tryz.func324.trans (congrArg some (by kernel_rfl))
 f319:=Tryz.func325.trans (congrArg some (by kernel_rfl))
 f320:=Tryz.func326.trans (congrArg some (by kernel_rfl))
 f337:=Tryz.func340.trans (congrArg some (by kernel_rfl))
 f338:=Tryz.func341.trans (congrArg some (by kernel_rfl))
 t0:=Tryz.underlying0
 a0:=Tryz.isAgg0
 z0:=Tryz.sizeOf0
 v0:=Tryz.zeroValue0
 t2:=Tryz.underlying2
 a2:=Tryz.isAgg2
 z2:=Tryz.sizeOf2
 v2:=Tryz.zeroValue2
 t3:=Tryz.underlying3
 a3:=Tryz.isAgg3
 z3:=Tryz.sizeOf3
 v3:=Tryz.zeroValue3
 t4:=Tryz.underlying4
 a4:=Tryz.isAgg4
 z4:=Tryz.sizeOf4
 v4:=Tryz.zeroValue4
 t5:=Tryz.underlying5
 a5:=Tryz.isAgg5
 z5:=Tryz.sizeOf5
 v5:=Tryz.zeroValue5
 t9:=Tryz.underlying9
 a9:=Tryz.isAgg9
 z9:=Tryz.sizeOf9
 v9:=Tryz.zeroValue9
 t20:=Tryz.underlying20
 a20:=Tryz.isAgg20
 z20:=Tryz.sizeOf20
 v20:=Tryz.zeroValue20
 t37:=Tryz.underlying296
 a37:=Tryz.isAgg296
 z37:=Tryz.sizeOf296
 v37:=Tryz.zeroValue296
 t46:=Tryz.underlying101
 a46:=Tryz.isAgg101
 z46:=Tryz.sizeOf101
 v46:=Tryz.zeroValue101
 t51:=Tryz.underlying173
 a51:=Tryz.isAgg173
 z51:=Tryz.sizeOf173
 v51:=Tryz.zeroValue173
 t53:=Tryz.underlying175
 a53:=Tryz.isAgg175
 z53:=Tryz.sizeOf175
 v53:=Tryz.zeroValue175
 t171:=Tryz.underlying358
 a171:=Tryz.isAgg358
 z171:=Tryz.sizeOf358
 v171:=Tryz.zeroValue358
 t173:=Tryz.underlying360
 a173:=Tryz.isAgg360
 z173:=Tryz.sizeOf360
 v173:=Tryz.zeroValue360
 t212:=Tryz.underlying380
 a212:=Tryz.isAgg380
 z212:=Tryz.sizeOf380
 v212:=Tryz.zeroValue380
 t213:=Tryz.underlying381
 a213:=Tryz.isAgg381
 z213:=Tryz.sizeOf381
 t232:=Tryz.underlying401
 a232:=Tryz.isAgg401
 z232:=Tryz.sizeOf401
 v232:=Tryz.zeroValue401
 t233:=Tryz.underlying402
 a233:=Tryz.isAgg402
 z233:=Tryz.sizeOf402
 v233:=Tryz.zeroValue402
 g17:=by kernel_rfl
 g18:=by kernel_rfl
 g19:=by kernel_rfl
 i0:=by kernel_rfl
 i2:=by kernel_rfl
 i3:=by kernel_rfl
 i4:=by kernel_rfl
 i5:=by kernel_rfl
 i9:=by kernel_rfl
 i20:=by kernel_rfl
 i37:=by kernel_rfl
 i46:=by kernel_rfl
 i51:=by kernel_rfl
 i53:=by kernel_rfl
 i171:=by kernel_rfl
 i173:=by kernel_rfl
 i212:=by kernel_rfl
 i232:=by kernel_rfl
 i233:=by kernel_rfl
 m17:=by kernel_rfl
 m18:=by kernel_rfl
 m19:=by kernel_rfl }
open Go.RowKit Go.Sort Go.Lib in
theorem Tryz.strconv_Itoa (n : Int) (h0 : -9223372036854775808 ≤ n) (h1 : n ≤ 9223372036854775807) (w : World) (htab : Lib.TabIs Tryz.prog w "internal/strconv.uint64pow10" .u64 Lib.pow10Tab) :
  Calls Tryz.prog 143 #[.int .i64 n] w fun e w'=>e=.returned (.string ⟨(Lib.itoa n).toArray⟩)∧∃ k os,w'=grow (w.drewN k) os:=Any.strconv_Itoa Tryz.laysM171 n h0 h1 w htab
def Tryz.lays144_ren:Go.Shelf.Ren:=⟨fun | 144=>282 | 143=>313 | 219=>311 | 217=>331 | 225=>332 | 224=>333 | 267=>334 | 266=>343 | 314=>344 | n=>n,fun | 9=>9 | 4=>4 | 3=>3 | 5=>5 | 46=>101 | 146=>384 | 51=>173 | n=>n,fun | 1=>6 | n=>n⟩
theorem Tryz.lays144:Go.Proofs.Lays.n144 Tryz.prog Tryz.lays144_ren:={
 mixed:=by kernel_rfl
 f143:=Tryz.func313.trans (congrArg some (by kernel_rfl))
 f144:=Tryz.func282.trans (congrArg some (by kernel_rfl))
 f217:=Tryz.func331.trans (congrArg some (by kernel_rfl))
 f219:=Tryz.func311.trans (congrArg some (by kernel_rfl))
 f224:=Tryz.func333.trans (congrArg some (by kernel_rfl))
 f225:=Tryz.func332.trans (congrArg some (by kernel_rfl))
 f266:=Tryz.func343.trans (congrArg some (by kernel_rfl))
 f267:=Tryz.func334.trans (congrArg some (by kernel_rfl))
 f314:=Tryz.func344.trans (congrArg some (by kernel_rfl))
 t3:=Tryz.underlying3
 a3:=Tryz.isAgg3
 z3:=Tryz.sizeOf3
 v3:=Tryz.zeroValue3
 t4:=Tryz.underlying4
 a4:=Tryz.isAgg4
 z4:=Tryz.sizeOf4
 v4:=Tryz.zeroValue4
 t5:=Tryz.underlying5
 a5:=Tryz.isAgg5
 z5:=Tryz.sizeOf5
 v5:=Tryz.zeroValue5
 t9:=Tryz.underlying9
 a9:=Tryz.isAgg9
 z9:=Tryz.sizeOf9
 v9:=Tryz.zeroValue9
 t46:=Tryz.underlying101
 a46:=Tryz.isAgg101
 z46:=Tryz.sizeOf101
 v46:=Tryz.zeroValue101
 t51:=Tryz.underlying173
 a51:=Tryz.isAgg173
 z51:=Tryz.sizeOf173
 v51:=Tryz.zeroValue173
 t146:=Tryz.underlying384
 a146:=Tryz.isAgg384
 z146:=Tryz.sizeOf384
 v146:=Tryz.zeroValue384
 g1:=by kernel_rfl }
open Go.RowKit Go.Lib in
theorem Tryz.strings_Contains(s sub:ByteArray)(m:Int)(w:World)(hs:s.size<4294967281)(hm:w.cell? ⟨6,0,none⟩=some (.int .i64 m)) :
  Calls Tryz.prog 282 #[.string s,.string sub] w fun e w'=>e=.returned (.bool (Lib.contains s.data.toList sub.data.toList))∧w'=w:=Any.strings_Contains Tryz.lays144 s sub m w hs hm
def Tryz.lays145_ren:Go.Shelf.Ren:=⟨fun | 145=>209 | 220=>274 | 219=>311 | 217=>331 | 225=>332 | 224=>333 | 267=>334 | 266=>343 | 314=>344 | n=>n,fun | 9=>9 | 4=>4 | 59=>269 | 3=>3 | 5=>5 | 46=>101 | 146=>384 | 51=>173 | n=>n,fun | 1=>6 | n=>n⟩
theorem Tryz.lays145:Go.Proofs.Lays.n145 Tryz.prog Tryz.lays145_ren:={
 mixed:=by kernel_rfl
 f145:=Tryz.func209.trans (congrArg some (by kernel_rfl))
 f217:=Tryz.func331.trans (congrArg some (by kernel_rfl))
 f219:=Tryz.func311.trans (congrArg some (by kernel_rfl))
 f220:=Tryz.func274.trans (congrArg some (by kernel_rfl))
 f224:=Tryz.func333.trans (congrArg some (by kernel_rfl))
 f225:=Tryz.func332.trans (congrArg some (by kernel_rfl))
 f266:=Tryz.func343.trans (congrArg some (by kernel_rfl))
 f267:=Tryz.func334.trans (congrArg some (by kernel_rfl))
 f314:=Tryz.func344.trans (congrArg some (by kernel_rfl))
 t3:=Tryz.underlying3
 a3:=Tryz.isAgg3
 z3:=Tryz.sizeOf3
 v3:=Tryz.zeroValue3
 t4:=Tryz.underlying4
 a4:=Tryz.isAgg4
 z4:=Tryz.sizeOf4
 v4:=Tryz.zeroValue4
 t5:=Tryz.underlying5
 a5:=Tryz.isAgg5
 z5:=Tryz.sizeOf5
 v5:=Tryz.zeroValue5
 t9:=Tryz.underlying9
 a9:=Tryz.isAgg9
 z9:=Tryz.sizeOf9
 v9:=Tryz.zeroValue9
 t46:=Tryz.underlying101
 a46:=Tryz.isAgg101
 z46:=Tryz.sizeOf101
 v46:=Tryz.zeroValue101
 t51:=Tryz.underlying173
 a51:=Tryz.isAgg173
 z51:=Tryz.sizeOf173
 v51:=Tryz.zeroValue173
 t59:=Tryz.underlying269
 a59:=Tryz.isAgg269
 z59:=Tryz.sizeOf269
 v59:=Tryz.zeroValue269
 t146:=Tryz.underlying384
 a146:=Tryz.isAgg384
 z146:=Tryz.sizeOf384
 v146:=Tryz.zeroValue384
 g1:=by kernel_rfl }
open Go.RowKit Go.Lib in
theorem Tryz.strings_Cut(s sep:ByteArray)(m:Int)(w:World)(hs:s.size<4294967281)(hm:w.cell? ⟨6,0,none⟩=some (.int .i64 m)) :
  Calls Tryz.prog 209 #[.string s,.string sep] w fun e w'=>e=.returned (.tuple #[.string ⟨(Lib.cut s.data.toList sep.data.toList).1.toArray⟩,.string ⟨(Lib.cut s.data.toList sep.data.toList).2.1.toArray⟩,.bool (Lib.cut s.data.toList sep.data.toList).2.2])∧∃ n,w'=w.drewN n:=Any.strings_Cut Tryz.lays145 s sep m w hs hm
def Tryz.lays189_ren:Go.Shelf.Ren:=⟨fun | 189=>25 | 125=>53 | 257=>52 | 128=>111 | 129=>112 | 294=>102 | 295=>103 | 296=>104 | 297=>105 | 298=>106 | 299=>107 | 216=>108 | 300=>109 | 301=>110 | 328=>169 | 329=>170 | 330=>171 | 331=>172 | 332=>173 | 215=>153 | 343=>234 | n=>n,fun | 28=>29 | 3=>3 | 46=>101 | 0=>0 | 51=>173 | 53=>175 | 4=>4 | 183=>166 | 182=>165 | 131=>170 | 5=>5 | 9=>9 | 218=>229 | 222=>233 | 228=>292 | 229=>293 | n=>n,fun | n=>n⟩
theorem Tryz.lays189:Go.Proofs.Lays.n189 Tryz.prog Tryz.lays189_ren:={
 mixed:=by kernel_rfl
 f125:=Tryz.func53.trans (congrArg some (by kernel_rfl))
 f128:=Tryz.func111.trans (congrArg some (by kernel_rfl))
 f129:=Tryz.func112.trans (congrArg some (by kernel_rfl))
 f189:=Tryz.func25.trans (congrArg some (by kernel_rfl))
 f215:=Tryz.func153.trans (congrArg some (by kernel_rfl))
 f216:=Tryz.func108.trans (congrArg some (by kernel_rfl))
 f257:=Tryz.func52.trans (congrArg some (by kernel_rfl))
 f294:=Tryz.func102.trans (congrArg some (by kernel_rfl))
 f295:=Tryz.func103.trans (congrArg some (by kernel_rfl))
 f296:=Tryz.func104.trans (congrArg some (by kernel_rfl))
 f297:=Tryz.func105.trans (congrArg some (by kernel_rfl))
 f298:=Tryz.func106.trans (congrArg some (by kernel_rfl))
 f299:=Tryz.func107.trans (congrArg some (by kernel_rfl))
 f300:=Tryz.func109.trans (congrArg some (by kernel_rfl))
 f301:=Tryz.func110.trans (congrArg some (by kernel_rfl))
 f328:=Tryz.func169.trans (congrArg some (by kernel_rfl))
 f329:=Tryz.func170.trans (congrArg some (by kernel_rfl))
 f330:=Tryz.func171.trans (congrArg some (by kernel_rfl))
 f331:=Tryz.func172.trans (congrArg some (by kernel_rfl))
 f332:=Tryz.func173.trans (congrArg some (by kernel_rfl))
 f343:=Tryz.func234.trans (congrArg some (by kernel_rfl))
 t0:=Tryz.underlying0
 a0:=Tryz.isAgg0
 z0:=Tryz.sizeOf0
 v0:=Tryz.zeroValue0
 t3:=Tryz.underlying3
 a3:=Tryz.isAgg3
 z3:=Tryz.sizeOf3
 v3:=Tryz.zeroValue3
 t4:=Tryz.underlying4
 a4:=Tryz.isAgg4
 z4:=Tryz.sizeOf4
 v4:=Tryz.zeroValue4
 t5:=Tryz.underlying5
 a5:=Tryz.isAgg5
 z5:=Tryz.sizeOf5
 v5:=Tryz.zeroValue5
 t9:=Tryz.underlying9
 a9:=Tryz.isAgg9
 z9:=Tryz.sizeOf9
 v9:=Tryz.zeroValue9
 t28:=Tryz.underlying29
 a28:=Tryz.isAgg29
 z28:=Tryz.sizeOf29
 v28:=Tryz.zeroValue29
 t46:=Tryz.underlying101
 a46:=Tryz.isAgg101
 z46:=Tryz.sizeOf101
 v46:=Tryz.zeroValue101
 t51:=Tryz.underlying173
 a51:=Tryz.isAgg173
 z51:=Tryz.sizeOf173
 v51:=Tryz.zeroValue173
 t53:=Tryz.underlying175
 a53:=Tryz.isAgg175
 z53:=Tryz.sizeOf175
 v53:=Tryz.zeroValue175
 t131:=Tryz.underlying170
 a131:=Tryz.isAgg170
 z131:=Tryz.sizeOf170
 v131:=Tryz.zeroValue170
 t182:=Tryz.underlying165
 a182:=Tryz.isAgg165
 z182:=Tryz.sizeOf165
 v182:=Tryz.zeroValue165
 t183:=Tryz.underlying166
 a183:=Tryz.isAgg166
 z183:=Tryz.sizeOf166
 v183:=Tryz.zeroValue166
 t218:=Tryz.underlying229
 a218:=Tryz.isAgg229
 z218:=Tryz.sizeOf229
 v218:=Tryz.zeroValue229
 t222:=Tryz.underlying233
 a222:=Tryz.isAgg233
 z222:=Tryz.sizeOf233
 v222:=Tryz.zeroValue233
 t228:=Tryz.underlying292
 a228:=Tryz.isAgg292
 z228:=Tryz.sizeOf292
 v228:=Tryz.zeroValue292
 t229:=Tryz.underlying293
 a229:=Tryz.isAgg293
 z229:=Tryz.sizeOf293
 v229:=Tryz.zeroValue293 }
open Go.Sort Go.RowKit in
theorem Tryz.slices_Sort_int(blk off cap:Nat)(zs:List Int)(w:World)(hH:Holds (Value.int .i64) w blk off zs.toArray)(hblk:blk<w.heap.size)(hsz:zs.length<4611686018427387904) :
  Calls Tryz.prog 25 #[.slice (some ⟨blk,off,none⟩) zs.length cap] w fun e w' =>
   e=.returned (.tuple #[])∧∃ n os,w'=grow (putRow (Value.int .i64) (Sort.ahead w n) blk off (zs.mergeSort fun x y=>decide (x≤y)).toArray) os:=Any.slices_Sort_int Tryz.lays189 blk off cap zs w hH hblk hsz
def Tryz.lays99_ren:Go.Shelf.Ren:=⟨fun | 99=>96 | 206=>164 | n=>n,fun | 9=>9 | 4=>4 | 3=>3 | n=>n,fun | n=>n⟩
theorem Tryz.lays99:Go.Proofs.Lays.n99 Tryz.prog Tryz.lays99_ren:={
 mixed:=by kernel_rfl
 f99:=Tryz.func96.trans (congrArg some (by kernel_rfl))
 f206:=Tryz.func164.trans (congrArg some (by kernel_rfl))
 t3:=Tryz.underlying3
 a3:=Tryz.isAgg3
 z3:=Tryz.sizeOf3
 v3:=Tryz.zeroValue3
 t4:=Tryz.underlying4
 a4:=Tryz.isAgg4
 z4:=Tryz.sizeOf4
 v4:=Tryz.zeroValue4
 t9:=Tryz.underlying9
 a9:=Tryz.isAgg9
 z9:=Tryz.sizeOf9
 v9:=Tryz.zeroValue9 }
open Go.RowKit Go.Lib in
theorem Tryz.strings_HasPrefix(s p:ByteArray)(w:World) :
  Calls Tryz.prog 96 #[.string s,.string p] w fun e w'=>e=.returned (.bool (Lib.hasPrefix s.data.toList p.data.toList))∧w'=w:=Any.strings_HasPrefix Tryz.lays99 s p w
def Tryz.lays101_ren:Go.Shelf.Ren:=⟨fun | 101=>155 | 208=>211 | 206=>164 | n=>n,fun | 9=>9 | 4=>4 | 3=>3 | n=>n,fun | n=>n⟩
theorem Tryz.lays101:Go.Proofs.Lays.n101 Tryz.prog Tryz.lays101_ren:={
 mixed:=by kernel_rfl
 f101:=Tryz.func155.trans (congrArg some (by kernel_rfl))
 f206:=Tryz.func164.trans (congrArg some (by kernel_rfl))
 f208:=Tryz.func211.trans (congrArg some (by kernel_rfl))
 t3:=Tryz.underlying3
 a3:=Tryz.isAgg3
 z3:=Tryz.sizeOf3
 v3:=Tryz.zeroValue3
 t4:=Tryz.underlying4
 a4:=Tryz.isAgg4
 z4:=Tryz.sizeOf4
 v4:=Tryz.zeroValue4
 t9:=Tryz.underlying9
 a9:=Tryz.isAgg9
 z9:=Tryz.sizeOf9
 v9:=Tryz.zeroValue9 }
open Go.RowKit Go.Lib in
theorem Tryz.strings_TrimPrefix(s p:ByteArray)(w:World) :
  Calls Tryz.prog 155 #[.string s,.string p] w fun e w'=>e=.returned (.string ⟨(Lib.trimPrefix s.data.toList p.data.toList).toArray⟩)∧w'=w:=Any.strings_TrimPrefix Tryz.lays101 s p w
def Tryz.lays107_ren:Go.Shelf.Ren:=⟨fun | 107=>7 | 108=>26 | n=>n,fun | 28=>29 | 3=>3 | 4=>4 | 0=>0 | n=>n,fun | n=>n⟩
theorem Tryz.lays107:Go.Proofs.Lays.n107 Tryz.prog Tryz.lays107_ren:={
 mixed:=by kernel_rfl
 f107:=Tryz.func7.trans (congrArg some (by kernel_rfl))
 f108:=Tryz.func26.trans (congrArg some (by kernel_rfl))
 t0:=Tryz.underlying0
 a0:=Tryz.isAgg0
 z0:=Tryz.sizeOf0
 v0:=Tryz.zeroValue0
 t3:=Tryz.underlying3
 a3:=Tryz.isAgg3
 z3:=Tryz.sizeOf3
 v3:=Tryz.zeroValue3
 t4:=Tryz.underlying4
 a4:=Tryz.isAgg4
 z4:=Tryz.sizeOf4
 v4:=Tryz.zeroValue4
 t28:=Tryz.underlying29
 a28:=Tryz.isAgg29
 z28:=Tryz.sizeOf29
 v28:=Tryz.zeroValue29 }
open Go.Lib in
theorem Tryz.slices_Contains_int(b off n c:Nat)(zs:List Int)(x:Int)(w:World)(hz:n≤zs.length)(hbig:n≤9223372036854775807)(hc:∀ j,j<zs.length→w.cell? ⟨b,off+j,none⟩=some (.int .i64 (zs.getD j 0))) :
  Calls Tryz.prog 7 #[.slice (some ⟨b,off,none⟩) n c,.int .i64 x] w fun e w'=>e=.returned (.bool ((zs.take n).contains x))∧w'=w:=Any.slices_Contains_int Tryz.lays107 b off n c zs x w hz hbig hc
def Tryz.laysNm215_ren:Go.Shelf.Ren:=⟨fun | 15=>11 | n=>n,fun | 22=>29 | 3=>3 | 4=>4 | n=>n,fun | n=>n⟩
theorem Tryz.laysNm215:Go.Proofs.Lays2.n15 Tryz.prog Tryz.laysNm215_ren:={
 mixed:=by kernel_rfl
 f15:=Tryz.func11.trans (congrArg some (by kernel_rfl))
 t3:=Tryz.underlying3
 a3:=Tryz.isAgg3
 z3:=Tryz.sizeOf3
 v3:=Tryz.zeroValue3
 t4:=Tryz.underlying4
 a4:=Tryz.isAgg4
 z4:=Tryz.sizeOf4
 v4:=Tryz.zeroValue4
 t22:=Tryz.underlying29
 a22:=Tryz.isAgg29
 z22:=Tryz.sizeOf29
 v22:=Tryz.zeroValue29
 i3:=by kernel_rfl }
open Go.RowKit Go.Lib in
theorem Tryz.slices_Clone_int(b off n c:Nat)(zs:List Int)(w:World)(hz:n≤zs.length)(hbig:n*8≤140737488355328)(hc:∀ j,j<zs.length→w.cell? ⟨b,off+j,none⟩=some (.int .i64 (zs.getD j 0))) :
  Calls Tryz.prog 11 #[.slice (some ⟨b,off,none⟩) n c] w fun e w'=>∃ v',e=.returned v'∧w'.ownsRow w.heap.size 3 1 v' n ((zs.take n).map (Value.int .i64))∧v'≠.slice none 0 0∧Below w.heap.size w w':=Any.slices_Clone_int Tryz.laysNm215 b off n c zs w hz hbig hc
end Go.Proofs
