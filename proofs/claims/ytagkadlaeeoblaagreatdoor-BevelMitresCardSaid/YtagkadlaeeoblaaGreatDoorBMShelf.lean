/-
  The library's contracts at this program: laid by the kit's tools lay-shelf.mjs and lay-plain.mjs, cut down by dev_prune.py.
-/
import Derived.Test.YtagkadlaeeoblaaGreatDoorProg
import Derived.Shelf.Strings.Builder1
import Derived.Shelf.Strings.Builder2
import Derived.Shelf.Strings.Trim
import Derived.Shelf.Small.Utf8
import Derived.Shelf.Small.Bits
import Derived.Shelf.Small.Strs
import Derived.Shelf.Small.Wraps
import Derived.Shelf.Strings.BuilderF
import Derived.Shelf.Strings.BuilderK
import Derived.Shelf.Strings.Builder2Cap
import Derived.Shelf.Strconv.Atoi
import Derived.Shelf.Strconv.Itoa0
import Derived.Shelf.Strconv.Itoa1
import Derived.Shelf.LaysM
import Derived.Shelf.Strconv.Itoa2
import Derived.Shelf.Strconv.Itoa3
import Derived.Shelf.Strconv.AtoiErrFast
import Derived.Shelf.Strconv.ParseIntEmpty
import Derived.Shelf.Strconv.AtoiFail
import Derived.Shelf.Strconv.Clone
import Derived.Shelf.Strconv.SyntaxError
import Derived.Shelf.LaysC
import Derived.Shelf.Strconv.ToError
import Derived.Shelf.Strconv.Lower
import Derived.Shelf.Strconv.ParseUint10
import Derived.Shelf.Strconv.ParseUint10Empty
import Derived.Shelf.Strconv.ParseUint10Any
import Derived.Shelf.Strconv.ParseInt10
import Derived.Shelf.Strconv.AtoiLong
import Derived.Shelf.Strconv.AtoiInnerAll
import Derived.Shelf.Strconv.RangeError
import Derived.Shelf.Strconv.ToErrorRange
import Derived.Shelf.Strconv.AtoiAll
import Derived.Shelf.Strconv.ErrVarAll
import Derived.Shelf.Strings.Search1
import Derived.Shelf.Strings.Search2
import Derived.Shelf.Strings.Search3
import Derived.Shelf.Strings.Cut
import Derived.Shelf.Strings.Shaped
import Derived.Shelf.Strings.Prefix
import Derived.Shelf.Strings.Runes
import Derived.Shelf.Strings.AsciiSet
import Derived.Shelf.Bits.Mul64
import Derived.Shelf.Strings.Repeat
import Derived.Shelf.Unicode.DecodeSlow
namespace Go.Proofs
open Go.Shelf
def Tryz.lays169_ren:Go.Shelf.Ren:=⟨fun | 169=>225 | n=>n,fun | 70=>297 | 9=>9 | 0=>0 | 72=>299 | 37=>134 | 127=>333 | 3=>3 | 5=>5 | n=>n,fun | n=>n⟩
theorem Tryz.lays169:Go.Proofs.Lays.n169 Tryz.prog Tryz.lays169_ren:={
 mixed:=by kernel_rfl
 f169:=Tryz.func225.trans (congrArg some (by kernel_rfl))
 t0:=Tryz.underlying0
 a0:=Tryz.isAgg0
 z0:=Tryz.sizeOf0
 v0:=Tryz.zeroValue0
 t3:=Tryz.underlying3
 a3:=Tryz.isAgg3
 z3:=Tryz.sizeOf3
 v3:=Tryz.zeroValue3
 t9:=Tryz.underlying9
 a9:=Tryz.isAgg9
 z9:=Tryz.sizeOf9
 v9:=Tryz.zeroValue9
 t37:=Tryz.underlying134
 a37:=Tryz.isAgg134
 z37:=Tryz.sizeOf134
 v37:=Tryz.zeroValue134
 t70:=Tryz.underlying297
 a70:=Tryz.isAgg297
 z70:=Tryz.sizeOf297
 v70:=Tryz.zeroValue297
 t72:=Tryz.underlying299
 a72:=Tryz.isAgg299
 z72:=Tryz.sizeOf299
 v72:=Tryz.zeroValue299
 t127:=Tryz.underlying333
 a127:=Tryz.isAgg333
 z127:=Tryz.sizeOf333
 v127:=Tryz.zeroValue333 }
theorem Tryz.Builder_Extra_169:Builder.Extra Tryz.prog Tryz.lays169_ren:={
 sizeBuilder:=by kernel_rfl
 liesBuilder:=by kernel_rfl
 t5:=Tryz.underlying5
 a5:=Tryz.isAgg5
 z5:=Tryz.sizeOf5
 v5:=Tryz.zeroValue5
 infoByte:=by kernel_rfl
 cellsByte:=by kernel_rfl
 sizeByte:=by kernel_rfl
 neB5:=by decide }
def Tryz.lays160_ren:Go.Shelf.Ren:=⟨fun | 160=>231 | 232=>264 | 231=>263 | 227=>265 | 234=>267 | 233=>266 | 236=>269 | 235=>268 | 228=>287 | 271=>290 | 151=>289 | 197=>288 | 120=>300 | 152=>299 | 260=>298 | 137=>303 | 119=>304 | 224=>285 | 225=>284 | 217=>283 | 266=>296 | n=>n,fun | 9=>9 | 4=>4 | 3=>3 | 5=>5 | 117=>337 | 116=>336 | 0=>0 | 124=>340 | 21=>21 | 105=>357 | 46=>202 | 119=>374 | 139=>377 | 138=>376 | n=>n,fun | 3=>11 | 4=>12 | n=>n⟩
theorem Tryz.lays160:Go.Proofs.Lays.n160 Tryz.prog Tryz.lays160_ren:={
 mixed:=by kernel_rfl
 f119:=Tryz.func304.trans (congrArg some (by kernel_rfl))
 f120:=Tryz.func300.trans (congrArg some (by kernel_rfl))
 f137:=Tryz.func303.trans (congrArg some (by kernel_rfl))
 f151:=Tryz.func289.trans (congrArg some (by kernel_rfl))
 f152:=Tryz.func299.trans (congrArg some (by kernel_rfl))
 f160:=Tryz.func231.trans (congrArg some (by kernel_rfl))
 f197:=Tryz.func288.trans (congrArg some (by kernel_rfl))
 f217:=Tryz.func283.trans (congrArg some (by kernel_rfl))
 f224:=Tryz.func285.trans (congrArg some (by kernel_rfl))
 f225:=Tryz.func284.trans (congrArg some (by kernel_rfl))
 f227:=Tryz.func265.trans (congrArg some (by kernel_rfl))
 f228:=Tryz.func287.trans (congrArg some (by kernel_rfl))
 f231:=Tryz.func263.trans (congrArg some (by kernel_rfl))
 f232:=Tryz.func264.trans (congrArg some (by kernel_rfl))
 f233:=Tryz.func266.trans (congrArg some (by kernel_rfl))
 f234:=Tryz.func267.trans (congrArg some (by kernel_rfl))
 f235:=Tryz.func268.trans (congrArg some (by kernel_rfl))
 f236:=Tryz.func269.trans (congrArg some (by kernel_rfl))
 f260:=Tryz.func298.trans (congrArg some (by kernel_rfl))
 f266:=Tryz.func296.trans (congrArg some (by kernel_rfl))
 f271:=Tryz.func290.trans (congrArg some (by kernel_rfl))
 t0:=Tryz.underlying0
 a0:=Tryz.isAgg0
 z0:=Tryz.sizeOf0
 v0:=Tryz.zeroValue0
 t3:=Tryz.underlying3
 a3:=Tryz.isAgg3
 z3:=Tryz.sizeOf3
 v3:=Tryz.zeroValue3
 t4:=Tryz.underlying4
 a4:=Tryz.isAgg4
 z4:=Tryz.sizeOf4
 v4:=Tryz.zeroValue4
 t5:=Tryz.underlying5
 a5:=Tryz.isAgg5
 z5:=Tryz.sizeOf5
 v5:=Tryz.zeroValue5
 t9:=Tryz.underlying9
 a9:=Tryz.isAgg9
 z9:=Tryz.sizeOf9
 v9:=Tryz.zeroValue9
 t21:=Tryz.underlying21
 a21:=Tryz.isAgg21
 z21:=Tryz.sizeOf21
 v21:=Tryz.zeroValue21
 t46:=Tryz.underlying202
 a46:=Tryz.isAgg202
 z46:=Tryz.sizeOf202
 v46:=Tryz.zeroValue202
 t105:=Tryz.underlying357
 a105:=Tryz.isAgg357
 z105:=Tryz.sizeOf357
 v105:=Tryz.zeroValue357
 t116:=Tryz.underlying336
 a116:=Tryz.isAgg336
 z116:=Tryz.sizeOf336
 t117:=Tryz.underlying337
 a117:=Tryz.isAgg337
 z117:=Tryz.sizeOf337
 v117:=Tryz.zeroValue337
 t119:=Tryz.underlying374
 a119:=Tryz.isAgg374
 z119:=Tryz.sizeOf374
 t124:=Tryz.underlying340
 a124:=Tryz.isAgg340
 z124:=Tryz.sizeOf340
 v124:=Tryz.zeroValue340
 t138:=Tryz.underlying376
 a138:=Tryz.isAgg376
 z138:=Tryz.sizeOf376
 v138:=Tryz.zeroValue376
 t139:=Tryz.underlying377
 a139:=Tryz.isAgg377
 z139:=Tryz.sizeOf377
 v139:=Tryz.zeroValue377
 g3:=by kernel_rfl
 g4:=by kernel_rfl }
def Tryz.lays125_ren:Go.Shelf.Ren:=⟨fun | 125=>127 | 128=>199 | 129=>200 | n=>n,fun | 46=>202 | 3=>3 | 51=>264 | 53=>266 | 4=>4 | 5=>5 | 9=>9 | n=>n,fun | n=>n⟩
theorem Tryz.lays125:Go.Proofs.Lays.n125 Tryz.prog Tryz.lays125_ren:={
 mixed:=by kernel_rfl
 f125:=Tryz.func127.trans (congrArg some (by kernel_rfl))
 f128:=Tryz.func199.trans (congrArg some (by kernel_rfl))
 f129:=Tryz.func200.trans (congrArg some (by kernel_rfl))
 t3:=Tryz.underlying3
 a3:=Tryz.isAgg3
 z3:=Tryz.sizeOf3
 v3:=Tryz.zeroValue3
 t4:=Tryz.underlying4
 a4:=Tryz.isAgg4
 z4:=Tryz.sizeOf4
 v4:=Tryz.zeroValue4
 t5:=Tryz.underlying5
 a5:=Tryz.isAgg5
 z5:=Tryz.sizeOf5
 v5:=Tryz.zeroValue5
 t9:=Tryz.underlying9
 a9:=Tryz.isAgg9
 z9:=Tryz.sizeOf9
 v9:=Tryz.zeroValue9
 t46:=Tryz.underlying202
 a46:=Tryz.isAgg202
 z46:=Tryz.sizeOf202
 v46:=Tryz.zeroValue202
 t51:=Tryz.underlying264
 a51:=Tryz.isAgg264
 z51:=Tryz.sizeOf264
 v51:=Tryz.zeroValue264
 t53:=Tryz.underlying266
 a53:=Tryz.isAgg266
 z53:=Tryz.sizeOf266
 v53:=Tryz.zeroValue266 }
theorem Tryz.bits_Len(x:Int)(w:World)(h0:0≤x)(h1:x≤18446744073709551615) :
  Calls Tryz.prog 127 #[.int .u64 x] w fun e w'=>e=.returned (.int .i64 (Lib.bitLen x.toNat))∧w'=w:=Any.bits_Len Tryz.lays125 x w h0 h1
def Tryz.lays103_ren:Go.Shelf.Ren:=⟨fun | 103=>176 | 210=>234 | 206=>122 | n=>n,fun | 9=>9 | 4=>4 | 24=>241 | 3=>3 | n=>n,fun | n=>n⟩
theorem Tryz.lays103:Go.Proofs.Lays.n103 Tryz.prog Tryz.lays103_ren:={
 mixed:=by kernel_rfl
 f103:=Tryz.func176.trans (congrArg some (by kernel_rfl))
 f206:=Tryz.func122.trans (congrArg some (by kernel_rfl))
 f210:=Tryz.func234.trans (congrArg some (by kernel_rfl))
 t3:=Tryz.underlying3
 a3:=Tryz.isAgg3
 z3:=Tryz.sizeOf3
 v3:=Tryz.zeroValue3
 t4:=Tryz.underlying4
 a4:=Tryz.isAgg4
 z4:=Tryz.sizeOf4
 v4:=Tryz.zeroValue4
 t9:=Tryz.underlying9
 a9:=Tryz.isAgg9
 z9:=Tryz.sizeOf9
 v9:=Tryz.zeroValue9
 t24:=Tryz.underlying241
 a24:=Tryz.isAgg241
 z24:=Tryz.sizeOf241
 v24:=Tryz.zeroValue241 }
open Go.RowKit in
theorem Tryz.strings_CutPrefix(s p:ByteArray)(w:World) :
  Calls Tryz.prog 176 #[.string s,.string p] w fun e w'=>e=.returned (.tuple #[.string ⟨(Lib.trimPrefix s.data.toList p.data.toList).toArray⟩,.bool (Lib.hasPrefix s.data.toList p.data.toList)])∧w'=w:=Any.strings_CutPrefix Tryz.lays103 s p w
def Tryz.lays122_ren:Go.Shelf.Ren:=⟨fun | 122=>128 | 215=>201 | n=>n,fun | 3=>3 | 4=>4 | n=>n,fun | n=>n⟩
theorem Tryz.lays122:Go.Proofs.Lays.n122 Tryz.prog Tryz.lays122_ren:={
 mixed:=by kernel_rfl
 f122:=Tryz.func128.trans (congrArg some (by kernel_rfl))
 f215:=Tryz.func201.trans (congrArg some (by kernel_rfl))
 t3:=Tryz.underlying3
 a3:=Tryz.isAgg3
 z3:=Tryz.sizeOf3
 v3:=Tryz.zeroValue3
 t4:=Tryz.underlying4
 a4:=Tryz.isAgg4
 z4:=Tryz.sizeOf4
 v4:=Tryz.zeroValue4 }
open Go.RowKit in
theorem Tryz.cmp_Compare_int(x y:Int)(w:World) :
  Calls Tryz.prog 128 #[.int .i64 x,.int .i64 y] w fun e w'=>e=.returned (.int .i64 (Lib.compareInt x y))∧w'=w:=Any.cmp_Compare_int Tryz.lays122 x y w
def Tryz.lays172_ren:Go.Shelf.Ren:=⟨fun | 172=>175 | 244=>232 | 245=>233 | 247=>270 | 279=>271 | 280=>272 | 281=>273 | 282=>274 | 287=>291 | 316=>292 | 171=>74 | 205=>293 | 321=>301 | 322=>302 | 243=>131 | 246=>202 | 283=>250 | 284=>251 | 285=>252 | 286=>253 | 129=>200 | 317=>277 | 318=>278 | 319=>279 | 320=>280 | 337=>294 | 338=>295 | n=>n,fun | 9=>9 | 3=>3 | 75=>238 | 76=>239 | 4=>4 | 5=>5 | 167=>341 | 37=>134 | 0=>0 | 85=>342 | 2=>2 | 168=>344 | 53=>266 | 175=>360 | 46=>202 | 210=>363 | 127=>333 | 145=>371 | 143=>369 | 21=>21 | 171=>323 | 173=>325 | 212=>350 | 51=>264 | 20=>20 | 213=>351 | 232=>372 | 233=>373 | 80=>302 | n=>n,fun | 15=>7 | 16=>8 | 17=>5 | 18=>9 | 19=>10 | n=>n⟩
theorem Tryz.lays172:Go.Proofs.Lays.n172 Tryz.prog Tryz.lays172_ren:={
 mixed:=by kernel_rfl
 f129:=Tryz.func200.trans (congrArg some (by kernel_rfl))
 f171:=Tryz.func74.trans (congrArg some (by kernel_rfl))
 f172:=Tryz.func175.trans (congrArg some (by kernel_rfl))
 f205:=Tryz.func293.trans (congrArg some (by kernel_rfl))
 f243:=Tryz.func131.trans (congrArg some (by kernel_rfl))
 f244:=Tryz.func232.trans (congrArg some (by kernel_rfl))
 f245:=Tryz.func233.trans (congrArg some (by kernel_rfl))
 f246:=Tryz.func202.trans (congrArg some (by kernel_rfl))
 f247:=Tryz.func270.trans (congrArg some (by kernel_rfl))
 f279:=Tryz.func271.trans (congrArg some (by kernel_rfl))
 f280:=Tryz.func272.trans (congrArg some (by kernel_rfl))
 f281:=Tryz.func273.trans (congrArg some (by kernel_rfl))
 f282:=Tryz.func274.trans (congrArg some (by kernel_rfl))
 f283:=Tryz.func250.trans (congrArg some (by kernel_rfl))
 f284:=Tryz.func251.trans (congrArg some (by kernel_rfl))
 f285:=Tryz.func252.trans (congrArg some (by kernel_rfl))
 f286:=Tryz.func253.trans (congrArg some (by kernel_rfl))
 f287:=Tryz.func291.trans (congrArg some (by kernel_rfl))
 f316:=Tryz.func292.trans (congrArg some (by kernel_rfl))
 f317:=Tryz.func277.trans (congrArg some (by kernel_rfl))
 f318:=Tryz.func278.trans (congrArg some (by kernel_rfl))
 f319:=Tryz.func279.trans (congrArg some (by kernel_rfl))
 f320:=Tryz.func280.trans (congrArg some (by kernel_rfl))
 f321:=Tryz.func301.trans (congrArg some (by kernel_rfl))
 f322:=Tryz.func302.trans (congrArg some (by kernel_rfl))
 f337:=Tryz.func294.trans (congrArg some (by kernel_rfl))
 f338:=Tryz.func295.trans (congrArg some (by kernel_rfl))
 t0:=Tryz.underlying0
 a0:=Tryz.isAgg0
 z0:=Tryz.sizeOf0
 v0:=Tryz.zeroValue0
 t2:=Tryz.underlying2
 a2:=Tryz.isAgg2
 z2:=Tryz.sizeOf2
 v2:=Tryz.zeroValue2
 t3:=Tryz.underlying3
 a3:=Tryz.isAgg3
 z3:=Tryz.sizeOf3
 v3:=Tryz.zeroValue3
 t4:=Tryz.underlying4
 a4:=Tryz.isAgg4
 z4:=Tryz.sizeOf4
 v4:=Tryz.zeroValue4
 t5:=Tryz.underlying5
 a5:=Tryz.isAgg5
 z5:=Tryz.sizeOf5
 v5:=Tryz.zeroValue5
 t9:=Tryz.underlying9
 a9:=Tryz.isAgg9
 z9:=Tryz.sizeOf9
 v9:=Tryz.zeroValue9
 t20:=Tryz.underlying20
 a20:=Tryz.isAgg20
 z20:=Tryz.sizeOf20
 v20:=Tryz.zeroValue20
 t21:=Tryz.underlying21
 a21:=Tryz.isAgg21
 z21:=Tryz.sizeOf21
 v21:=Tryz.zeroValue21
 t37:=Tryz.underlying134
 a37:=Tryz.isAgg134
 z37:=Tryz.sizeOf134
 v37:=Tryz.zeroValue134
 t46:=Tryz.underlying202
 a46:=Tryz.isAgg202
 z46:=Tryz.sizeOf202
 v46:=Tryz.zeroValue202
 t51:=Tryz.underlying264
 a51:=Tryz.isAgg264
 z51:=Tryz.sizeOf264
 v51:=Tryz.zeroValue264
 t53:=Tryz.underlying266
 a53:=Tryz.isAgg266
 z53:=Tryz.sizeOf266
 v53:=Tryz.zeroValue266
 t75:=Tryz.underlying238
 a75:=Tryz.isAgg238
 z75:=Tryz.sizeOf238
 v75:=Tryz.zeroValue238
 t76:=Tryz.underlying239
 a76:=Tryz.isAgg239
 z76:=Tryz.sizeOf239
 v76:=Tryz.zeroValue239
 t85:=Tryz.underlying342
 a85:=Tryz.isAgg342
 z85:=Tryz.sizeOf342
 v85:=Tryz.zeroValue342
 t127:=Tryz.underlying333
 a127:=Tryz.isAgg333
 z127:=Tryz.sizeOf333
 v127:=Tryz.zeroValue333
 t143:=Tryz.underlying369
 a143:=Tryz.isAgg369
 z143:=Tryz.sizeOf369
 v143:=Tryz.zeroValue369
 t145:=Tryz.underlying371
 a145:=Tryz.isAgg371
 z145:=Tryz.sizeOf371
 v145:=Tryz.zeroValue371
 t167:=Tryz.underlying341
 a167:=Tryz.isAgg341
 z167:=Tryz.sizeOf341
 v167:=Tryz.zeroValue341
 t168:=Tryz.underlying344
 a168:=Tryz.isAgg344
 z168:=Tryz.sizeOf344
 v168:=Tryz.zeroValue344
 t171:=Tryz.underlying323
 a171:=Tryz.isAgg323
 z171:=Tryz.sizeOf323
 v171:=Tryz.zeroValue323
 t173:=Tryz.underlying325
 a173:=Tryz.isAgg325
 z173:=Tryz.sizeOf325
 v173:=Tryz.zeroValue325
 t175:=Tryz.underlying360
 a175:=Tryz.isAgg360
 z175:=Tryz.sizeOf360
 v175:=Tryz.zeroValue360
 t210:=Tryz.underlying363
 a210:=Tryz.isAgg363
 z210:=Tryz.sizeOf363
 v210:=Tryz.zeroValue363
 t212:=Tryz.underlying350
 a212:=Tryz.isAgg350
 z212:=Tryz.sizeOf350
 v212:=Tryz.zeroValue350
 t213:=Tryz.underlying351
 a213:=Tryz.isAgg351
 z213:=Tryz.sizeOf351
 t232:=Tryz.underlying372
 a232:=Tryz.isAgg372
 z232:=Tryz.sizeOf372
 v232:=Tryz.zeroValue372
 t233:=Tryz.underlying373
 a233:=Tryz.isAgg373
 z233:=Tryz.sizeOf373
 v233:=Tryz.zeroValue373
 g15:=by kernel_rfl
 g16:=by kernel_rfl
 g17:=by kernel_rfl
 g18:=by kernel_rfl
 g19:=by kernel_rfl }
open Go.RowKit in
theorem Tryz.strconv_Atoi(s:ByteArray)(n:Int)(hl:s.size≤18)(h:Lib.atoi s.data.toList=some n)(w:World) :
  Calls Tryz.prog 175 #[.string s] w fun e w'=>e=.returned (.tuple #[.int .i64 n,.nilIface])∧∃ t,w'=Lib.bytesWorld w 5 t:=Any.strconv_Atoi Tryz.lays172 s n hl h w
def Tryz.laysM171_ren:Go.Shelf.Ren:=⟨fun | 171=>74 | 243=>131 | 246=>202 | 283=>250 | 284=>251 | 285=>252 | 286=>253 | 129=>200 | 317=>277 | 318=>278 | 319=>279 | 320=>280 | 337=>294 | 338=>295 | n=>n,fun | 3=>3 | 9=>9 | 2=>2 | 4=>4 | 171=>323 | 0=>0 | 53=>266 | 37=>134 | 5=>5 | 173=>325 | 212=>350 | 51=>264 | 20=>20 | 213=>351 | 46=>202 | 232=>372 | 233=>373 | n=>n,fun | 17=>5 | 18=>9 | 19=>10 | n=>n⟩
theorem Tryz.laysM171:Go.Proofs.LaysM.n171 Tryz.prog Tryz.laysM171_ren:={
 mixed:=by kernel_rfl
 f129:=Tryz.func200.trans (congrArg some (by kernel_rfl))
 f171:=Tryz.func74.trans (congrArg some (by kernel_rfl))
 f243:=Tryz.func131.trans (congrArg some (by kernel_rfl))
 f246:=Tryz.func202.trans (congrArg some (by kernel_rfl))
 f283:=Tryz.func250.trans (congrArg some (by kernel_rfl))
 f284:=Tryz.func251.trans (congrArg some (by kernel_rfl))
 f285:=Tryz.func252.trans (congrArg some (by kernel_rfl))
 f286:=Tryz.func253.trans (congrArg some (by kernel_rfl))
 f317:=Tryz.func277.trans (congrArg some (by kernel_rfl))
 f318:=Tryz.func278.trans (congrArg some (by kernel_rfl))
 f319:=Tryz.func279.trans (congrArg some (by kernel_rfl))
 f320:=Tryz.func280.trans (congrArg some (by kernel_rfl))
 f337:=Tryz.func294.trans (congrArg some (by kernel_rfl))
 f338:=Tryz.func295.trans (congrArg some (by kernel_rfl))
 t0:=Tryz.underlying0
 a0:=Tryz.isAgg0
 z0:=Tryz.sizeOf0
 v0:=Tryz.zeroValue0
 t2:=Tryz.underlying2
 a2:=Tryz.isAgg2
 z2:=Tryz.sizeOf2
 v2:=Tryz.zeroValue2
 t3:=Tryz.underlying3
 a3:=Tryz.isAgg3
 z3:=Tryz.sizeOf3
 v3:=Tryz.zeroValue3
 t4:=Tryz.underlying4
 a4:=Tryz.isAgg4
 z4:=Tryz.sizeOf4
 v4:=Tryz.zeroValue4
 t5:=Tryz.underlying5
 a5:=Tryz.isAgg5
 z5:=Tryz.sizeOf5
 v5:=Tryz.zeroValue5
 t9:=Tryz.underlying9
 a9:=Tryz.isAgg9
 z9:=Tryz.sizeOf9
 v9:=Tryz.zeroValue9
 t20:=Tryz.underlying20
 a20:=Tryz.isAgg20
 z20:=Tryz.sizeOf20
 v20:=Tryz.zeroValue20
 t37:=Tryz.underlying134
 a37:=Tryz.isAgg134
 z37:=Tryz.sizeOf134
 v37:=Tryz.zeroValue134
 t46:=Tryz.underlying202
 a46:=Tryz.isAgg202
 z46:=Tryz.sizeOf202
 v46:=Tryz.zeroValue202
 t51:=Tryz.underlying264
 a51:=Tryz.isAgg264
 z51:=Tryz.sizeOf264
 v51:=Tryz.zeroValue264
 t53:=Tryz.underlying266
 a53:=Tryz.isAgg266
 z53:=Tryz.sizeOf266
 v53:=Tryz.zeroValue266
 t171:=Tryz.underlying323
 a171:=Tryz.isAgg323
 z171:=Tryz.sizeOf323
 v171:=Tryz.zeroValue323
 t173:=Tryz.underlying325
 a173:=Tryz.isAgg325
 z173:=Tryz.sizeOf325
 v173:=Tryz.zeroValue325
 t212:=Tryz.underlying350
 a212:=Tryz.isAgg350
 z212:=Tryz.sizeOf350
 v212:=Tryz.zeroValue350
 t213:=Tryz.underlying351
 a213:=Tryz.isAgg351
 z213:=Tryz.sizeOf351
 t232:=Tryz.underlying372
 a232:=Tryz.isAgg372
 z232:=Tryz.sizeOf372
 v232:=Tryz.zeroValue372
 t233:=Tryz.underlying373
 a233:=Tryz.isAgg373
 z233:=Tryz.sizeOf373
 v233:=Tryz.zeroValue373
 g17:=by kernel_rfl
 g18:=by kernel_rfl
 g19:=by kernel_rfl
 i0:=by kernel_rfl
 i2:=by kernel_rfl
 i3:=by kernel_rfl
 i4:=by kernel_rfl
 i5:=by kernel_rfl
 i9:=by kernel_rfl
 i20:=by kernel_rfl
 i37:=by kernel_rfl
 i46:=by kernel_rfl
 i51:=by kernel_rfl
 i53:=by kernel_rfl
 i171:=by kernel_rfl
 i173:=by kernel_rfl
 i212:=by kernel_rfl
 i232:=by kernel_rfl
 i233:=by kernel_rfl
 m17:=by kernel_rfl
 m18:=by kernel_rfl
 m19:=by kernel_rfl }
open Go.RowKit Go.Sort Go.Lib in
theorem Tryz.strconv_Itoa (n : Int) (h0 : -9223372036854775808 ≤ n) (h1 : n ≤ 9223372036854775807) (w : World) (htab : Lib.TabIs Tryz.prog w "internal/strconv.uint64pow10" .u64 Lib.pow10Tab) :
  Calls Tryz.prog 74 #[.int .i64 n] w fun e w'=>e=.returned (.string ⟨(Lib.itoa n).toArray⟩)∧∃ k os,w'=grow (w.drewN k) os:=Any.strconv_Itoa Tryz.laysM171 n h0 h1 w htab
def Tryz.lays144_ren:Go.Shelf.Ren:=⟨fun | 144=>166 | 143=>227 | 219=>261 | 217=>283 | 225=>284 | 224=>285 | 267=>286 | 266=>296 | 314=>297 | n=>n,fun | 9=>9 | 4=>4 | 3=>3 | 5=>5 | 46=>202 | 146=>329 | 51=>264 | n=>n,fun | 1=>6 | n=>n⟩
theorem Tryz.lays144:Go.Proofs.Lays.n144 Tryz.prog Tryz.lays144_ren:={
 mixed:=by kernel_rfl
 f143:=Tryz.func227.trans (congrArg some (by kernel_rfl))
 f144:=Tryz.func166.trans (congrArg some (by kernel_rfl))
 f217:=Tryz.func283.trans (congrArg some (by kernel_rfl))
 f219:=Tryz.func261.trans (congrArg some (by kernel_rfl))
 f224:=Tryz.func285.trans (congrArg some (by kernel_rfl))
 f225:=Tryz.func284.trans (congrArg some (by kernel_rfl))
 f266:=Tryz.func296.trans (congrArg some (by kernel_rfl))
 f267:=Tryz.func286.trans (congrArg some (by kernel_rfl))
 f314:=Tryz.func297.trans (congrArg some (by kernel_rfl))
 t3:=Tryz.underlying3
 a3:=Tryz.isAgg3
 z3:=Tryz.sizeOf3
 v3:=Tryz.zeroValue3
 t4:=Tryz.underlying4
 a4:=Tryz.isAgg4
 z4:=Tryz.sizeOf4
 v4:=Tryz.zeroValue4
 t5:=Tryz.underlying5
 a5:=Tryz.isAgg5
 z5:=Tryz.sizeOf5
 v5:=Tryz.zeroValue5
 t9:=Tryz.underlying9
 a9:=Tryz.isAgg9
 z9:=Tryz.sizeOf9
 v9:=Tryz.zeroValue9
 t46:=Tryz.underlying202
 a46:=Tryz.isAgg202
 z46:=Tryz.sizeOf202
 v46:=Tryz.zeroValue202
 t51:=Tryz.underlying264
 a51:=Tryz.isAgg264
 z51:=Tryz.sizeOf264
 v51:=Tryz.zeroValue264
 t146:=Tryz.underlying329
 a146:=Tryz.isAgg329
 z146:=Tryz.sizeOf329
 v146:=Tryz.zeroValue329
 g1:=by kernel_rfl }
open Go.RowKit Go.Lib in
theorem Tryz.strings_Contains(s sub:ByteArray)(m:Int)(w:World)(hs:s.size<4294967281)(hm:w.cell? ⟨6,0,none⟩=some (.int .i64 m)) :
  Calls Tryz.prog 166 #[.string s,.string sub] w fun e w'=>e=.returned (.bool (Lib.contains s.data.toList sub.data.toList))∧w'=w:=Any.strings_Contains Tryz.lays144 s sub m w hs hm
def Tryz.lays145_ren:Go.Shelf.Ren:=⟨fun | 145=>229 | 220=>262 | 219=>261 | 217=>283 | 225=>284 | 224=>285 | 267=>286 | 266=>296 | 314=>297 | n=>n,fun | 9=>9 | 4=>4 | 59=>304 | 3=>3 | 5=>5 | 46=>202 | 146=>329 | 51=>264 | n=>n,fun | 1=>6 | n=>n⟩
theorem Tryz.lays145:Go.Proofs.Lays.n145 Tryz.prog Tryz.lays145_ren:={
 mixed:=by kernel_rfl
 f145:=Tryz.func229.trans (congrArg some (by kernel_rfl))
 f217:=Tryz.func283.trans (congrArg some (by kernel_rfl))
 f219:=Tryz.func261.trans (congrArg some (by kernel_rfl))
 f220:=Tryz.func262.trans (congrArg some (by kernel_rfl))
 f224:=Tryz.func285.trans (congrArg some (by kernel_rfl))
 f225:=Tryz.func284.trans (congrArg some (by kernel_rfl))
 f266:=Tryz.func296.trans (congrArg some (by kernel_rfl))
 f267:=Tryz.func286.trans (congrArg some (by kernel_rfl))
 f314:=Tryz.func297.trans (congrArg some (by kernel_rfl))
 t3:=Tryz.underlying3
 a3:=Tryz.isAgg3
 z3:=Tryz.sizeOf3
 v3:=Tryz.zeroValue3
 t4:=Tryz.underlying4
 a4:=Tryz.isAgg4
 z4:=Tryz.sizeOf4
 v4:=Tryz.zeroValue4
 t5:=Tryz.underlying5
 a5:=Tryz.isAgg5
 z5:=Tryz.sizeOf5
 v5:=Tryz.zeroValue5
 t9:=Tryz.underlying9
 a9:=Tryz.isAgg9
 z9:=Tryz.sizeOf9
 v9:=Tryz.zeroValue9
 t46:=Tryz.underlying202
 a46:=Tryz.isAgg202
 z46:=Tryz.sizeOf202
 v46:=Tryz.zeroValue202
 t51:=Tryz.underlying264
 a51:=Tryz.isAgg264
 z51:=Tryz.sizeOf264
 v51:=Tryz.zeroValue264
 t59:=Tryz.underlying304
 a59:=Tryz.isAgg304
 z59:=Tryz.sizeOf304
 v59:=Tryz.zeroValue304
 t146:=Tryz.underlying329
 a146:=Tryz.isAgg329
 z146:=Tryz.sizeOf329
 v146:=Tryz.zeroValue329
 g1:=by kernel_rfl }
open Go.RowKit Go.Lib in
theorem Tryz.strings_Cut(s sep:ByteArray)(m:Int)(w:World)(hs:s.size<4294967281)(hm:w.cell? ⟨6,0,none⟩=some (.int .i64 m)) :
  Calls Tryz.prog 229 #[.string s,.string sep] w fun e w'=>e=.returned (.tuple #[.string ⟨(Lib.cut s.data.toList sep.data.toList).1.toArray⟩,.string ⟨(Lib.cut s.data.toList sep.data.toList).2.1.toArray⟩,.bool (Lib.cut s.data.toList sep.data.toList).2.2])∧∃ n,w'=w.drewN n:=Any.strings_Cut Tryz.lays145 s sep m w hs hm
def Tryz.lays99_ren:Go.Shelf.Ren:=⟨fun | 99=>65 | 206=>122 | n=>n,fun | 9=>9 | 4=>4 | 3=>3 | n=>n,fun | n=>n⟩
theorem Tryz.lays99:Go.Proofs.Lays.n99 Tryz.prog Tryz.lays99_ren:={
 mixed:=by kernel_rfl
 f99:=Tryz.func65.trans (congrArg some (by kernel_rfl))
 f206:=Tryz.func122.trans (congrArg some (by kernel_rfl))
 t3:=Tryz.underlying3
 a3:=Tryz.isAgg3
 z3:=Tryz.sizeOf3
 v3:=Tryz.zeroValue3
 t4:=Tryz.underlying4
 a4:=Tryz.isAgg4
 z4:=Tryz.sizeOf4
 v4:=Tryz.zeroValue4
 t9:=Tryz.underlying9
 a9:=Tryz.isAgg9
 z9:=Tryz.sizeOf9
 v9:=Tryz.zeroValue9 }
open Go.RowKit Go.Lib in
theorem Tryz.strings_HasPrefix(s p:ByteArray)(w:World) :
  Calls Tryz.prog 65 #[.string s,.string p] w fun e w'=>e=.returned (.bool (Lib.hasPrefix s.data.toList p.data.toList))∧w'=w:=Any.strings_HasPrefix Tryz.lays99 s p w
def Tryz.lays101_ren:Go.Shelf.Ren:=⟨fun | 101=>51 | 208=>98 | 206=>122 | n=>n,fun | 9=>9 | 4=>4 | 3=>3 | n=>n,fun | n=>n⟩
theorem Tryz.lays101:Go.Proofs.Lays.n101 Tryz.prog Tryz.lays101_ren:={
 mixed:=by kernel_rfl
 f101:=Tryz.func51.trans (congrArg some (by kernel_rfl))
 f206:=Tryz.func122.trans (congrArg some (by kernel_rfl))
 f208:=Tryz.func98.trans (congrArg some (by kernel_rfl))
 t3:=Tryz.underlying3
 a3:=Tryz.isAgg3
 z3:=Tryz.sizeOf3
 v3:=Tryz.zeroValue3
 t4:=Tryz.underlying4
 a4:=Tryz.isAgg4
 z4:=Tryz.sizeOf4
 v4:=Tryz.zeroValue4
 t9:=Tryz.underlying9
 a9:=Tryz.isAgg9
 z9:=Tryz.sizeOf9
 v9:=Tryz.zeroValue9 }
open Go.RowKit Go.Lib in
theorem Tryz.strings_TrimPrefix(s p:ByteArray)(w:World) :
  Calls Tryz.prog 51 #[.string s,.string p] w fun e w'=>e=.returned (.string ⟨(Lib.trimPrefix s.data.toList p.data.toList).toArray⟩)∧w'=w:=Any.strings_TrimPrefix Tryz.lays101 s p w
end Go.Proofs
