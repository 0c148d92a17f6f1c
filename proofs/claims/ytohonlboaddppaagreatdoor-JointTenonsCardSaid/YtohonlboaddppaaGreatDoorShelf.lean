/-
  The library's contracts at this program: laid by the kit's tools lay-shelf.mjs and lay-plain.mjs, cut down by dev_prune.py.; strings.Builder's copyCheck, WriteByte, WriteString over this translation (after the guide's own contracts, whose bodies part from this translation's at the panic alone).; Go's library, as this seat's proofs use it: every call keeps what lay there.
-/
import Derived.Test.YtohonlboaddppaaGreatDoorProg
import Derived.Shelf.Strings.Builder1
import Derived.Shelf.Strings.Builder2
import Derived.Shelf.Strings.Trim
import Derived.Shelf.Small.Utf8
import Derived.Shelf.Small.Bits
import Derived.Shelf.Small.Strs
import Derived.Shelf.Small.Wraps
import Derived.Shelf.Strings.BuilderF
import Derived.Shelf.Strings.BuilderK
import Derived.Shelf.Strings.Builder2Cap
import Derived.Shelf.Strconv.Atoi
import Derived.Shelf.Strconv.Itoa0
import Derived.Shelf.Strconv.Itoa1
import Derived.Shelf.LaysM
import Derived.Shelf.Strconv.Itoa2
import Derived.Shelf.Strconv.Itoa3
import Derived.Shelf.Strconv.AtoiErrFast
import Derived.Shelf.Strconv.ParseIntEmpty
import Derived.Shelf.Strconv.AtoiFail
import Derived.Shelf.Strconv.Clone
import Derived.Shelf.Strconv.SyntaxError
import Derived.Shelf.LaysC
import Derived.Shelf.Strconv.ToError
import Derived.Shelf.Strconv.Lower
import Derived.Shelf.Strconv.ParseUint10
import Derived.Shelf.Strconv.ParseUint10Empty
import Derived.Shelf.Strconv.ParseUint10Any
import Derived.Shelf.Strconv.ParseInt10
import Derived.Shelf.Strconv.AtoiLong
import Derived.Shelf.Strconv.AtoiInnerAll
import Derived.Shelf.Strconv.RangeError
import Derived.Shelf.Strconv.ToErrorRange
import Derived.Shelf.Strconv.AtoiAll
import Derived.Shelf.Strconv.ErrVarAll
import Derived.Shelf.Strings.Search1
import Derived.Shelf.Strings.Search2
import Derived.Shelf.Strings.Cut
import Derived.Shelf.Strings.Shaped
import Derived.Shelf.Strings.Prefix
import Derived.Shelf.Strings.Runes
import Derived.Shelf.Strings.AsciiSet
import Derived.Shelf.Bits.Mul64
import Derived.Shelf.Strings.Repeat
import Derived.Shelf.Unicode.DecodeSlow
import Derived.Test.YtohonlboaddppaaGreatDoorTimberM
import Derived.Test.YtohonlboaddppaaGreatDoorMA
import Derived.Lib.SmallJoins
import Derived.Shelf.Strings.SlTrimAscii
namespace Go.Proofs
open Go.Shelf
def Tryz.lays169_ren : Go.Shelf.Ren := ⟨fun | 169 => 172 | n => n, fun | 70 => 248 | 9 => 9 | 0 => 0 | 72 => 250 | 37 => 244 | 127 => 308 | 3 => 3 | 5 => 5 | n => n, fun | n => n⟩
theorem Tryz.lays169 : Go.Proofs.Lays.n169 Tryz.prog Tryz.lays169_ren := {
  mixed := by kernel_rfl
  f169 := Tryz.func172.trans (congrArg some (by kernel_rfl))
  t0 := Tryz.underlying0
  a0 := Tryz.isAgg0
  z0 := Tryz.sizeOf0
  v0 := Tryz.zeroValue0
  t3 := Tryz.underlying3
  a3 := Tryz.isAgg3
  z3 := Tryz.sizeOf3
  v3 := Tryz.zeroValue3
  t9 := Tryz.underlying9
  a9 := Tryz.isAgg9
  z9 := Tryz.sizeOf9
  v9 := Tryz.zeroValue9
  t37 := Tryz.underlying244
  a37 := Tryz.isAgg244
  z37 := Tryz.sizeOf244
  v37 := Tryz.zeroValue244
  t70 := Tryz.underlying248
  a70 := Tryz.isAgg248
  z70 := Tryz.sizeOf248
  v70 := Tryz.zeroValue248
  t72 := Tryz.underlying250
  a72 := Tryz.isAgg250
  z72 := Tryz.sizeOf250
  v72 := Tryz.zeroValue250
  t127 := Tryz.underlying308
  a127 := Tryz.isAgg308
  z127 := Tryz.sizeOf308
  v127 := Tryz.zeroValue308 }
theorem Tryz.Builder_Extra_169 : Builder.Extra Tryz.prog Tryz.lays169_ren := {
  sizeBuilder := by kernel_rfl
  liesBuilder := by kernel_rfl
  t5 := Tryz.underlying5
  a5 := Tryz.isAgg5
  z5 := Tryz.sizeOf5
  v5 := Tryz.zeroValue5
  infoByte := by kernel_rfl
  cellsByte := by kernel_rfl
  sizeByte := by kernel_rfl
  neB5 := by decide }
def Tryz.lays160_ren : Go.Shelf.Ren := ⟨fun | 160 => 127 | 232 => 174 | 231 => 173 | 227 => 175 | 234 => 177 | 233 => 176 | 236 => 179 | 235 => 178 | 228 => 220 | 271 => 223 | 151 => 222 | 197 => 221 | 120 => 241 | 152 => 240 | 260 => 239 | 137 => 245 | 119 => 246 | 224 => 214 | 225 => 213 | 217 => 212 | 266 => 233 | n => n, fun | 9 => 9 | 4 => 4 | 3 => 3 | 5 => 5 | 117 => 257 | 116 => 256 | 0 => 0 | 124 => 260 | 21 => 21 | 105 => 310 | 46 => 194 | 119 => 338 | 139 => 341 | 138 => 340 | n => n, fun | 3 => 8 | 4 => 9 | n => n⟩
theorem Tryz.lays160 : Go.Proofs.Lays.n160 Tryz.prog Tryz.lays160_ren := {
  mixed := by kernel_rfl
  f119 := Tryz.func246.trans (congrArg some (by kernel_rfl))
  f120 := Tryz.func241.trans (congrArg some (by kernel_rfl))
  f137 := Tryz.func245.trans (congrArg some (by kernel_rfl))
  f151 := Tryz.func222.trans (congrArg some (by kernel_rfl))
  f152 := Tryz.func240.trans (congrArg some (by kernel_rfl))
  f160 := Tryz.func127.trans (congrArg some (by kernel_rfl))
  f197 := Tryz.func221.trans (congrArg some (by kernel_rfl))
  f217 := Tryz.func212.trans (congrArg some (by kernel_rfl))
  f224 := Tryz.func214.trans (congrArg some (by kernel_rfl))
  f225 := Tryz.func213.trans (congrArg some (by kernel_rfl))
  f227 := Tryz.func175.trans (congrArg some (by kernel_rfl))
  f228 := Tryz.func220.trans (congrArg some (by kernel_rfl))
  f231 := Tryz.func173.trans (congrArg some (by kernel_rfl))
  f232 := Tryz.func174.trans (congrArg some (by kernel_rfl))
  f233 := Tryz.func176.trans (congrArg some (by kernel_rfl))
  f234 := Tryz.func177.trans (congrArg some (by kernel_rfl))
  f235 := Tryz.func178.trans (congrArg some (by kernel_rfl))
  f236 := Tryz.func179.trans (congrArg some (by kernel_rfl))
  f260 := Tryz.func239.trans (congrArg some (by kernel_rfl))
  f266 := Tryz.func233.trans (congrArg some (by kernel_rfl))
  f271 := Tryz.func223.trans (congrArg some (by kernel_rfl))
  t0 := Tryz.underlying0
  a0 := Tryz.isAgg0
  z0 := Tryz.sizeOf0
  v0 := Tryz.zeroValue0
  t3 := Tryz.underlying3
  a3 := Tryz.isAgg3
  z3 := Tryz.sizeOf3
  v3 := Tryz.zeroValue3
  t4 := Tryz.underlying4
  a4 := Tryz.isAgg4
  z4 := Tryz.sizeOf4
  v4 := Tryz.zeroValue4
  t5 := Tryz.underlying5
  a5 := Tryz.isAgg5
  z5 := Tryz.sizeOf5
  v5 := Tryz.zeroValue5
  t9 := Tryz.underlying9
  a9 := Tryz.isAgg9
  z9 := Tryz.sizeOf9
  v9 := Tryz.zeroValue9
  t21 := Tryz.underlying21
  a21 := Tryz.isAgg21
  z21 := Tryz.sizeOf21
  v21 := Tryz.zeroValue21
  t46 := Tryz.underlying194
  a46 := Tryz.isAgg194
  z46 := Tryz.sizeOf194
  v46 := Tryz.zeroValue194
  t105 := Tryz.underlying310
  a105 := Tryz.isAgg310
  z105 := Tryz.sizeOf310
  v105 := Tryz.zeroValue310
  t116 := Tryz.underlying256
  a116 := Tryz.isAgg256
  z116 := Tryz.sizeOf256
  t117 := Tryz.underlying257
  a117 := Tryz.isAgg257
  z117 := Tryz.sizeOf257
  v117 := Tryz.zeroValue257
  t119 := Tryz.underlying338
  a119 := Tryz.isAgg338
  z119 := Tryz.sizeOf338
  t124 := Tryz.underlying260
  a124 := Tryz.isAgg260
  z124 := Tryz.sizeOf260
  v124 := Tryz.zeroValue260
  t138 := Tryz.underlying340
  a138 := Tryz.isAgg340
  z138 := Tryz.sizeOf340
  v138 := Tryz.zeroValue340
  t139 := Tryz.underlying341
  a139 := Tryz.isAgg341
  z139 := Tryz.sizeOf341
  v139 := Tryz.zeroValue341
  g3 := by kernel_rfl
  g4 := by kernel_rfl }
def Tryz.lays125_ren : Go.Shelf.Ren := ⟨fun | 125 => 116 | 128 => 161 | 129 => 162 | n => n, fun | 46 => 194 | 3 => 3 | 51 => 239 | 53 => 241 | 4 => 4 | 5 => 5 | 9 => 9 | n => n, fun | n => n⟩
theorem Tryz.lays125 : Go.Proofs.Lays.n125 Tryz.prog Tryz.lays125_ren := {
  mixed := by kernel_rfl
  f125 := Tryz.func116.trans (congrArg some (by kernel_rfl))
  f128 := Tryz.func161.trans (congrArg some (by kernel_rfl))
  f129 := Tryz.func162.trans (congrArg some (by kernel_rfl))
  t3 := Tryz.underlying3
  a3 := Tryz.isAgg3
  z3 := Tryz.sizeOf3
  v3 := Tryz.zeroValue3
  t4 := Tryz.underlying4
  a4 := Tryz.isAgg4
  z4 := Tryz.sizeOf4
  v4 := Tryz.zeroValue4
  t5 := Tryz.underlying5
  a5 := Tryz.isAgg5
  z5 := Tryz.sizeOf5
  v5 := Tryz.zeroValue5
  t9 := Tryz.underlying9
  a9 := Tryz.isAgg9
  z9 := Tryz.sizeOf9
  v9 := Tryz.zeroValue9
  t46 := Tryz.underlying194
  a46 := Tryz.isAgg194
  z46 := Tryz.sizeOf194
  v46 := Tryz.zeroValue194
  t51 := Tryz.underlying239
  a51 := Tryz.isAgg239
  z51 := Tryz.sizeOf239
  v51 := Tryz.zeroValue239
  t53 := Tryz.underlying241
  a53 := Tryz.isAgg241
  z53 := Tryz.sizeOf241
  v53 := Tryz.zeroValue241 }
theorem Tryz.bits_Len (x : Int) (w : World) (h0 : 0 ≤ x) (h1 : x ≤ 18446744073709551615) :
    Calls Tryz.prog 116 #[.int .u64 x] w fun e w' => e = .returned (.int .i64 (Lib.bitLen x.toNat)) ∧ w' = w := Any.bits_Len Tryz.lays125 x w h0 h1
def Tryz.lays103_ren : Go.Shelf.Ren := ⟨fun | 103 => 85 | 210 => 119 | 206 => 98 | n => n, fun | 9 => 9 | 4 => 4 | 24 => 161 | 3 => 3 | n => n, fun | n => n⟩
theorem Tryz.lays103 : Go.Proofs.Lays.n103 Tryz.prog Tryz.lays103_ren := {
  mixed := by kernel_rfl
  f103 := Tryz.func85.trans (congrArg some (by kernel_rfl))
  f206 := Tryz.func98.trans (congrArg some (by kernel_rfl))
  f210 := Tryz.func119.trans (congrArg some (by kernel_rfl))
  t3 := Tryz.underlying3
  a3 := Tryz.isAgg3
  z3 := Tryz.sizeOf3
  v3 := Tryz.zeroValue3
  t4 := Tryz.underlying4
  a4 := Tryz.isAgg4
  z4 := Tryz.sizeOf4
  v4 := Tryz.zeroValue4
  t9 := Tryz.underlying9
  a9 := Tryz.isAgg9
  z9 := Tryz.sizeOf9
  v9 := Tryz.zeroValue9
  t24 := Tryz.underlying161
  a24 := Tryz.isAgg161
  z24 := Tryz.sizeOf161
  v24 := Tryz.zeroValue161 }
open Go.RowKit in
theorem Tryz.strings_CutPrefix (s p : ByteArray) (w : World) :
    Calls Tryz.prog 85 #[.string s, .string p] w fun e w' => e = .returned (.tuple #[.string ⟨(Lib.trimPrefix s.data.toList p.data.toList).toArray⟩, .bool (Lib.hasPrefix s.data.toList p.data.toList)]) ∧ w' = w := Any.strings_CutPrefix Tryz.lays103 s p w
def Tryz.lays122_ren : Go.Shelf.Ren := ⟨fun | 122 => 25 | 215 => 50 | n => n, fun | 3 => 3 | 4 => 4 | n => n, fun | n => n⟩
theorem Tryz.lays122 : Go.Proofs.Lays.n122 Tryz.prog Tryz.lays122_ren := {
  mixed := by kernel_rfl
  f122 := Tryz.func25.trans (congrArg some (by kernel_rfl))
  f215 := Tryz.func50.trans (congrArg some (by kernel_rfl))
  t3 := Tryz.underlying3
  a3 := Tryz.isAgg3
  z3 := Tryz.sizeOf3
  v3 := Tryz.zeroValue3
  t4 := Tryz.underlying4
  a4 := Tryz.isAgg4
  z4 := Tryz.sizeOf4
  v4 := Tryz.zeroValue4 }
open Go.RowKit in
theorem Tryz.cmp_Compare_int (x y : Int) (w : World) :
    Calls Tryz.prog 25 #[.int .i64 x, .int .i64 y] w fun e w' => e = .returned (.int .i64 (Lib.compareInt x y)) ∧ w' = w := Any.cmp_Compare_int Tryz.lays122 x y w
def Tryz.lays172_ren : Go.Shelf.Ren := ⟨fun | 172 => 91 | 244 => 128 | 245 => 129 | 247 => 180 | 279 => 181 | 280 => 182 | 281 => 183 | 282 => 184 | 287 => 224 | 316 => 225 | 171 => 45 | 205 => 226 | 321 => 242 | 322 => 243 | 243 => 81 | 246 => 117 | 283 => 163 | 284 => 164 | 285 => 165 | 286 => 166 | 129 => 162 | 317 => 208 | 318 => 209 | 319 => 210 | 320 => 211 | 337 => 231 | 338 => 232 | n => n, fun | 9 => 9 | 3 => 3 | 75 => 170 | 76 => 171 | 4 => 4 | 5 => 5 | 167 => 261 | 37 => 244 | 0 => 0 | 85 => 262 | 2 => 2 | 168 => 264 | 53 => 241 | 175 => 313 | 46 => 194 | 210 => 316 | 127 => 308 | 145 => 334 | 143 => 332 | 21 => 21 | 171 => 242 | 173 => 245 | 212 => 301 | 51 => 239 | 20 => 20 | 213 => 302 | 232 => 335 | 233 => 336 | 80 => 253 | n => n, fun | 15 => 4 | 16 => 5 | 17 => 2 | 18 => 6 | 19 => 7 | n => n⟩
theorem Tryz.lays172 : Go.Proofs.Lays.n172 Tryz.prog Tryz.lays172_ren := {
  mixed := by kernel_rfl
  f129 := Tryz.func162.trans (congrArg some (by kernel_rfl))
  f171 := Tryz.func45.trans (congrArg some (by kernel_rfl))
  f172 := Tryz.func91.trans (congrArg some (by kernel_rfl))
  f205 := Tryz.func226.trans (congrArg some (by kernel_rfl))
  f243 := Tryz.func81.trans (congrArg some (by kernel_rfl))
  f244 := Tryz.func128.trans (congrArg some (by kernel_rfl))
  f245 := Tryz.func129.trans (congrArg some (by kernel_rfl))
  f246 := Tryz.func117.trans (congrArg some (by kernel_rfl))
  f247 := Tryz.func180.trans (congrArg some (by kernel_rfl))
  f279 := Tryz.func181.trans (congrArg some (by kernel_rfl))
  f280 := Tryz.func182.trans (congrArg some (by kernel_rfl))
  f281 := Tryz.func183.trans (congrArg some (by kernel_rfl))
  f282 := Tryz.func184.trans (congrArg some (by kernel_rfl))
  f283 := Tryz.func163.trans (congrArg some (by kernel_rfl))
  f284 := Tryz.func164.trans (congrArg some (by kernel_rfl))
  f285 := Tryz.func165.trans (congrArg some (by kernel_rfl))
  f286 := Tryz.func166.trans (congrArg some (by kernel_rfl))
  f287 := Tryz.func224.trans (congrArg some (by kernel_rfl))
  f316 := Tryz.func225.trans (congrArg some (by kernel_rfl))
  f317 := Tryz.func208.trans (congrArg some (by kernel_rfl))
  f318 := Tryz.func209.trans (congrArg some (by kernel_rfl))
  f319 := Tryz.func210.trans (congrArg some (by kernel_rfl))
  f320 := Tryz.func211.trans (congrArg some (by kernel_rfl))
  f321 := Tryz.func242.trans (congrArg some (by kernel_rfl))
  f322 := Tryz.func243.trans (congrArg some (by kernel_rfl))
  f337 := Tryz.func231.trans (congrArg some (by kernel_rfl))
  f338 := Tryz.func232.trans (congrArg some (by kernel_rfl))
  t0 := Tryz.underlying0
  a0 := Tryz.isAgg0
  z0 := Tryz.sizeOf0
  v0 := Tryz.zeroValue0
  t2 := Tryz.underlying2
  a2 := Tryz.isAgg2
  z2 := Tryz.sizeOf2
  v2 := Tryz.zeroValue2
  t3 := Tryz.underlying3
  a3 := Tryz.isAgg3
  z3 := Tryz.sizeOf3
  v3 := Tryz.zeroValue3
  t4 := Tryz.underlying4
  a4 := Tryz.isAgg4
  z4 := Tryz.sizeOf4
  v4 := Tryz.zeroValue4
  t5 := Tryz.underlying5
  a5 := Tryz.isAgg5
  z5 := Tryz.sizeOf5
  v5 := Tryz.zeroValue5
  t9 := Tryz.underlying9
  a9 := Tryz.isAgg9
  z9 := Tryz.sizeOf9
  v9 := Tryz.zeroValue9
  t20 := Tryz.underlying20
  a20 := Tryz.isAgg20
  z20 := Tryz.sizeOf20
  v20 := Tryz.zeroValue20
  t21 := Tryz.underlying21
  a21 := Tryz.isAgg21
  z21 := Tryz.sizeOf21
  v21 := Tryz.zeroValue21
  t37 := Tryz.underlying244
  a37 := Tryz.isAgg244
  z37 := Tryz.sizeOf244
  v37 := Tryz.zeroValue244
  t46 := Tryz.underlying194
  a46 := Tryz.isAgg194
  z46 := Tryz.sizeOf194
  v46 := Tryz.zeroValue194
  t51 := Tryz.underlying239
  a51 := Tryz.isAgg239
  z51 := Tryz.sizeOf239
  v51 := Tryz.zeroValue239
  t53 := Tryz.underlying241
  a53 := Tryz.isAgg241
  z53 := Tryz.sizeOf241
  v53 := Tryz.zeroValue241
  t75 := Tryz.underlying170
  a75 := Tryz.isAgg170
  z75 := Tryz.sizeOf170
  v75 := Tryz.zeroValue170
  t76 := Tryz.underlying171
  a76 := Tryz.isAgg171
  z76 := Tryz.sizeOf171
  v76 := Tryz.zeroValue171
  t85 := Tryz.underlying262
  a85 := Tryz.isAgg262
  z85 := Tryz.sizeOf262
  v85 := Tryz.zeroValue262
  t127 := Tryz.underlying308
  a127 := Tryz.isAgg308
  z127 := Tryz.sizeOf308
  v127 := Tryz.zeroValue308
  t143 := Tryz.underlying332
  a143 := Tryz.isAgg332
  z143 := Tryz.sizeOf332
  v143 := Tryz.zeroValue332
  t145 := Tryz.underlying334
  a145 := Tryz.isAgg334
  z145 := Tryz.sizeOf334
  v145 := Tryz.zeroValue334
  t167 := Tryz.underlying261
  a167 := Tryz.isAgg261
  z167 := Tryz.sizeOf261
  v167 := Tryz.zeroValue261
  t168 := Tryz.underlying264
  a168 := Tryz.isAgg264
  z168 := Tryz.sizeOf264
  v168 := Tryz.zeroValue264
  t171 := Tryz.underlying242
  a171 := Tryz.isAgg242
  z171 := Tryz.sizeOf242
  v171 := Tryz.zeroValue242
  t173 := Tryz.underlying245
  a173 := Tryz.isAgg245
  z173 := Tryz.sizeOf245
  v173 := Tryz.zeroValue245
  t175 := Tryz.underlying313
  a175 := Tryz.isAgg313
  z175 := Tryz.sizeOf313
  v175 := Tryz.zeroValue313
  t210 := Tryz.underlying316
  a210 := Tryz.isAgg316
  z210 := Tryz.sizeOf316
  v210 := Tryz.zeroValue316
  t212 := Tryz.underlying301
  a212 := Tryz.isAgg301
  z212 := Tryz.sizeOf301
  v212 := Tryz.zeroValue301
  t213 := Tryz.underlying302
  a213 := Tryz.isAgg302
  z213 := Tryz.sizeOf302
  t232 := Tryz.underlying335
  a232 := Tryz.isAgg335
  z232 := Tryz.sizeOf335
  v232 := Tryz.zeroValue335
  t233 := Tryz.underlying336
  a233 := Tryz.isAgg336
  z233 := Tryz.sizeOf336
  v233 := Tryz.zeroValue336
  g15 := by kernel_rfl
  g16 := by kernel_rfl
  g17 := by kernel_rfl
  g18 := by kernel_rfl
  g19 := by kernel_rfl }
open Go.RowKit in
theorem Tryz.strconv_Atoi (s : ByteArray) (n : Int) (hl : s.size ≤ 18) (h : Lib.atoi s.data.toList = some n) (w : World) :
    Calls Tryz.prog 91 #[.string s] w fun e w' => e = .returned (.tuple #[.int .i64 n, .nilIface]) ∧ ∃ t, w' = Lib.bytesWorld w 5 t := Any.strconv_Atoi Tryz.lays172 s n hl h w
def Tryz.laysM171_ren : Go.Shelf.Ren := ⟨fun | 171 => 45 | 243 => 81 | 246 => 117 | 283 => 163 | 284 => 164 | 285 => 165 | 286 => 166 | 129 => 162 | 317 => 208 | 318 => 209 | 319 => 210 | 320 => 211 | 337 => 231 | 338 => 232 | n => n, fun | 3 => 3 | 9 => 9 | 2 => 2 | 4 => 4 | 171 => 242 | 0 => 0 | 53 => 241 | 37 => 244 | 5 => 5 | 173 => 245 | 212 => 301 | 51 => 239 | 20 => 20 | 213 => 302 | 46 => 194 | 232 => 335 | 233 => 336 | n => n, fun | 17 => 2 | 18 => 6 | 19 => 7 | n => n⟩
theorem Tryz.laysM171 : Go.Proofs.LaysM.n171 Tryz.prog Tryz.laysM171_ren := {
  mixed := by kernel_rfl
  f129 := Tryz.func162.trans (congrArg some (by kernel_rfl))
  f171 := Tryz.func45.trans (congrArg some (by kernel_rfl))
  f243 := Tryz.func81.trans (congrArg some (by kernel_rfl))
  f246 := Tryz.func117.trans (congrArg some (by kernel_rfl))
  f283 := Tryz.func163.trans (congrArg some (by kernel_rfl))
  f284 := Tryz.func164.trans (congrArg some (by kernel_rfl))
  f285 := Tryz.func165.trans (congrArg some (by kernel_rfl))
  f286 := Tryz.func166.trans (congrArg some (by kernel_rfl))
  f317 := Tryz.func208.trans (congrArg some (by kernel_rfl))
  f318 := Tryz.func209.trans (congrArg some (by kernel_rfl))
  f319 := Tryz.func210.trans (congrArg some (by kernel_rfl))
  f320 := Tryz.func211.trans (congrArg some (by kernel_rfl))
  f337 := Tryz.func231.trans (congrArg some (by kernel_rfl))
  f338 := Tryz.func232.trans (congrArg some (by kernel_rfl))
  t0 := Tryz.underlying0
  a0 := Tryz.isAgg0
  z0 := Tryz.sizeOf0
  v0 := Tryz.zeroValue0
  t2 := Tryz.underlying2
  a2 := Tryz.isAgg2
  z2 := Tryz.sizeOf2
  v2 := Tryz.zeroValue2
  t3 := Tryz.underlying3
  a3 := Tryz.isAgg3
  z3 := Tryz.sizeOf3
  v3 := Tryz.zeroValue3
  t4 := Tryz.underlying4
  a4 := Tryz.isAgg4
  z4 := Tryz.sizeOf4
  v4 := Tryz.zeroValue4
  t5 := Tryz.underlying5
  a5 := Tryz.isAgg5
  z5 := Tryz.sizeOf5
  v5 := Tryz.zeroValue5
  t9 := Tryz.underlying9
  a9 := Tryz.isAgg9
  z9 := Tryz.sizeOf9
  v9 := Tryz.zeroValue9
  t20 := Tryz.underlying20
  a20 := Tryz.isAgg20
  z20 := Tryz.sizeOf20
  v20 := Tryz.zeroValue20
  t37 := Tryz.underlying244
  a37 := Tryz.isAgg244
  z37 := Tryz.sizeOf244
  v37 := Tryz.zeroValue244
  t46 := Tryz.underlying194
  a46 := Tryz.isAgg194
  z46 := Tryz.sizeOf194
  v46 := Tryz.zeroValue194
  t51 := Tryz.underlying239
  a51 := Tryz.isAgg239
  z51 := Tryz.sizeOf239
  v51 := Tryz.zeroValue239
  t53 := Tryz.underlying241
  a53 := Tryz.isAgg241
  z53 := Tryz.sizeOf241
  v53 := Tryz.zeroValue241
  t171 := Tryz.underlying242
  a171 := Tryz.isAgg242
  z171 := Tryz.sizeOf242
  v171 := Tryz.zeroValue242
  t173 := Tryz.underlying245
  a173 := Tryz.isAgg245
  z173 := Tryz.sizeOf245
  v173 := Tryz.zeroValue245
  t212 := Tryz.underlying301
  a212 := Tryz.isAgg301
  z212 := Tryz.sizeOf301
  v212 := Tryz.zeroValue301
  t213 := Tryz.underlying302
  a213 := Tryz.isAgg302
  z213 := Tryz.sizeOf302
  t232 := Tryz.underlying335
  a232 := Tryz.isAgg335
  z232 := Tryz.sizeOf335
  v232 := Tryz.zeroValue335
  t233 := Tryz.underlying336
  a233 := Tryz.isAgg336
  z233 := Tryz.sizeOf336
  v233 := Tryz.zeroValue336
  g17 := by kernel_rfl
  g18 := by kernel_rfl
  g19 := by kernel_rfl
  i0 := by kernel_rfl
  i2 := by kernel_rfl
  i3 := by kernel_rfl
  i4 := by kernel_rfl
  i5 := by kernel_rfl
  i9 := by kernel_rfl
  i20 := by kernel_rfl
  i37 := by kernel_rfl
  i46 := by kernel_rfl
  i51 := by kernel_rfl
  i53 := by kernel_rfl
  i171 := by kernel_rfl
  i173 := by kernel_rfl
  i212 := by kernel_rfl
  i232 := by kernel_rfl
  i233 := by kernel_rfl
  m17 := by kernel_rfl
  m18 := by kernel_rfl
  m19 := by kernel_rfl }
open Go.RowKit Go.Sort Go.Lib in
theorem Tryz.strconv_Itoa (n : Int) (h0 : -9223372036854775808 ≤ n) (h1 : n ≤ 9223372036854775807) (w : World) (htab : Lib.TabIs Tryz.prog w "internal/strconv.uint64pow10" .u64 Lib.pow10Tab) :
    Calls Tryz.prog 45 #[.int .i64 n] w fun e w' => e = .returned (.string ⟨(Lib.itoa n).toArray⟩) ∧ ∃ k os, w' = grow (w.drewN k) os := Any.strconv_Itoa Tryz.laysM171 n h0 h1 w htab
def Tryz.lays145_ren : Go.Shelf.Ren := ⟨fun | 145 => 84 | 220 => 118 | 219 => 167 | 217 => 212 | 225 => 213 | 224 => 214 | 267 => 215 | 266 => 233 | 314 => 234 | n => n, fun | 9 => 9 | 4 => 4 | 59 => 159 | 3 => 3 | 5 => 5 | 46 => 194 | 146 => 322 | 51 => 239 | n => n, fun | 1 => 3 | n => n⟩
theorem Tryz.lays145 : Go.Proofs.Lays.n145 Tryz.prog Tryz.lays145_ren := {
  mixed := by kernel_rfl
  f145 := Tryz.func84.trans (congrArg some (by kernel_rfl))
  f217 := Tryz.func212.trans (congrArg some (by kernel_rfl))
  f219 := Tryz.func167.trans (congrArg some (by kernel_rfl))
  f220 := Tryz.func118.trans (congrArg some (by kernel_rfl))
  f224 := Tryz.func214.trans (congrArg some (by kernel_rfl))
  f225 := Tryz.func213.trans (congrArg some (by kernel_rfl))
  f266 := Tryz.func233.trans (congrArg some (by kernel_rfl))
  f267 := Tryz.func215.trans (congrArg some (by kernel_rfl))
  f314 := Tryz.func234.trans (congrArg some (by kernel_rfl))
  t3 := Tryz.underlying3
  a3 := Tryz.isAgg3
  z3 := Tryz.sizeOf3
  v3 := Tryz.zeroValue3
  t4 := Tryz.underlying4
  a4 := Tryz.isAgg4
  z4 := Tryz.sizeOf4
  v4 := Tryz.zeroValue4
  t5 := Tryz.underlying5
  a5 := Tryz.isAgg5
  z5 := Tryz.sizeOf5
  v5 := Tryz.zeroValue5
  t9 := Tryz.underlying9
  a9 := Tryz.isAgg9
  z9 := Tryz.sizeOf9
  v9 := Tryz.zeroValue9
  t46 := Tryz.underlying194
  a46 := Tryz.isAgg194
  z46 := Tryz.sizeOf194
  v46 := Tryz.zeroValue194
  t51 := Tryz.underlying239
  a51 := Tryz.isAgg239
  z51 := Tryz.sizeOf239
  v51 := Tryz.zeroValue239
  t59 := Tryz.underlying159
  a59 := Tryz.isAgg159
  z59 := Tryz.sizeOf159
  v59 := Tryz.zeroValue159
  t146 := Tryz.underlying322
  a146 := Tryz.isAgg322
  z146 := Tryz.sizeOf322
  v146 := Tryz.zeroValue322
  g1 := by kernel_rfl }
open Go.RowKit Go.Lib in
theorem Tryz.strings_Cut (s sep : ByteArray) (m : Int) (w : World) (hs : s.size < 4294967281) (hm : w.cell? ⟨3, 0, none⟩ = some (.int .i64 m)) :
    Calls Tryz.prog 84 #[.string s, .string sep] w fun e w' => e = .returned (.tuple #[.string ⟨(Lib.cut s.data.toList sep.data.toList).1.toArray⟩, .string ⟨(Lib.cut s.data.toList sep.data.toList).2.1.toArray⟩, .bool (Lib.cut s.data.toList sep.data.toList).2.2]) ∧ ∃ n, w' = w.drewN n := Any.strings_Cut Tryz.lays145 s sep m w hs hm
def Tryz.lays99_ren : Go.Shelf.Ren := ⟨fun | 99 => 75 | 206 => 98 | n => n, fun | 9 => 9 | 4 => 4 | 3 => 3 | n => n, fun | n => n⟩
theorem Tryz.lays99 : Go.Proofs.Lays.n99 Tryz.prog Tryz.lays99_ren := {
  mixed := by kernel_rfl
  f99 := Tryz.func75.trans (congrArg some (by kernel_rfl))
  f206 := Tryz.func98.trans (congrArg some (by kernel_rfl))
  t3 := Tryz.underlying3
  a3 := Tryz.isAgg3
  z3 := Tryz.sizeOf3
  v3 := Tryz.zeroValue3
  t4 := Tryz.underlying4
  a4 := Tryz.isAgg4
  z4 := Tryz.sizeOf4
  v4 := Tryz.zeroValue4
  t9 := Tryz.underlying9
  a9 := Tryz.isAgg9
  z9 := Tryz.sizeOf9
  v9 := Tryz.zeroValue9 }
open Go.RowKit Go.Lib in
theorem Tryz.strings_HasPrefix (s p : ByteArray) (w : World) :
    Calls Tryz.prog 75 #[.string s, .string p] w fun e w' => e = .returned (.bool (Lib.hasPrefix s.data.toList p.data.toList)) ∧ w' = w := Any.strings_HasPrefix Tryz.lays99 s p w
def Tryz.lays101_ren : Go.Shelf.Ren := ⟨fun | 101 => 34 | 208 => 59 | 206 => 98 | n => n, fun | 9 => 9 | 4 => 4 | 3 => 3 | n => n, fun | n => n⟩
theorem Tryz.lays101 : Go.Proofs.Lays.n101 Tryz.prog Tryz.lays101_ren := {
  mixed := by kernel_rfl
  f101 := Tryz.func34.trans (congrArg some (by kernel_rfl))
  f206 := Tryz.func98.trans (congrArg some (by kernel_rfl))
  f208 := Tryz.func59.trans (congrArg some (by kernel_rfl))
  t3 := Tryz.underlying3
  a3 := Tryz.isAgg3
  z3 := Tryz.sizeOf3
  v3 := Tryz.zeroValue3
  t4 := Tryz.underlying4
  a4 := Tryz.isAgg4
  z4 := Tryz.sizeOf4
  v4 := Tryz.zeroValue4
  t9 := Tryz.underlying9
  a9 := Tryz.isAgg9
  z9 := Tryz.sizeOf9
  v9 := Tryz.zeroValue9 }
open Go.RowKit Go.Lib in
theorem Tryz.strings_TrimPrefix (s p : ByteArray) (w : World) :
    Calls Tryz.prog 34 #[.string s, .string p] w fun e w' => e = .returned (.string ⟨(Lib.trimPrefix s.data.toList p.data.toList).toArray⟩) ∧ w' = w := Any.strings_TrimPrefix Tryz.lays101 s p w
end Go.Proofs
namespace Go.Proofs.YtohonlboaddppaaGreatDoor
open Go.RowKit Kp
theorem sizeBuilder : (Tryz.prog.info? 250).map (·.size) = some 2 := by kernel_rfl
theorem liesBuilder : liesAt Tryz.prog Tryz.prog.depth 250 (2 / Tryz.prog.cellsOf 250) 0 250 1 = true := by kernel_rfl
theorem infoByte : (Tryz.prog.info? 5).map (fun i => (i.zero, i.size, i.bytes)) = some (some (.int .u8 0), 1, 1) := by kernel_rfl
set_option maxHeartbeats 1000000 in
set_option maxRecDepth 100000 in
theorem copyCheck_used (b : Nat) (w : World) (h0 : w.cell? ⟨b, 0, none⟩ = some (.pointer (some ⟨b, 0, none⟩))) :
    Calls Tryz.prog 216 #[.pointer (some ⟨b, 0, none⟩)] w fun e w' => e = .returned (.tuple #[]) ∧ w' = w := by
  obtain ⟨j, hj, _⟩ := Option.map_eq_some_iff.1 sizeBuilder
  go_enter Tryz.func216, Tryz.ntmps216
  go_wp2
  rw [Lib.run_neq_ptr_same w _ Tryz.underlying248 hj]
  go_wp2
  go_end0
  exact ⟨rfl, rfl⟩
set_option maxHeartbeats 1000000 in
set_option maxRecDepth 100000 in
theorem copyCheck_fresh (b : Nat) (w : World) (h0 : w.cell? ⟨b, 0, none⟩ = some (.pointer none)) (hsh : w.shape? b = some (250, 2)) (hfz : w.frozen? ⟨b, 0, none⟩ = false) :
    Calls Tryz.prog 216 #[.pointer (some ⟨b, 0, none⟩)] w fun e w' => e = .returned (.tuple #[]) ∧ w' = w.setCell ⟨b, 0, none⟩ (.pointer (some ⟨b, 0, none⟩)) := by
  obtain ⟨j, hj, hjs⟩ := Option.map_eq_some_iff.1 sizeBuilder
  go_enter Tryz.func216, Tryz.ntmps216
  go_wp2
  rw [Lib.run_to_unsafe w ⟨b, 0, none⟩ Tryz.underlying248 Tryz.underlying324 hj (by rw [hjs]; decide) hsh (Nat.zero_lt_succ 1)]
  simp only [Result.andThen]
  rw [Oper.upon_value]
  go_wp2
  rw [run_callFunc_extern Tryz.func235 (by kernel_rfl) (by kernel_rfl) (by kernel_rfl) (e := Extern.AbiNoEscape.same) (by kernel_rfl)]
  rw [Lib.run_noEscape]
  simp only [Result.andThen]
  rw [Oper.upon_value]
  go_wp2
  rw [Lib.run_from_unsafe w ⟨b, 0, none⟩ Tryz.underlying324 Tryz.underlying248 hj hsh liesBuilder]
  simp only [Result.andThen]
  rw [Oper.upon_value]
  go_wp2
  go_end0
  exact ⟨rfl, rfl⟩
end Go.Proofs.YtohonlboaddppaaGreatDoor
namespace Go.Proofs.YtohonlboaddppaaGreatDoor
open Go.RowKit Kp
theorem below_grow (w : World) (os : Array Obj) : Below w.heap.size w (Sort.grow w os) :=
  ⟨rfl, rfl, rfl, by simp [Sort.grow], fun k hk => by simp [Sort.grow, Array.getElem?_append_left hk]⟩
theorem lib_Itoa (z : Int) (h0 : -9223372036854775808 ≤ z) (h1 : z ≤ 9223372036854775807) (w : World) (hE : Env w) :
    Calls Tryz.prog 45 #[.int .i64 z] w fun e w' => e = .returned (.string ⟨(Lib.itoa z).toArray⟩) ∧ Q w w' := by
  refine (Tryz.strconv_Itoa z h0 h1 w hE.pow10).mono ?_
  rintro e w' ⟨rfl, k, os, rfl⟩
  exact ⟨rfl, (Below.drewN (Below.refl _ w) k).trans (below_grow (w.drewN k) os)⟩
theorem lib_Atoi (z : Int) (h : (Lib.itoa z).length ≤ 18) (w : World) :
    Calls Tryz.prog 91 #[.string ⟨(Lib.itoa z).toArray⟩] w fun e w' => e = .returned (.tuple #[.int .i64 z, .nilIface]) ∧ Q w w' := by
  refine (Tryz.strconv_Atoi ⟨(Lib.itoa z).toArray⟩ z h (by simpa using atoi_itoa z) w).mono ?_
  rintro e w' ⟨rfl, t, rfl⟩
  exact ⟨rfl, Joins.below_bytesWorld _ _ _ _ (Nat.le_refl _)⟩
theorem lib_TrimMinus (s : Str) (w : World) :
    Calls Tryz.prog 34 #[.string ⟨s.toArray⟩, .string ⟨#[45]⟩] w fun e w' => e = .returned (.string ⟨(unsig s).toArray⟩) ∧ w = w' := by
  refine (Tryz.strings_TrimPrefix ⟨s.toArray⟩ ⟨#[45]⟩ w).mono ?_
  rintro e w' ⟨rfl, rfl⟩
  exact ⟨by simp only [trimPrefix_minus], rfl⟩
theorem lib_CutMinus (s : Str) (w : World) :
    Calls Tryz.prog 85 #[.string ⟨s.toArray⟩, .string ⟨#[45]⟩] w fun e w' => e = .returned (.tuple #[.string ⟨(unsig s).toArray⟩, .bool (decide (s.head? = some 45))]) ∧ w = w' := by
  refine (Tryz.strings_CutPrefix ⟨s.toArray⟩ ⟨#[45]⟩ w).mono ?_
  rintro e w' ⟨rfl, rfl⟩
  exact ⟨by simp only [trimPrefix_minus, hasPrefix_minus], rfl⟩
theorem lib_HasMinus (s : Str) (w : World) :
    Calls Tryz.prog 75 #[.string ⟨s.toArray⟩, .string ⟨#[45]⟩] w fun e w' => e = .returned (.bool (decide (s.head? = some 45))) ∧ w = w' := by
  refine (Tryz.strings_HasPrefix ⟨s.toArray⟩ ⟨#[45]⟩ w).mono ?_
  rintro e w' ⟨rfl, rfl⟩
  exact ⟨by simp only [hasPrefix_minus], rfl⟩
def denCut (s : Str) : Str := if hasSlash s then denPart s else []
theorem lib_CutSlash (s : Str) (hs : s.length < 4294967281) (w : World) (hE : Env w) :
    Calls Tryz.prog 84 #[.string ⟨s.toArray⟩, .string ⟨#[47]⟩] w fun e w' => e = .returned (.tuple #[.string ⟨(numPart s).toArray⟩, .string ⟨(denCut s).toArray⟩, .bool (hasSlash s)]) ∧ ∃ n, w' = w.drewN n := by
  obtain ⟨m, hm⟩ := hE.maxlen
  refine (Tryz.strings_Cut ⟨s.toArray⟩ ⟨#[47]⟩ m w hs hm).mono ?_
  rintro e w' ⟨rfl, h⟩
  exact ⟨by simp only [cut_slash]; rfl, h⟩
def noDig (s : Str) : Str := Lib.trimS s [48, 49, 50, 51, 52, 53, 54, 55, 56, 57]
theorem noDig_nil (s : Str) : noDig s = [] ↔ AllDig s := trim_digits s
theorem lib_TrimDigits (s : Str) (hs : s.length ≤ 9223372036854775807) (w : World) :
    Calls Tryz.prog 127 #[.string ⟨s.toArray⟩, .string ⟨#[48, 49, 50, 51, 52, 53, 54, 55, 56, 57]⟩] w fun e w' => e = .returned (.string ⟨(noDig s).toArray⟩) ∧ Q w w' := by
  refine (Any.strings_Trim_laid Tryz.lays160 (by kernel_rfl) ⟨s.toArray⟩ ⟨#[48, 49, 50, 51, 52, 53, 54, 55, 56, 57]⟩ w hs (by decide) (ascii_of_all (by decide))).mono ?_
  rintro e w' ⟨rfl, h⟩
  exact ⟨rfl, h⟩
end Go.Proofs.YtohonlboaddppaaGreatDoor
