/-
  The library's contracts at this program: laid by the kit's tools lay-shelf.mjs and lay-plain.mjs, cut down by dev_prune.py.
-/
import Derived.Test.YthdpnkkddhcacaaGreatDoorBKShelf
import Derived.Test.YthdpnkkddhcacaaGreatDoorProg
import Derived.Shelf.Strings.Builder1
import Derived.Shelf.Strings.Builder2
import Derived.Shelf.Strings.Trim
import Derived.Shelf.Small.Utf8
import Derived.Shelf.Small.Bits
import Derived.Shelf.Small.Strs
import Derived.Shelf.Small.Wraps
import Derived.Shelf.Strings.BuilderF
import Derived.Shelf.Strings.BuilderK
import Derived.Shelf.Strings.Builder2Cap
import Derived.Shelf.Strconv.Atoi
import Derived.Shelf.Strconv.Itoa0
import Derived.Shelf.Strconv.Itoa1
import Derived.Shelf.LaysM
import Derived.Shelf.Strconv.Itoa2
import Derived.Shelf.Strconv.Itoa3
import Derived.Shelf.Strconv.AtoiErrFast
import Derived.Shelf.Strconv.ParseIntEmpty
import Derived.Shelf.Strconv.AtoiFail
import Derived.Shelf.Strconv.Clone
import Derived.Shelf.Strconv.SyntaxError
import Derived.Shelf.LaysC
import Derived.Shelf.Strconv.ToError
import Derived.Shelf.Strconv.Lower
import Derived.Shelf.Strconv.ParseUint10
import Derived.Shelf.Strconv.ParseUint10Empty
import Derived.Shelf.Strconv.ParseUint10Any
import Derived.Shelf.Strconv.ParseInt10
import Derived.Shelf.Strconv.AtoiLong
import Derived.Shelf.Strconv.AtoiInnerAll
import Derived.Shelf.Strconv.RangeError
import Derived.Shelf.Strconv.ToErrorRange
import Derived.Shelf.Strconv.AtoiAll
import Derived.Shelf.Strconv.ErrVarAll
import Derived.Shelf.Strings.Search1
import Derived.Shelf.Strings.Search2
import Derived.Shelf.Strings.Search3
import Derived.Shelf.Strings.Cut
import Derived.Shelf.Strings.Shaped
import Derived.Shelf.Strings.Prefix
import Derived.Shelf.Unicode.Decode
import Derived.Shelf.Strings.Runes
import Derived.Shelf.Strings.AsciiSet
import Derived.Shelf.Bits.Mul64
import Derived.Shelf.Strings.Repeat
import Derived.Shelf.Unicode.DecodeSlow
import Derived.Shelf.Unicode.DecodeAny
import Derived.Shelf.Unicode.DecodeLast
import Derived.Ground.Names2Prog
import Derived.Shelf.Slices.SearchI
namespace Go.Proofs
open Go.Shelf
open Go.RowKit in
theorem Tryz.Builder_String_any_k(B b:Nat)(l:List UInt8)(w:World)(h:Lib.IsBuilderF 328 5 B b (Lib.byteCells l) w)(hBw:B≤w.heap.size) :
  Calls Tryz.prog 262 #[.pointer (some ⟨b,0,none⟩)] w fun e w'=>e=.returned (.string ⟨l.toArray⟩)∧(Lib.IsBuilderF 328 5 B b (Lib.byteCells l) w'∧Below B w w'∧Lib.OthersKept 5 (some b) w w'):=Any.Builder_String_any_k Tryz.lays169 Tryz.Builder_Extra_169 B b l w h hBw
def Tryz.lays105_ren:Go.Shelf.Ren:=⟨fun | 105=>235 | 212=>271 | 99=>78 | 165=>272 | 166=>261 | 170=>273 | 169=>262 | 263=>296 | 264=>297 | 206=>147 | 240=>294 | 241=>298 | 276=>312 | 277=>313 | n=>n,fun | 9=>9 | 3=>3 | 4=>4 | 20=>20 | 0=>0 | 46=>208 | 109=>340 | 5=>5 | 72=>328 | 76=>283 | 51=>304 | 146=>363 | 53=>306 | 148=>365 | 70=>326 | 37=>155 | 75=>282 | 127=>360 | 164=>377 | 80=>330 | n=>n,fun | n=>n⟩
theorem Tryz.lays105:Go.Proofs.Lays.n105 Tryz.prog Tryz.lays105_ren:={
 mixed:=by kernel_rfl
 f99:=Tryz.func78.trans (congrArg some (by kernel_rfl))
 f105:=Tryz.func235.trans (congrArg some (by kernel_rfl))
 f165:=Tryz.func272.trans (congrArg some (by kernel_rfl))
 f166:=Tryz.func261.trans (congrArg some (by kernel_rfl))
 f169:=Tryz.func262.trans (congrArg some (by kernel_rfl))
 f170:=Tryz.func273.trans (congrArg some (by kernel_rfl))
 f206:=Tryz.func147.trans (congrArg some (by kernel_rfl))
 f212:=Tryz.func271.trans (congrArg some (by kernel_rfl))
 f240:=Tryz.func294.trans (congrArg some (by kernel_rfl))
 f241:=Tryz.func298.trans (congrArg some (by kernel_rfl))
 f263:=Tryz.func296.trans (congrArg some (by kernel_rfl))
 f264:=Tryz.func297.trans (congrArg some (by kernel_rfl))
 f276:=Tryz.func312.trans (congrArg some (by kernel_rfl))
 f277:=Tryz.func313.trans (congrArg some (by kernel_rfl))
 t0:=Tryz.underlying0
 a0:=Tryz.isAgg0
 z0:=Tryz.sizeOf0
 v0:=Tryz.zeroValue0
 t3:=Tryz.underlying3
 a3:=Tryz.isAgg3
 z3:=Tryz.sizeOf3
 v3:=Tryz.zeroValue3
 t4:=Tryz.underlying4
 a4:=Tryz.isAgg4
 z4:=Tryz.sizeOf4
 v4:=Tryz.zeroValue4
 t5:=Tryz.underlying5
 a5:=Tryz.isAgg5
 z5:=Tryz.sizeOf5
 v5:=Tryz.zeroValue5
 t9:=Tryz.underlying9
 a9:=Tryz.isAgg9
 z9:=Tryz.sizeOf9
 v9:=Tryz.zeroValue9
 t20:=Tryz.underlying20
 a20:=Tryz.isAgg20
 z20:=Tryz.sizeOf20
 v20:=Tryz.zeroValue20
 t37:=Tryz.underlying155
 a37:=Tryz.isAgg155
 z37:=Tryz.sizeOf155
 v37:=Tryz.zeroValue155
 t46:=Tryz.underlying208
 a46:=Tryz.isAgg208
 z46:=Tryz.sizeOf208
 v46:=Tryz.zeroValue208
 t51:=Tryz.underlying304
 a51:=Tryz.isAgg304
 z51:=Tryz.sizeOf304
 v51:=Tryz.zeroValue304
 t53:=Tryz.underlying306
 a53:=Tryz.isAgg306
 z53:=Tryz.sizeOf306
 v53:=Tryz.zeroValue306
 t70:=Tryz.underlying326
 a70:=Tryz.isAgg326
 z70:=Tryz.sizeOf326
 v70:=Tryz.zeroValue326
 t72:=Tryz.underlying328
 a72:=Tryz.isAgg328
 z72:=Tryz.sizeOf328
 v72:=Tryz.zeroValue328
 t75:=Tryz.underlying282
 a75:=Tryz.isAgg282
 z75:=Tryz.sizeOf282
 v75:=Tryz.zeroValue282
 t76:=Tryz.underlying283
 a76:=Tryz.isAgg283
 z76:=Tryz.sizeOf283
 v76:=Tryz.zeroValue283
 t109:=Tryz.underlying340
 a109:=Tryz.isAgg340
 z109:=Tryz.sizeOf340
 v109:=Tryz.zeroValue340
 t127:=Tryz.underlying360
 a127:=Tryz.isAgg360
 z127:=Tryz.sizeOf360
 v127:=Tryz.zeroValue360
 t146:=Tryz.underlying363
 a146:=Tryz.isAgg363
 z146:=Tryz.sizeOf363
 v146:=Tryz.zeroValue363
 t148:=Tryz.underlying365
 a148:=Tryz.isAgg365
 z148:=Tryz.sizeOf365
 v148:=Tryz.zeroValue365
 t164:=Tryz.underlying377
 a164:=Tryz.isAgg377
 z164:=Tryz.sizeOf377
 v164:=Tryz.zeroValue377 }
theorem Tryz.Builder_Extra_105:Builder.Extra Tryz.prog Tryz.lays105_ren:={
 sizeBuilder:=by kernel_rfl
 liesBuilder:=by kernel_rfl
 t5:=Tryz.underlying5
 a5:=Tryz.isAgg5
 z5:=Tryz.sizeOf5
 v5:=Tryz.zeroValue5
 infoByte:=by kernel_rfl
 cellsByte:=by kernel_rfl
 sizeByte:=by kernel_rfl
 neB5:=by decide }
open Go.RowKit Go.Lib in
theorem Tryz.strings_Repeat_main(s:ByteArray)(c:Nat)(w:World)(hc2:2≤c)(hc:c≤9223372036854775807)(hlen:s.size*c≤140737488355328)(h0:0<s.size) :
  Calls Tryz.prog 235 #[.string s,.int .i64 c] w fun e w'=>e=.returned (.string ⟨(Lib.repeatL s.data.toList c).toArray⟩)∧Below w.heap.size w w':=Any.strings_Repeat_main Tryz.lays105 Tryz.Builder_Extra_105 s c w hc2 hc hlen h0
open Go.RowKit Go.Lib in
theorem Tryz.strings_Repeat_zero(s:ByteArray)(w:World) :
  Calls Tryz.prog 235 #[.string s,.int .i64 0] w fun e w'=>e=.returned (.string ⟨#[]⟩)∧w'=w:=Any.strings_Repeat_zero Tryz.lays105 s w
open Go.RowKit Go.Lib in
theorem Tryz.strings_Repeat_one(s:ByteArray)(w:World) :
  Calls Tryz.prog 235 #[.string s,.int .i64 1] w fun e w'=>e=.returned (.string s)∧w'=w:=Any.strings_Repeat_one Tryz.lays105 s w
end Go.Proofs
