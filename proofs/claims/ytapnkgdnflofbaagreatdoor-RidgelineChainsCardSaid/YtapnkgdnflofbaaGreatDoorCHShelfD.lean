/-
  The library's contracts at this program: laid by the kit's tools lay-shelf.mjs and lay-plain.mjs, cut down by dev_prune.py.
-/
import Derived.Test.YtapnkgdnflofbaaGreatDoorCHShelf
import Derived.Test.YtapnkgdnflofbaaGreatDoorProg
import Derived.Shelf.Strings.Builder1
import Derived.Shelf.Strings.Builder2
import Derived.Shelf.Strings.Trim
import Derived.Shelf.Small.Utf8
import Derived.Shelf.Small.Bits
import Derived.Shelf.Small.Strs
import Derived.Shelf.Small.Wraps
import Derived.Shelf.Strings.BuilderF
import Derived.Shelf.Strings.BuilderK
import Derived.Shelf.Strings.Builder2Cap
import Derived.Shelf.Strconv.Atoi
import Derived.Shelf.Strconv.Itoa0
import Derived.Shelf.Strconv.Itoa1
import Derived.Shelf.LaysM
import Derived.Shelf.Strconv.Itoa2
import Derived.Shelf.Strconv.Itoa3
import Derived.Shelf.Strconv.AtoiErrFast
import Derived.Shelf.Strconv.ParseIntEmpty
import Derived.Shelf.Strconv.AtoiFail
import Derived.Shelf.Strconv.Clone
import Derived.Shelf.Strconv.SyntaxError
import Derived.Shelf.LaysC
import Derived.Shelf.Strconv.ToError
import Derived.Shelf.Strconv.Lower
import Derived.Shelf.Strconv.ParseUint10
import Derived.Shelf.Strconv.ParseUint10Empty
import Derived.Shelf.Strconv.ParseUint10Any
import Derived.Shelf.Strconv.ParseInt10
import Derived.Shelf.Strconv.AtoiLong
import Derived.Shelf.Strconv.AtoiInnerAll
import Derived.Shelf.Strconv.RangeError
import Derived.Shelf.Strconv.ToErrorRange
import Derived.Shelf.Strconv.AtoiAll
import Derived.Shelf.Strconv.ErrVarAll
import Derived.Shelf.Strings.Search1
import Derived.Shelf.Strings.Search2
import Derived.Shelf.Strings.Search3
import Derived.Shelf.Strings.Cut
import Derived.Shelf.Strings.Shaped
import Derived.Shelf.Sort.Plain
import Derived.Shelf.Strings.Prefix
import Derived.Shelf.Strings.Runes
import Derived.Shelf.Strings.AsciiSet
import Derived.Shelf.Bits.Mul64
import Derived.Shelf.Strings.Repeat
import Derived.Shelf.Unicode.DecodeSlow
import Derived.Shelf.Slices.Turned
import Derived.Ground.Names2Prog
import Derived.Shelf.Slices.Clone
import Derived.Ground.SlgnProg
import Derived.Shelf.SlicesE.Clone
namespace Go.Proofs
open Go.Shelf
open Go.RowKit in
theorem Tryz.Builder_String_any_k(B b:Nat)(l:List UInt8)(w:World)(h:Lib.IsBuilderF 325 5 B b (Lib.byteCells l) w)(hBw:B≤w.heap.size) :
  Calls Tryz.prog 269 #[.pointer (some ⟨b,0,none⟩)] w fun e w'=>e=.returned (.string ⟨l.toArray⟩)∧(Lib.IsBuilderF 325 5 B b (Lib.byteCells l) w'∧Below B w w'∧Lib.OthersKept 5 (some b) w w'):=Any.Builder_String_any_k Tryz.lays169 Tryz.Builder_Extra_169 B b l w h hBw
def Tryz.lays105_ren:Go.Shelf.Ren:=⟨fun | 105=>268 | 212=>308 | 99=>96 | 165=>309 | 166=>267 | 170=>310 | 169=>269 | 263=>328 | 264=>329 | 206=>164 | 240=>306 | 241=>330 | 276=>327 | 277=>342 | n=>n,fun | 9=>9 | 3=>3 | 4=>4 | 20=>20 | 0=>0 | 46=>101 | 109=>362 | 5=>5 | 72=>325 | 76=>258 | 51=>173 | 146=>384 | 53=>175 | 148=>386 | 70=>323 | 37=>296 | 75=>257 | 127=>366 | 164=>382 | 80=>329 | n=>n,fun | n=>n⟩
theorem Tryz.lays105:Go.Proofs.Lays.n105 Tryz.prog Tryz.lays105_ren:={
 mixed:=by kernel_rfl
 f99:=Tryz.func96.trans (congrArg some (by kernel_rfl))
 f105:=Tryz.func268.trans (congrArg some (by kernel_rfl))
 f165:=Tryz.func309.trans (congrArg some (by kernel_rfl))
 f166:=Tryz.func267.trans (congrArg some (by kernel_rfl))
 f169:=Tryz.func269.trans (congrArg some (by kernel_rfl))
 f170:=Tryz.func310.trans (congrArg some (by kernel_rfl))
 f206:=Tryz.func164.trans (congrArg some (by kernel_rfl))
 f212:=Tryz.func308.trans (congrArg some (by kernel_rfl))
 f240:=Tryz.func306.trans (congrArg some (by kernel_rfl))
 f241:=Tryz.func330.trans (congrArg some (by kernel_rfl))
 f263:=Tryz.func328.trans (congrArg some (by kernel_rfl))
 f264:=Tryz.func329.trans (congrArg some (by kernel_rfl))
 f276:=Tryz.func327.trans (congrArg some (by kernel_rfl))
 f277:=Tryz.func342.trans (congrArg some (by kernel_rfl))
 t0:=Tryz.underlying0
 a0:=Tryz.isAgg0
 z0:=Tryz.sizeOf0
 v0:=Tryz.zeroValue0
 t3:=Tryz.underlying3
 a3:=Tryz.isAgg3
 z3:=Tryz.sizeOf3
 v3:=Tryz.zeroValue3
 t4:=Tryz.underlying4
 a4:=Tryz.isAgg4
 z4:=Tryz.sizeOf4
 v4:=Tryz.zeroValue4
 t5:=Tryz.underlying5
 a5:=Tryz.isAgg5
 z5:=Tryz.sizeOf5
 v5:=Tryz.zeroValue5
 t9:=Tryz.underlying9
 a9:=Tryz.isAgg9
 z9:=Tryz.sizeOf9
 v9:=Tryz.zeroValue9
 t20:=Tryz.underlying20
 a20:=Tryz.isAgg20
 z20:=Tryz.sizeOf20
 v20:=Tryz.zeroValue20
 t37:=Tryz.underlying296
 a37:=Tryz.isAgg296
 z37:=Tryz.sizeOf296
 v37:=Tryz.zeroValue296
 t46:=Tryz.underlying101
 a46:=Tryz.isAgg101
 z46:=Tryz.sizeOf101
 v46:=Tryz.zeroValue101
 t51:=Tryz.underlying173
 a51:=Tryz.isAgg173
 z51:=Tryz.sizeOf173
 v51:=Tryz.zeroValue173
 t53:=Tryz.underlying175
 a53:=Tryz.isAgg175
 z53:=Tryz.sizeOf175
 v53:=Tryz.zeroValue175
 t70:=Tryz.underlying323
 a70:=Tryz.isAgg323
 z70:=Tryz.sizeOf323
 v70:=Tryz.zeroValue323
 t72:=Tryz.underlying325
 a72:=Tryz.isAgg325
 z72:=Tryz.sizeOf325
 v72:=Tryz.zeroValue325
 t75:=Tryz.underlying257
 a75:=Tryz.isAgg257
 z75:=Tryz.sizeOf257
 v75:=Tryz.zeroValue257
 t76:=Tryz.underlying258
 a76:=Tryz.isAgg258
 z76:=Tryz.sizeOf258
 v76:=Tryz.zeroValue258
 t109:=Tryz.underlying362
 a109:=Tryz.isAgg362
 z109:=Tryz.sizeOf362
 v109:=Tryz.zeroValue362
 t127:=Tryz.underlying366
 a127:=Tryz.isAgg366
 z127:=Tryz.sizeOf366
 v127:=Tryz.zeroValue366
 t146:=Tryz.underlying384
 a146:=Tryz.isAgg384
 z146:=Tryz.sizeOf384
 v146:=Tryz.zeroValue384
 t148:=Tryz.underlying386
 a148:=Tryz.isAgg386
 z148:=Tryz.sizeOf386
 v148:=Tryz.zeroValue386
 t164:=Tryz.underlying382
 a164:=Tryz.isAgg382
 z164:=Tryz.sizeOf382
 v164:=Tryz.zeroValue382 }
theorem Tryz.Builder_Extra_105:Builder.Extra Tryz.prog Tryz.lays105_ren:={
 sizeBuilder:=by kernel_rfl
 liesBuilder:=by kernel_rfl
 t5:=Tryz.underlying5
 a5:=Tryz.isAgg5
 z5:=Tryz.sizeOf5
 v5:=Tryz.zeroValue5
 infoByte:=by kernel_rfl
 cellsByte:=by kernel_rfl
 sizeByte:=by kernel_rfl
 neB5:=by decide }
open Go.RowKit Go.Lib in
theorem Tryz.strings_Repeat_main(s:ByteArray)(c:Nat)(w:World)(hc2:2≤c)(hc:c≤9223372036854775807)(hlen:s.size*c≤140737488355328)(h0:0<s.size) :
  Calls Tryz.prog 268 #[.string s,.int .i64 c] w fun e w'=>e=.returned (.string ⟨(Lib.repeatL s.data.toList c).toArray⟩)∧Below w.heap.size w w':=Any.strings_Repeat_main Tryz.lays105 Tryz.Builder_Extra_105 s c w hc2 hc hlen h0
open Go.RowKit Go.Lib in
theorem Tryz.strings_Repeat_zero(s:ByteArray)(w:World) :
  Calls Tryz.prog 268 #[.string s,.int .i64 0] w fun e w'=>e=.returned (.string ⟨#[]⟩)∧w'=w:=Any.strings_Repeat_zero Tryz.lays105 s w
open Go.RowKit Go.Lib in
theorem Tryz.strings_Repeat_one(s:ByteArray)(w:World) :
  Calls Tryz.prog 268 #[.string s,.int .i64 1] w fun e w'=>e=.returned (.string s)∧w'=w:=Any.strings_Repeat_one Tryz.lays105 s w
end Go.Proofs
