/-
  The library's contracts at this program: laid by the kit's tools lay-shelf.mjs and lay-plain.mjs, cut down by dev_prune.py.
-/
import Derived.Test.YtbpghkdadajomaaGreatDoorHShelf
import Derived.Test.YtbpghkdadajomaaGreatDoorProg
import Derived.Shelf.Strings.Builder1
import Derived.Shelf.Strings.Builder2
import Derived.Shelf.Strings.Trim
import Derived.Shelf.Small.Utf8
import Derived.Shelf.Small.Bits
import Derived.Shelf.Small.Strs
import Derived.Shelf.Small.Wraps
import Derived.Shelf.Strings.BuilderF
import Derived.Shelf.Strings.BuilderK
import Derived.Shelf.Strings.Builder2Cap
import Derived.Shelf.Strconv.Atoi
import Derived.Shelf.Strconv.Itoa0
import Derived.Shelf.Strconv.Itoa1
import Derived.Shelf.LaysM
import Derived.Shelf.Strconv.Itoa2
import Derived.Shelf.Strconv.Itoa3
import Derived.Shelf.Strconv.AtoiErrFast
import Derived.Shelf.Strconv.ParseIntEmpty
import Derived.Shelf.Strconv.AtoiFail
import Derived.Shelf.Strconv.Clone
import Derived.Shelf.Strconv.SyntaxError
import Derived.Shelf.LaysC
import Derived.Shelf.Strconv.ToError
import Derived.Shelf.Strconv.Lower
import Derived.Shelf.Strconv.ParseUint10
import Derived.Shelf.Strconv.ParseUint10Empty
import Derived.Shelf.Strconv.ParseUint10Any
import Derived.Shelf.Strconv.ParseInt10
import Derived.Shelf.Strconv.AtoiLong
import Derived.Shelf.Strconv.AtoiInnerAll
import Derived.Shelf.Strconv.RangeError
import Derived.Shelf.Strconv.ToErrorRange
import Derived.Shelf.Strconv.AtoiAll
import Derived.Shelf.Strconv.ErrVarAll
import Derived.Shelf.Strings.Search1
import Derived.Shelf.Strings.Search2
import Derived.Shelf.Strings.Search3
import Derived.Shelf.Strings.Cut
import Derived.Shelf.Strings.Shaped
import Derived.Shelf.Strings.Prefix
import Derived.Shelf.Strings.Runes
import Derived.Shelf.Strings.AsciiSet
import Derived.Shelf.Bits.Mul64
import Derived.Shelf.Strings.Repeat
import Derived.Shelf.Unicode.DecodeSlow
namespace Go.Proofs
open Go.Shelf
open Go.RowKit in
theorem Tryz.Builder_String_any_k(B b:Nat)(l:List UInt8)(w:World)(h:Lib.IsBuilderF 310 5 B b (Lib.byteCells l) w)(hBw:B≤w.heap.size) :
 Calls Tryz.prog 226 #[.pointer (some ⟨b,0,none⟩)] w fun e w'=>e=.returned (.string ⟨l.toArray⟩)∧(Lib.IsBuilderF 310 5 B b (Lib.byteCells l) w'∧Below B w w'∧Lib.OthersKept 5 (some b) w w'):=Any.Builder_String_any_k Tryz.lays169 Tryz.Builder_Extra_169 B b l w h hBw
def Tryz.lays105_ren:Go.Shelf.Ren:=⟨fun | 105=>165 | 212=>227 | 99=>56 | 165=>228 | 166=>225 | 170=>229 | 169=>226 | 263=>267 | 264=>268 | 206=>108 | 240=>266 | 241=>269 | 276=>288 | 277=>289 | n=>n,fun | 9=>9 | 3=>3 | 4=>4 | 20=>20 | 0=>0 | 46=>209 | 109=>313 | 5=>5 | 72=>310 | 76=>230 | 51=>289 | 146=>355 | 53=>291 | 148=>357 | 70=>308 | 37=>294 | 75=>229 | 127=>354 | 164=>372 | 80=>312 | n=>n,fun | n=>n⟩
theorem Tryz.lays105:Go.Proofs.Lays.n105 Tryz.prog Tryz.lays105_ren:={
 mixed:=by kernel_rfl
 f99:=Tryz.func56.trans (congrArg some (by kernel_rfl))
 f105:=Tryz.func165.trans (congrArg some (by kernel_rfl))
 f165:=Tryz.func228.trans (congrArg some (by kernel_rfl))
 f166:=Tryz.func225.trans (congrArg some (by kernel_rfl))
 f169:=Tryz.func226.trans (congrArg some (by kernel_rfl))
 f170:=Tryz.func229.trans (congrArg some (by kernel_rfl))
 f206:=Tryz.func108.trans (congrArg some (by kernel_rfl))
 f212:=Tryz.func227.trans (congrArg some (by kernel_rfl))
 f240:=Tryz.func266.trans (congrArg some (by kernel_rfl))
 f241:=Tryz.func269.trans (congrArg some (by kernel_rfl))
 f263:=Tryz.func267.trans (congrArg some (by kernel_rfl))
 f264:=Tryz.func268.trans (congrArg some (by kernel_rfl))
 f276:=Tryz.func288.trans (congrArg some (by kernel_rfl))
 f277:=Tryz.func289.trans (congrArg some (by kernel_rfl))
 t0:=Tryz.underlying0
 a0:=Tryz.isAgg0
 z0:=Tryz.sizeOf0
 v0:=Tryz.zeroValue0
 t3:=Tryz.underlying3
 a3:=Tryz.isAgg3
 z3:=Tryz.sizeOf3
 v3:=Tryz.zeroValue3
 t4:=Tryz.underlying4
 a4:=Tryz.isAgg4
 z4:=Tryz.sizeOf4
 v4:=Tryz.zeroValue4
 t5:=Tryz.underlying5
 a5:=Tryz.isAgg5
 z5:=Tryz.sizeOf5
 v5:=Tryz.zeroValue5
 t9:=Tryz.underlying9
 a9:=Tryz.isAgg9
 z9:=Tryz.sizeOf9
 v9:=Tryz.zeroValue9
 t20:=Tryz.underlying20
 a20:=Tryz.isAgg20
 z20:=Tryz.sizeOf20
 v20:=Tryz.zeroValue20
 t37:=Tryz.underlying294
 a37:=Tryz.isAgg294
 z37:=Tryz.sizeOf294
 v37:=Tryz.zeroValue294
 t46:=Tryz.underlying209
 a46:=Tryz.isAgg209
 z46:=Tryz.sizeOf209
 v46:=Tryz.zeroValue209
 t51:=Tryz.underlying289
 a51:=Tryz.isAgg289
 z51:=Tryz.sizeOf289
 v51:=Tryz.zeroValue289
 t53:=Tryz.underlying291
 a53:=Tryz.isAgg291
 z53:=Tryz.sizeOf291
 v53:=Tryz.zeroValue291
 t70:=Tryz.underlying308
 a70:=Tryz.isAgg308
 z70:=Tryz.sizeOf308
 v70:=Tryz.zeroValue308
 t72:=Tryz.underlying310
 a72:=Tryz.isAgg310
 z72:=Tryz.sizeOf310
 v72:=Tryz.zeroValue310
 t75:=Tryz.underlying229
 a75:=Tryz.isAgg229
 z75:=Tryz.sizeOf229
 v75:=Tryz.zeroValue229
 t76:=Tryz.underlying230
 a76:=Tryz.isAgg230
 z76:=Tryz.sizeOf230
 v76:=Tryz.zeroValue230
 t109:=Tryz.underlying313
 a109:=Tryz.isAgg313
 z109:=Tryz.sizeOf313
 v109:=Tryz.zeroValue313
 t127:=Tryz.underlying354
 a127:=Tryz.isAgg354
 z127:=Tryz.sizeOf354
 v127:=Tryz.zeroValue354
 t146:=Tryz.underlying355
 a146:=Tryz.isAgg355
 z146:=Tryz.sizeOf355
 v146:=Tryz.zeroValue355
 t148:=Tryz.underlying357
 a148:=Tryz.isAgg357
 z148:=Tryz.sizeOf357
 v148:=Tryz.zeroValue357
 t164:=Tryz.underlying372
 a164:=Tryz.isAgg372
 z164:=Tryz.sizeOf372
 v164:=Tryz.zeroValue372 }
theorem Tryz.Builder_Extra_105:Builder.Extra Tryz.prog Tryz.lays105_ren:={
 sizeBuilder:=by kernel_rfl
 liesBuilder:=by kernel_rfl
 t5:=Tryz.underlying5
 a5:=Tryz.isAgg5
 z5:=Tryz.sizeOf5
 v5:=Tryz.zeroValue5
 infoByte:=by kernel_rfl
 cellsByte:=by kernel_rfl
 sizeByte:=by kernel_rfl
 neB5:=by decide }
open Go.RowKit Go.Lib in
theorem Tryz.strings_Repeat_main(s:ByteArray)(c:Nat)(w:World)(hc2:2≤c)(hc:c≤9223372036854775807)(hlen:s.size*c≤140737488355328)(h0:0<s.size) :
 Calls Tryz.prog 165 #[.string s,.int .i64 c] w fun e w'=>e=.returned (.string ⟨(Lib.repeatL s.data.toList c).toArray⟩)∧Below w.heap.size w w':=Any.strings_Repeat_main Tryz.lays105 Tryz.Builder_Extra_105 s c w hc2 hc hlen h0
open Go.RowKit Go.Lib in
theorem Tryz.strings_Repeat_zero(s:ByteArray)(w:World) :
 Calls Tryz.prog 165 #[.string s,.int .i64 0] w fun e w'=>e=.returned (.string ⟨#[]⟩)∧w'=w:=Any.strings_Repeat_zero Tryz.lays105 s w
open Go.RowKit Go.Lib in
theorem Tryz.strings_Repeat_one(s:ByteArray)(w:World) :
 Calls Tryz.prog 165 #[.string s,.int .i64 1] w fun e w'=>e=.returned (.string s)∧w'=w:=Any.strings_Repeat_one Tryz.lays105 s w
end Go.Proofs
