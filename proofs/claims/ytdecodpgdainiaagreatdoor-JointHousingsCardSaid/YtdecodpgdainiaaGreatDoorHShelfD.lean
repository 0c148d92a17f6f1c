/-
  The library's contracts at this program: laid by the kit's tools lay-shelf.mjs and lay-plain.mjs, cut down by dev_prune.py.
-/
import Derived.Test.YtdecodpgdainiaaGreatDoorHShelf
import Derived.Test.YtdecodpgdainiaaGreatDoorProg
import Derived.Shelf.Strings.Builder1
import Derived.Shelf.Strings.Builder2
import Derived.Shelf.Strings.Trim
import Derived.Shelf.Small.Utf8
import Derived.Shelf.Small.Bits
import Derived.Shelf.Small.Strs
import Derived.Shelf.Small.Wraps
import Derived.Shelf.Strings.BuilderF
import Derived.Shelf.Strings.BuilderK
import Derived.Shelf.Strings.Builder2Cap
import Derived.Shelf.Strconv.Atoi
import Derived.Shelf.Strconv.Itoa0
import Derived.Shelf.Strconv.Itoa1
import Derived.Shelf.LaysM
import Derived.Shelf.Strconv.Itoa2
import Derived.Shelf.Strconv.Itoa3
import Derived.Shelf.Strconv.AtoiErrFast
import Derived.Shelf.Strconv.ParseIntEmpty
import Derived.Shelf.Strconv.AtoiFail
import Derived.Shelf.Strconv.Clone
import Derived.Shelf.Strconv.SyntaxError
import Derived.Shelf.LaysC
import Derived.Shelf.Strconv.ToError
import Derived.Shelf.Strconv.Lower
import Derived.Shelf.Strconv.ParseUint10
import Derived.Shelf.Strconv.ParseUint10Empty
import Derived.Shelf.Strconv.ParseUint10Any
import Derived.Shelf.Strconv.ParseInt10
import Derived.Shelf.Strconv.AtoiLong
import Derived.Shelf.Strconv.AtoiInnerAll
import Derived.Shelf.Strconv.RangeError
import Derived.Shelf.Strconv.ToErrorRange
import Derived.Shelf.Strconv.AtoiAll
import Derived.Shelf.Strconv.ErrVarAll
import Derived.Shelf.Strings.Search1
import Derived.Shelf.Strings.Search2
import Derived.Shelf.Strings.Search3
import Derived.Shelf.Strings.Cut
import Derived.Shelf.Strings.Shaped
import Derived.Shelf.Strings.Prefix
import Derived.Shelf.Strings.Runes
import Derived.Shelf.Strings.AsciiSet
import Derived.Shelf.Bits.Mul64
import Derived.Shelf.Strings.Repeat
import Derived.Shelf.Unicode.DecodeSlow
namespace Go.Proofs
open Go.Shelf
open Go.RowKit in
theorem Tryz.Builder_String_any_k(B b:Nat)(l:List UInt8)(w:World)(h:Lib.IsBuilderF 256 5 B b (Lib.byteCells l) w)(hBw:B≤w.heap.size) :
  Calls Tryz.prog 169 #[.pointer (some ⟨b,0,none⟩)] w fun e w'=>e=.returned (.string ⟨l.toArray⟩)∧(Lib.IsBuilderF 256 5 B b (Lib.byteCells l) w'∧Below B w w'∧Lib.OthersKept 5 (some b) w w'):=Any.Builder_String_any_k Tryz.lays169 Tryz.Builder_Extra_169 B b l w h hBw
def Tryz.lays105_ren:Go.Shelf.Ren:=⟨fun | 105=>124 | 212=>165 | 99=>29 | 165=>166 | 166=>167 | 170=>168 | 169=>169 | 263=>204 | 264=>205 | 206=>65 | 240=>206 | 241=>207 | 276=>240 | 277=>241 | n=>n,fun | 9=>9 | 3=>3 | 4=>4 | 20=>20 | 0=>0 | 46=>136 | 109=>251 | 5=>5 | 72=>256 | 76=>214 | 51=>200 | 146=>288 | 53=>202 | 148=>290 | 70=>253 | 37=>254 | 75=>213 | 127=>292 | 164=>332 | 80=>259 | n=>n,fun | n=>n⟩
theorem Tryz.lays105:Go.Proofs.Lays.n105 Tryz.prog Tryz.lays105_ren:={
 mixed:=by kernel_rfl
 f99:=Tryz.func29.trans (congrArg some (by kernel_rfl))
 f105:=Tryz.func124.trans (congrArg some (by kernel_rfl))
 f165:=Tryz.func166.trans (congrArg some (by kernel_rfl))
 f166:=Tryz.func167.trans (congrArg some (by kernel_rfl))
 f169:=Tryz.func169.trans (congrArg some (by kernel_rfl))
 f170:=Tryz.func168.trans (congrArg some (by kernel_rfl))
 f206:=Tryz.func65.trans (congrArg some (by kernel_rfl))
 f212:=Tryz.func165.trans (congrArg some (by kernel_rfl))
 f240:=Tryz.func206.trans (congrArg some (by kernel_rfl))
 f241:=Tryz.func207.trans (congrArg some (by kernel_rfl))
 f263:=Tryz.func204.trans (congrArg some (by kernel_rfl))
 f264:=Tryz.func205.trans (congrArg some (by kernel_rfl))
 f276:=Tryz.func240.trans (congrArg some (by kernel_rfl))
 f277:=Tryz.func241.trans (congrArg some (by kernel_rfl))
 t0:=Tryz.underlying0
 a0:=Tryz.isAgg0
 z0:=Tryz.sizeOf0
 v0:=Tryz.zeroValue0
 t3:=Tryz.underlying3
 a3:=Tryz.isAgg3
 z3:=Tryz.sizeOf3
 v3:=Tryz.zeroValue3
 t4:=Tryz.underlying4
 a4:=Tryz.isAgg4
 z4:=Tryz.sizeOf4
 v4:=Tryz.zeroValue4
 t5:=Tryz.underlying5
 a5:=Tryz.isAgg5
 z5:=Tryz.sizeOf5
 v5:=Tryz.zeroValue5
 t9:=Tryz.underlying9
 a9:=Tryz.isAgg9
 z9:=Tryz.sizeOf9
 v9:=Tryz.zeroValue9
 t20:=Tryz.underlying20
 a20:=Tryz.isAgg20
 z20:=Tryz.sizeOf20
 v20:=Tryz.zeroValue20
 t37:=Tryz.underlying254
 a37:=Tryz.isAgg254
 z37:=Tryz.sizeOf254
 v37:=Tryz.zeroValue254
 t46:=Tryz.underlying136
 a46:=Tryz.isAgg136
 z46:=Tryz.sizeOf136
 v46:=Tryz.zeroValue136
 t51:=Tryz.underlying200
 a51:=Tryz.isAgg200
 z51:=Tryz.sizeOf200
 v51:=Tryz.zeroValue200
 t53:=Tryz.underlying202
 a53:=Tryz.isAgg202
 z53:=Tryz.sizeOf202
 v53:=Tryz.zeroValue202
 t70:=Tryz.underlying253
 a70:=Tryz.isAgg253
 z70:=Tryz.sizeOf253
 v70:=Tryz.zeroValue253
 t72:=Tryz.underlying256
 a72:=Tryz.isAgg256
 z72:=Tryz.sizeOf256
 v72:=Tryz.zeroValue256
 t75:=Tryz.underlying213
 a75:=Tryz.isAgg213
 z75:=Tryz.sizeOf213
 v75:=Tryz.zeroValue213
 t76:=Tryz.underlying214
 a76:=Tryz.isAgg214
 z76:=Tryz.sizeOf214
 v76:=Tryz.zeroValue214
 t109:=Tryz.underlying251
 a109:=Tryz.isAgg251
 z109:=Tryz.sizeOf251
 v109:=Tryz.zeroValue251
 t127:=Tryz.underlying292
 a127:=Tryz.isAgg292
 z127:=Tryz.sizeOf292
 v127:=Tryz.zeroValue292
 t146:=Tryz.underlying288
 a146:=Tryz.isAgg288
 z146:=Tryz.sizeOf288
 v146:=Tryz.zeroValue288
 t148:=Tryz.underlying290
 a148:=Tryz.isAgg290
 z148:=Tryz.sizeOf290
 v148:=Tryz.zeroValue290
 t164:=Tryz.underlying332
 a164:=Tryz.isAgg332
 z164:=Tryz.sizeOf332
 v164:=Tryz.zeroValue332 }
theorem Tryz.Builder_Extra_105:Builder.Extra Tryz.prog Tryz.lays105_ren:={
 sizeBuilder:=by kernel_rfl
 liesBuilder:=by kernel_rfl
 t5:=Tryz.underlying5
 a5:=Tryz.isAgg5
 z5:=Tryz.sizeOf5
 v5:=Tryz.zeroValue5
 infoByte:=by kernel_rfl
 cellsByte:=by kernel_rfl
 sizeByte:=by kernel_rfl
 neB5:=by decide }
open Go.RowKit Go.Lib in
theorem Tryz.strings_Repeat_main(s:ByteArray)(c:Nat)(w:World)(hc2:2≤c)(hc:c≤9223372036854775807)(hlen:s.size*c≤140737488355328)(h0:0<s.size) :
  Calls Tryz.prog 124 #[.string s,.int .i64 c] w fun e w'=>e=.returned (.string ⟨(Lib.repeatL s.data.toList c).toArray⟩)∧Below w.heap.size w w':=Any.strings_Repeat_main Tryz.lays105 Tryz.Builder_Extra_105 s c w hc2 hc hlen h0
open Go.RowKit Go.Lib in
theorem Tryz.strings_Repeat_zero(s:ByteArray)(w:World) :
  Calls Tryz.prog 124 #[.string s,.int .i64 0] w fun e w'=>e=.returned (.string ⟨#[]⟩)∧w'=w:=Any.strings_Repeat_zero Tryz.lays105 s w
open Go.RowKit Go.Lib in
theorem Tryz.strings_Repeat_one(s:ByteArray)(w:World) :
  Calls Tryz.prog 124 #[.string s,.int .i64 1] w fun e w'=>e=.returned (.string s)∧w'=w:=Any.strings_Repeat_one Tryz.lays105 s w
end Go.Proofs
