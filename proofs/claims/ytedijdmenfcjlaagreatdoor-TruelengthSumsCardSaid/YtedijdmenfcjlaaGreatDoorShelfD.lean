/-
  The library's contracts at this program: laid by the kit's tools lay-shelf.mjs and lay-plain.mjs, cut down by dev_prune.py.
-/
import Derived.Test.YtedijdmenfcjlaaGreatDoorShelf
import Derived.Test.YtedijdmenfcjlaaGreatDoorProg
import Derived.Shelf.Strings.Builder1
import Derived.Shelf.Strings.Builder2
import Derived.Shelf.Strings.Trim
import Derived.Shelf.Small.Utf8
import Derived.Shelf.Small.Bits
import Derived.Shelf.Small.Strs
import Derived.Shelf.Small.Wraps
import Derived.Shelf.Strings.BuilderF
import Derived.Shelf.Strings.BuilderK
import Derived.Shelf.Strings.Builder2Cap
import Derived.Shelf.Strconv.Atoi
import Derived.Shelf.Strconv.Itoa0
import Derived.Shelf.Strconv.Itoa1
import Derived.Shelf.LaysM
import Derived.Shelf.Strconv.Itoa2
import Derived.Shelf.Strconv.Itoa3
import Derived.Shelf.Strconv.AtoiErrFast
import Derived.Shelf.Strconv.ParseIntEmpty
import Derived.Shelf.Strconv.AtoiFail
import Derived.Shelf.Strconv.Clone
import Derived.Shelf.Strconv.SyntaxError
import Derived.Shelf.LaysC
import Derived.Shelf.Strconv.ToError
import Derived.Shelf.Strconv.Lower
import Derived.Shelf.Strconv.ParseUint10
import Derived.Shelf.Strconv.ParseUint10Empty
import Derived.Shelf.Strconv.ParseUint10Any
import Derived.Shelf.Strconv.ParseInt10
import Derived.Shelf.Strconv.AtoiLong
import Derived.Shelf.Strconv.AtoiInnerAll
import Derived.Shelf.Strconv.RangeError
import Derived.Shelf.Strconv.ToErrorRange
import Derived.Shelf.Strconv.AtoiAll
import Derived.Shelf.Strconv.ErrVarAll
import Derived.Shelf.Strings.Search1
import Derived.Shelf.Strings.Search2
import Derived.Shelf.Strings.Search3
import Derived.Shelf.Strings.Cut
import Derived.Shelf.Strings.Shaped
import Derived.Shelf.Strings.Prefix
import Derived.Shelf.Strings.Runes
import Derived.Shelf.Strings.AsciiSet
import Derived.Shelf.Bits.Mul64
import Derived.Shelf.Strings.Repeat
import Derived.Shelf.Unicode.DecodeSlow
namespace Go.Proofs
open Go.Shelf
open Go.RowKit in
theorem Tryz.Builder_String_any_k (B b : Nat) (l : List UInt8) (w : World) (h : Lib.IsBuilderF 223 5 B b (Lib.byteCells l) w) (hBw : B ≤ w.heap.size) :
  Calls Tryz.prog 153 #[.pointer (some ⟨b, 0, none⟩)] w fun e w' => e = .returned (.string ⟨l.toArray⟩) ∧ (Lib.IsBuilderF 223 5 B b (Lib.byteCells l) w' ∧ Below B w w' ∧ Lib.OthersKept 5 (some b) w w') := Any.Builder_String_any_k Tryz.lays169 Tryz.Builder_Extra_169 B b l w h hBw
def Tryz.lays105_ren : Go.Shelf.Ren := ⟨fun | 105 => 90 | 212 => 149 | 99 => 37 | 165 => 150 | 166 => 151 | 170 => 152 | 169 => 153 | 263 => 185 | 264 => 186 | 206 => 65 | 240 => 187 | 241 => 188 | 276 => 218 | 277 => 219 | n => n, fun | 9 => 9 | 3 => 3 | 4 => 4 | 20 => 20 | 0 => 0 | 46 => 140 | 109 => 218 | 5 => 5 | 72 => 223 | 76 => 206 | 51 => 200 | 146 => 252 | 53 => 202 | 148 => 254 | 70 => 220 | 37 => 221 | 75 => 205 | 127 => 256 | 164 => 281 | 80 => 226 | n => n, fun | n => n⟩
theorem Tryz.lays105 : Go.Proofs.Lays.n105 Tryz.prog Tryz.lays105_ren := {
 mixed := by kernel_rfl
 f99 := Tryz.func37.trans (congrArg some (by kernel_rfl))
 f105 := Tryz.func90.trans (congrArg some (by kernel_rfl))
 f165 := Tryz.func150.trans (congrArg some (by kernel_rfl))
 f166 := Tryz.func151.trans (congrArg some (by kernel_rfl))
 f169 := Tryz.func153.trans (congrArg some (by kernel_rfl))
 f170 := Tryz.func152.trans (congrArg some (by kernel_rfl))
 f206 := Tryz.func65.trans (congrArg some (by kernel_rfl))
 f212 := Tryz.func149.trans (congrArg some (by kernel_rfl))
 f240 := Tryz.func187.trans (congrArg some (by kernel_rfl))
 f241 := Tryz.func188.trans (congrArg some (by kernel_rfl))
 f263 := Tryz.func185.trans (congrArg some (by kernel_rfl))
 f264 := Tryz.func186.trans (congrArg some (by kernel_rfl))
 f276 := Tryz.func218.trans (congrArg some (by kernel_rfl))
 f277 := Tryz.func219.trans (congrArg some (by kernel_rfl))
 t0 := Tryz.underlying0
 a0 := Tryz.isAgg0
 z0 := Tryz.sizeOf0
 v0 := Tryz.zeroValue0
 t3 := Tryz.underlying3
 a3 := Tryz.isAgg3
 z3 := Tryz.sizeOf3
 v3 := Tryz.zeroValue3
 t4 := Tryz.underlying4
 a4 := Tryz.isAgg4
 z4 := Tryz.sizeOf4
 v4 := Tryz.zeroValue4
 t5 := Tryz.underlying5
 a5 := Tryz.isAgg5
 z5 := Tryz.sizeOf5
 v5 := Tryz.zeroValue5
 t9 := Tryz.underlying9
 a9 := Tryz.isAgg9
 z9 := Tryz.sizeOf9
 v9 := Tryz.zeroValue9
 t20 := Tryz.underlying20
 a20 := Tryz.isAgg20
 z20 := Tryz.sizeOf20
 v20 := Tryz.zeroValue20
 t37 := Tryz.underlying221
 a37 := Tryz.isAgg221
 z37 := Tryz.sizeOf221
 v37 := Tryz.zeroValue221
 t46 := Tryz.underlying140
 a46 := Tryz.isAgg140
 z46 := Tryz.sizeOf140
 v46 := Tryz.zeroValue140
 t51 := Tryz.underlying200
 a51 := Tryz.isAgg200
 z51 := Tryz.sizeOf200
 v51 := Tryz.zeroValue200
 t53 := Tryz.underlying202
 a53 := Tryz.isAgg202
 z53 := Tryz.sizeOf202
 v53 := Tryz.zeroValue202
 t70 := Tryz.underlying220
 a70 := Tryz.isAgg220
 z70 := Tryz.sizeOf220
 v70 := Tryz.zeroValue220
 t72 := Tryz.underlying223
 a72 := Tryz.isAgg223
 z72 := Tryz.sizeOf223
 v72 := Tryz.zeroValue223
 t75 := Tryz.underlying205
 a75 := Tryz.isAgg205
 z75 := Tryz.sizeOf205
 v75 := Tryz.zeroValue205
 t76 := Tryz.underlying206
 a76 := Tryz.isAgg206
 z76 := Tryz.sizeOf206
 v76 := Tryz.zeroValue206
 t109 := Tryz.underlying218
 a109 := Tryz.isAgg218
 z109 := Tryz.sizeOf218
 v109 := Tryz.zeroValue218
 t127 := Tryz.underlying256
 a127 := Tryz.isAgg256
 z127 := Tryz.sizeOf256
 v127 := Tryz.zeroValue256
 t146 := Tryz.underlying252
 a146 := Tryz.isAgg252
 z146 := Tryz.sizeOf252
 v146 := Tryz.zeroValue252
 t148 := Tryz.underlying254
 a148 := Tryz.isAgg254
 z148 := Tryz.sizeOf254
 v148 := Tryz.zeroValue254
 t164 := Tryz.underlying281
 a164 := Tryz.isAgg281
 z164 := Tryz.sizeOf281
 v164 := Tryz.zeroValue281 }
theorem Tryz.Builder_Extra_105 : Builder.Extra Tryz.prog Tryz.lays105_ren := {
 sizeBuilder := by kernel_rfl
 liesBuilder := by kernel_rfl
 t5 := Tryz.underlying5
 a5 := Tryz.isAgg5
 z5 := Tryz.sizeOf5
 v5 := Tryz.zeroValue5
 infoByte := by kernel_rfl
 cellsByte := by kernel_rfl
 sizeByte := by kernel_rfl
 neB5 := by decide }
open Go.RowKit Go.Lib in
theorem Tryz.strings_Repeat_main (s : ByteArray) (c : Nat) (w : World) (hc2 : 2 ≤ c) (hc : c ≤ 9223372036854775807) (hlen : s.size * c ≤ 140737488355328) (h0 : 0 < s.size) :
  Calls Tryz.prog 90 #[.string s, .int .i64 c] w fun e w' => e = .returned (.string ⟨(Lib.repeatL s.data.toList c).toArray⟩) ∧ Below w.heap.size w w' := Any.strings_Repeat_main Tryz.lays105 Tryz.Builder_Extra_105 s c w hc2 hc hlen h0
open Go.RowKit Go.Lib in
theorem Tryz.strings_Repeat_zero (s : ByteArray) (w : World) :
  Calls Tryz.prog 90 #[.string s, .int .i64 0] w fun e w' => e = .returned (.string ⟨#[]⟩) ∧ w' = w := Any.strings_Repeat_zero Tryz.lays105 s w
open Go.RowKit Go.Lib in
theorem Tryz.strings_Repeat_one (s : ByteArray) (w : World) :
  Calls Tryz.prog 90 #[.string s, .int .i64 1] w fun e w' => e = .returned (.string s) ∧ w' = w := Any.strings_Repeat_one Tryz.lays105 s w
end Go.Proofs
