/-
  strings.Builder's copyCheck, WriteByte, WriteString over this translation (after the guide's own contracts, whose bodies part from this translation's at the panic alone).; Go's library, as this seat's proofs use it: every call keeps what lay there.; strings.Builder's WriteString once more, with what it leaves alone.
-/
import Derived.Test.YtapnkgdnflofbaaGreatDoorCH00
import Derived.Test.YtapnkgdnflofbaaGreatDoorCHShelf
import Derived.Test.YtapnkgdnflofbaaGreatDoorCHMA
import Derived.Lib.SmallJoins
import Derived.Shelf.Strings.SlTrimAscii
set_option maxRecDepth 100000
set_option maxHeartbeats 1000000
namespace Go.Proofs.YtapnkgdnflofbaaGreatDoor
section
open Go.RowKit Kp
theorem sizeBuilder:(Tryz.prog.info? 325).map (·.size)=some 2:=by kernel_rfl
theorem liesBuilder:liesAt Tryz.prog Tryz.prog.depth 325 (2 / Tryz.prog.cellsOf 325) 0 325 1=true:=by kernel_rfl
theorem infoByte:(Tryz.prog.info? 5).map (fun i=>(i.zero,i.size,i.bytes))=some (some (.int .u8 0),1,1):=by kernel_rfl
theorem zjt(b:Nat)(w:World)(h0:w.cell? ⟨b,0,none⟩=some (.pointer (some ⟨b,0,none⟩))) :
  Calls Tryz.prog 306 #[.pointer (some ⟨b,0,none⟩)] w fun e w'=>e=.returned (.tuple #[])∧w'=w:=by
 obtain⟨j,hj,_⟩:=Option.map_eq_some_iff.1 sizeBuilder
 go_enter Tryz.func306,Tryz.ntmps306
 go_wp2
 rw[Lib.run_neq_ptr_same w _ Tryz.underlying323 hj]
 go_wp2
 go_end0
 exact⟨rfl,rfl⟩
theorem zi6(b:Nat)(w:World)(h0:w.cell? ⟨b,0,none⟩=some (.pointer none))(hsh:w.shape? b=some (325,2))(hfz:w.frozen? ⟨b,0,none⟩=false) :
  Calls Tryz.prog 306 #[.pointer (some ⟨b,0,none⟩)] w fun e w'=>e=.returned (.tuple #[])∧w'=w.setCell ⟨b,0,none⟩ (.pointer (some ⟨b,0,none⟩)):=by
 obtain⟨j,hj,hjs⟩:=Option.map_eq_some_iff.1 sizeBuilder
 go_enter Tryz.func306,Tryz.ntmps306
 go_wp2
 rw[Lib.run_to_unsafe w ⟨b,0,none⟩ Tryz.underlying323 Tryz.underlying382 hj (by rw[hjs];decide) hsh (Nat.zero_lt_succ 1)]
 simp only[Result.andThen]
 rw[Oper.upon_value]
 go_wp2
 rw[run_callFunc_extern Tryz.func327 (by kernel_rfl) (by kernel_rfl) (by kernel_rfl) (e:=Extern.AbiNoEscape.same) (by kernel_rfl)]
 rw[Lib.run_noEscape]
 simp only[Result.andThen]
 rw[Oper.upon_value]
 go_wp2
 rw[Lib.run_from_unsafe w ⟨b,0,none⟩ Tryz.underlying382 Tryz.underlying323 hj hsh liesBuilder]
 simp only[Result.andThen]
 rw[Oper.upon_value]
 go_wp2
 go_end0
 exact⟨rfl,rfl⟩
theorem below_grow(w:World)(os:Array Obj):Below w.heap.size w (Sort.grow w os) :=
 ⟨rfl,rfl,rfl,by simp[Sort.grow],fun k hk=>by simp[Sort.grow,Array.getElem?_append_left hk]⟩
theorem zaq(z:Int)(h0:-9223372036854775808≤z)(h1:z≤9223372036854775807)(w:World)(hE:Env w) :
  CR 143 #[.int .i64 z] w (.string ⟨(Lib.itoa z).toArray⟩):=by
 refine(Tryz.strconv_Itoa z h0 h1 w hE.pow10).mono ?_
 rintro e w'⟨rfl,k,os,rfl⟩
 exact⟨rfl,(Below.drewN (Below.refl _ w) k).trans (below_grow (w.drewN k) os)⟩
theorem zgk(z:Int)(h:(Lib.itoa z).length≤18)(w:World) :
  CR 197 #[.string ⟨(Lib.itoa z).toArray⟩] w (.tuple #[.int .i64 z,.nilIface]):=by
 refine(Tryz.strconv_Atoi ⟨(Lib.itoa z).toArray⟩ z h (by simpa using zqT z) w).mono ?_
 rintro e w'⟨rfl,t,rfl⟩
 exact⟨rfl,Joins.below_bytesWorld _ _ _ _ (Nat.le_refl _)⟩
theorem zP(s:Str)(w:World) :
  Calls Tryz.prog 155 #[.string ⟨s.toArray⟩,.string ⟨#[45]⟩] w fun e w'=>e=.returned (.string ⟨(zo s).toArray⟩)∧w=w':=by
 refine(Tryz.strings_TrimPrefix ⟨s.toArray⟩ ⟨#[45]⟩ w).mono ?_
 rintro e w'⟨rfl,rfl⟩
 exact⟨by simp only[zeg],rfl⟩
theorem zdj(s:Str)(w:World) :
  Calls Tryz.prog 199 #[.string ⟨s.toArray⟩,.string ⟨#[45]⟩] w fun e w'=>e=.returned (.tuple #[.string ⟨(zo s).toArray⟩,.bool (decide (s.head? = some 45))])∧w=w':=by
 refine(Tryz.strings_CutPrefix ⟨s.toArray⟩ ⟨#[45]⟩ w).mono ?_
 rintro e w'⟨rfl,rfl⟩
 exact⟨by simp only[zeg,zeS],rfl⟩
theorem zW(s:Str)(w:World) :
  Calls Tryz.prog 96 #[.string ⟨s.toArray⟩,.string ⟨#[45]⟩] w fun e w'=>e=.returned (.bool (decide (s.head? = some 45)))∧w=w':=by
 refine(Tryz.strings_HasPrefix ⟨s.toArray⟩ ⟨#[45]⟩ w).mono ?_
 rintro e w'⟨rfl,rfl⟩
 exact⟨by simp only[zeS],rfl⟩
def zaD(s:Str):Str:=if zC s then zV s else []
theorem zlZ(s:Str)(hs:s.length<4294967281)(w:World)(hE:Env w) :
  Calls Tryz.prog 209 #[.string ⟨s.toArray⟩,.string ⟨#[47]⟩] w fun e w'=>e=.returned (.tuple #[.string ⟨(zq s).toArray⟩,.string ⟨(zaD s).toArray⟩,.bool (zC s)])∧∃ n,w'=w.drewN n:=by
 obtain⟨m,hm⟩:=hE.maxlen
 refine(Tryz.strings_Cut ⟨s.toArray⟩ ⟨#[47]⟩ m w hs hm).mono ?_
 rintro e w'⟨rfl,h⟩
 exact⟨by simp only[zqN];rfl,h⟩
theorem zdQ(s:Str)(hs:s.length<4294967281)(w:World)(hE:Env w) :
  Calls Tryz.prog 282 #[.string ⟨s.toArray⟩,.string ⟨#[47]⟩] w fun e w'=>e=.returned (.bool (zC s))∧w=w':=by
 obtain⟨m,hm⟩:=hE.maxlen
 refine(Tryz.strings_Contains ⟨s.toArray⟩ ⟨#[47]⟩ m w hs hm).mono ?_
 rintro e w'⟨rfl,rfl⟩
 exact⟨by simp only[zju],rfl⟩
def zoV(s:Str):Str:=Lib.trimS s [48,49,50,51,52,53,54,55,56,57]
theorem zlM(s:Str):zoV s=[] ↔ zay s:=zmy s
theorem zdv(s:Str)(hs:s.length≤9223372036854775807)(w:World) :
  CR 259 #[.string ⟨s.toArray⟩,.string ⟨#[48,49,50,51,52,53,54,55,56,57]⟩] w (.string ⟨(zoV s).toArray⟩):=by
 refine(Any.strings_Trim_laid Tryz.lays160 (by kernel_rfl) ⟨s.toArray⟩ ⟨#[48,49,50,51,52,53,54,55,56,57]⟩ w hs (by decide) (ascii_of_all (by decide))).mono ?_
 rintro e w'⟨rfl,h⟩
 exact⟨rfl,h⟩
theorem zdn(B b:Nat)(bs:List Value)(w:World)(h:Lib.IsBuilder 325 5 B b bs w) :
  Calls Tryz.prog 306 #[.pointer (some ⟨b,0,none⟩)] w fun e w'=>e=.returned (.tuple #[])∧(Lib.BuilderAt 325 5 B b (.pointer (some ⟨b,0,none⟩)) bs w'∧Below B w w'∧Hid (∀ k,k≠b→w'.heap[k]? = w.heap[k]?)):=by
 rcases h with h | h
 ·refine(zi6 b w h.cell0 h.shape h.frozen0).mono ?_
  rintro e w'⟨rfl,rfl⟩
  exact⟨rfl,h.used _,(Below.refl B w).setCell (p:=⟨b,0,none⟩) h.1 _,LH (fun k hk=>Below.heap_setCell _ _ _ _ (fun e=>hk e))⟩
 ·refine(zjt b w h.cell0).mono ?_
  rintro e w'⟨rfl,rfl⟩
  exact⟨rfl,h,Below.refl B _,LH (fun k _=>rfl)⟩
end
end Go.Proofs.YtapnkgdnflofbaaGreatDoor
