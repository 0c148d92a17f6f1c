/-
  strings.Builder once more, with all that it leaves alone; strings.Repeat of a zero.
-/
import Derived.Test.YtohlpeicpoaanaaGreatDoorBuildB
import Derived.Test.YtohlpeicpoaanaaGreatDoorBI1
import Derived.Test.YtohlpeicpoaanaaGreatDoorShelfD
namespace Go.Proofs.YtohlpeicpoaanaaGreatDoor
open Go.RowKit Kp
def Far (w:World) (b:Nat) (w':World):Prop:=w.heap.size≤w'.heap.size∧∀ k o,k≠b→(∀ cs fr,o≠Obj.cells cs 5 fr)→w.heap[k]?=some o→w'.heap[k]?=some o
theorem own_ne {w:World} {base n k:Nat} {e:TypeId} {v:Value} {xs:List Value} {o:Obj} (h:w.ownsRow base e 1 v n xs) (hk:w.heap[k]?=some o) (ho:∀ cs fr,o≠Obj.cells cs e fr) (he:some k=v.ownBlock):False:=by
 rcases h.2 with ⟨rfl,_⟩ | ⟨g,cap,cur,rfl,_,hg,_⟩
 ·cases he
 ·have:k=g:=Option.some.inj he
  subst this
  rw [hg] at hk
  exact ho _ _ (Option.some.inj hk).symm
theorem Far.boxed {w w':World} {b g:Nat} {t:TypeId} {v:Value} (h:Far w b w') (hb:Boxed w g t v) (hne:g≠b) (ht:t≠5):Boxed w' g t v:=h.2 _ _ hne (fun cs fr e=>ht (by cases e; rfl)) hb
theorem Far.keeps {w w':World} {b B:Nat} (h:Far w b w') {cs:Array Value} {t:TypeId} {f:Nat × Nat} (hb:w.heap[b]?=some (.cells cs t f)):KeepsFrom B w w':=(KeepsOthers.from ⟨h.1,fun k o hk ho=>h.2 k o (fun e=>by subst e; rw [hb] at hk; cases hk; cases ho) (fun cs fr e=>by subst e; cases ho) hk⟩ B)
set_option maxHeartbeats 2000000 in
set_option maxRecDepth 100000 in
theorem builder_WriteByte3 (B b:Nat) (bs:List Value) (c:Int) (w:World) (h:Lib.IsBuilder 98 5 B b bs w) (hlen:bs.length+1≤140737488355328) (hBw:B≤w.heap.size) :
  Calls Tryz.prog 55 #[.pointer (some ⟨b,0,none⟩),.int .u8 c] w fun e w'=>e=.returned .nilIface∧(Lib.BuilderAt 98 5 B b (.pointer (some ⟨b,0,none⟩)) (bs++[.int .u8 c]) w'∧Below B w w'∧Far w b w'):=by
 obtain ⟨i0,hi,hz0,hz1,hz2⟩:=info_parts infoByte
 go_enter Tryz.func55,Tryz.ntmps55
 go_wp2_with (go_at_call 81; refine (builder_copyCheck2 B b bs _ h).mono ?_)
 rintro e w1 ⟨rfl,h1,hb1,HK⟩
 obtain ⟨hB,v,hbk,hown,hne⟩:=h1
 have c0:w1.cell? ⟨b,0,none⟩=some (.pointer (some ⟨b,0,none⟩)):=by rw [Lib.cell_of_heap hbk]; rfl
 have c1:w1.cell? ⟨b,1,none⟩=some v:=by rw [Lib.cell_of_heap hbk]; rfl
 go_wp2_with (at_builtin; refine wpList_append_own _ rfl _ _ 96 rfl B 5 i0 (.int .u8 0) 1 1 Tryz.underlying96 hi hz0 hz1 hz2 rfl (by decide) _ _ _ rfl (hown.alloc _) ⟨w1.heap.size,0,none⟩ 1 1 [.int .u8 c] rfl rfl ?c1 ?c2 ?c3 ?c4 ?c5 ?_)
 case c1 =>
  intro j u hj
  match j,hj with
  | 0,hj=>simp at hj; subst hj; simp [Addr.add]
 case c2=>intro u hu; simp at hu; subst hu; rfl
 case c3=>unfold maxLen; omega
 case c4=>omega
 case c5=>have:=hb1.size; simp; omega
 intro v' w2 hown' hgrow _
 have hlt:b<w1.heap.size:=by
  rcases Nat.lt_or_ge b w1.heap.size with h' | h'
  ·exact h'
  ·simp [Array.getElem?_eq_none h'] at hbk
 have hb2:w2.heap[b]?=some (.cells #[.pointer (some ⟨b,0,none⟩),v] 98 (0,0)):=by
  rw [hgrow.block b (by simp; omega) (fun e=>hne e.symm),Lib.alloc_old w1 _ b hlt]
  exact hbk
 have HF:Hid (Far w b (w2.setCell ⟨b,1,none⟩ v')):=LH ⟨by have:=hb1.size; have:=hgrow.size; simp [World.setCell] at *; omega,fun k o hk hT hc=>by
  have e1:=(HK.out k hk).trans hc
  have hlk:k<w1.heap.size:=(Array.getElem?_eq_some_iff.1 e1).1
  rw [Below.heap_setCell _ _ _ _ (fun e=>hk e),hgrow.block k (by simp; omega) (fun e=>own_ne hown e1 hT e),Lib.alloc_old w1 _ k hlk]
  exact e1⟩
 have d0:w2.cell? ⟨b,0,none⟩=some (.pointer (some ⟨b,0,none⟩)):=by rw [Lib.cell_of_heap hb2]; rfl
 have d1:w2.cell? ⟨b,1,none⟩=some v:=by rw [Lib.cell_of_heap hb2]; rfl
 have f1:w2.frozen? ⟨b,1,none⟩=false:=Lib.frozen_of_heap hb2 1
 obtain ⟨g,cap,rfl⟩:∃ g cap,v'=.slice (some ⟨g,0,none⟩) (bs.length+1) cap:=by
  rcases hown'.2 with ⟨_,h0⟩ | ⟨g,cap,cur,hv,_⟩
  ·omega
  ·exact ⟨g,cap,hv⟩
 go_wp2
 go_ret
 refine ⟨rfl,?_,?_,HF.out⟩
 ·exact Lib.BuilderAt.put (T:=98) (e:=5) hB hb2 (bs':=bs++[.int .u8 c]) (by simpa using hown') (by decide)
 ·exact ((hb1.alloc (by have:=hb1.size; omega) _).grown hgrow (by have:=hb1.size; simp; omega) (fun k hk=>(hown.lt k hk).1)).setCell (p:=⟨b,1,none⟩) hB _
set_option maxHeartbeats 2000000 in
set_option maxRecDepth 100000 in
theorem builder_WriteString3 (B b:Nat) (bs:List Value) (s:ByteArray) (w:World) (h:Lib.IsBuilder 98 5 B b bs w) (hlen:bs.length+s.size≤140737488355328) (hBw:B≤w.heap.size) :
  Calls Tryz.prog 56 #[.pointer (some ⟨b,0,none⟩),.string s] w fun e w'=>e=.returned (.tuple #[.int .i64 s.size,.nilIface])∧Lib.BuilderAt 98 5 B b (.pointer (some ⟨b,0,none⟩)) (bs++Lib.strCells s) w'∧Below B w w'∧Far w b w':=by
 obtain ⟨i0,hi,hz0,hz1,hz2⟩:=info_parts infoByte
 go_enter Tryz.func56,Tryz.ntmps56
 go_wp2_with (go_at_call 81; refine (builder_copyCheck2 B b bs _ h).mono ?_)
 rintro e w1 ⟨rfl,h1,hb1,HK⟩
 obtain ⟨hB,v,hbk,hown,hne⟩:=h1
 have c0:w1.cell? ⟨b,0,none⟩=some (.pointer (some ⟨b,0,none⟩)):=by rw [Lib.cell_of_heap hbk]; rfl
 have c1:w1.cell? ⟨b,1,none⟩=some v:=by rw [Lib.cell_of_heap hbk]; rfl
 go_wp2_with (at_builtin; refine Lib.wpList_append_own_string _ rfl _ _ 96 9 rfl B 5 i0 Tryz.underlying96 Tryz.underlying9 hi hz0 hz1 hz2 _ _ _ rfl hown s rfl ?c3 ?c4 ?c5 ?_)
 case c3=>unfold maxLen; omega
 case c4=>omega
 case c5=>have:=hb1.size; omega
 intro v' w2 hown' hgrow _
 have hlt:b<w1.heap.size:=by
  rcases Nat.lt_or_ge b w1.heap.size with h' | h'
  ·exact h'
  ·simp [Array.getElem?_eq_none h'] at hbk
 have hb2:w2.heap[b]?=some (.cells #[.pointer (some ⟨b,0,none⟩),v] 98 (0,0)):=by
  rw [hgrow.block b hlt (fun e=>hne e.symm)]
  exact hbk
 have HF:Hid (Far w b (w2.setCell ⟨b,1,none⟩ v')):=LH ⟨by have:=hb1.size; have:=hgrow.size; simp [World.setCell]; omega,fun k o hk hT hc=>by
  have e1:=(HK.out k hk).trans hc
  have hlk:k<w1.heap.size:=(Array.getElem?_eq_some_iff.1 e1).1
  rw [Below.heap_setCell _ _ _ _ (fun e=>hk e),hgrow.block k hlk (fun e=>own_ne hown e1 hT e)]
  exact e1⟩
 have d0:w2.cell? ⟨b,0,none⟩=some (.pointer (some ⟨b,0,none⟩)):=by rw [Lib.cell_of_heap hb2]; rfl
 have d1:w2.cell? ⟨b,1,none⟩=some v:=by rw [Lib.cell_of_heap hb2]; rfl
 have f1:w2.frozen? ⟨b,1,none⟩=false:=Lib.frozen_of_heap hb2 1
 obtain ⟨ao,n',cap,rfl⟩:∃ ao n' cap,v'=.slice ao n' cap:=by
  rcases hown'.2 with ⟨hv,_⟩ | ⟨g,cap,cur,hv,_⟩
  ·exact ⟨_,_,_,hv⟩
  ·exact ⟨_,_,_,hv⟩
 go_wp2
 go_ret2
 refine ⟨rfl,?_,?_,HF.out⟩
 ·exact Lib.BuilderAt.put (T:=98) (e:=5) hB hb2 (bs':=bs++Lib.strCells s) (by simpa [Lib.strCells_length] using hown') (by decide)
 ·exact (hb1.grown hgrow (by have:=hb1.size; omega) (fun k hk=>(hown.lt k hk).1)).setCell (p:=⟨b,1,none⟩) hB _
theorem repeat_zero (n:Nat):(Lib.repeatL (⟨#[48]⟩:ByteArray).data.toList n)=zerosS n:=by
 show Lib.repeatL [48] n=List.replicate n 48
 induction n with
 | zero=>rfl
 | succ n ih=>rw [List.replicate_succ,← ih]; simp [Lib.repeatL]
theorem lib_Repeat0 (n:Nat) (hn:n≤1000) (w:World) :
  Calls Tryz.prog 218 #[.string ⟨#[48]⟩,.int .i64 n] w fun e w'=>e=.returned (.string ⟨(zerosS n).toArray⟩)∧Q w w':=by
 match n with
 | 0 =>
  refine (Tryz.strings_Repeat_zero ⟨#[48]⟩ w).mono ?_
  rintro e w' ⟨rfl,rfl⟩
  exact ⟨rfl,Below.refl _ _⟩
 | 1 =>
  refine (Tryz.strings_Repeat_one ⟨#[48]⟩ w).mono ?_
  rintro e w' ⟨rfl,rfl⟩
  exact ⟨rfl,Below.refl _ _⟩
 | n+2 =>
  refine (Tryz.strings_Repeat_main ⟨#[48]⟩ (n+2) w (by omega) (by omega) (by show 1*(n+2)≤_; omega) (by decide)).mono ?_
  rintro e w' ⟨rfl,h⟩
  exact ⟨by rw [repeat_zero],h⟩
end Go.Proofs.YtohlpeicpoaanaaGreatDoor
