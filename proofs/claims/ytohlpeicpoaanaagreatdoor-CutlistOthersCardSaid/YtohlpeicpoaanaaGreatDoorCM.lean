/-
  Walks of package kingpostref42: Same at equal lists.; The example of chapter 42.
-/
import Derived.Test.YtohlpeicpoaanaaGreatDoorCE
import Derived.Test.YtohlpeicpoaanaaGreatDoorCK
import Derived.Deep.WholeRow
namespace Go.Proofs.YtohlpeicpoaanaaGreatDoor
section
open Go.RowKit Kp Go.Sort
set_option maxRecDepth 100000 in
set_option maxHeartbeats 4000000 in
theorem ref_Same (l:List Ct) (hn:l.length≤1000000) (hm:∀ x∈l,x.ms.length≤1000000) (v1 v2:Value) (w:World) (h1:CtSl w v1 l) (h2:CtSl w v2 l) :
  Calls Tryz.prog 13 #[v1,v2] w fun e w'=>e=.returned (.bool true)∧Q w w':=by
 obtain ⟨a,cap,rfl,hc⟩:=h1
 obtain ⟨a',cap',rfl,hc'⟩:=h2
 have HC:=LH hc
 have HD:=LH hc'
 have HM:=LH hm
 clear hc hc' hm
 have hln:(l.length:Int)≤1000000:=by omega
 go_enter Tryz.func13,Tryz.ntmps13
 go_wp2
 go_loopw [5] (fun i wr=>∃ k:Nat,k≤l.length∧i=.int .i64 k∧Q w wr) (fun i _=>l.length - (intOf i).toNat)
 case atStart=>exact ⟨0,by omega,rfl,Q.refl _⟩
 case round =>
  obtain ⟨k,hk,rfl,hQ⟩:=hrel
  by_cases hlt:k<l.length
  ·obtain ⟨b,o,u,rfl,hb,hnum,hcell⟩:=HC.out k hlt
   obtain ⟨b',o',u',rfl,hb',hnum',hcell'⟩:=HD.out k hlt
   have HN0:Hid (∀ W,Q w W→NumSl W u (ctAt l k).ms):=LH (fun W hq=>hnum.keep hq)
   have HN1:Hid (∀ W,Q w W→NumSl W u' (ctAt l k).ms):=LH (fun W hq=>hnum'.keep hq)
   have hml:=HM.out _ (show ctAt l k∈l by rw [ctAt_get hlt]; exact List.getElem_mem hlt)
   generalize hx:ctAt l k=x at *
   obtain ⟨a2,c2,rfl,-⟩:=id hnum
   obtain ⟨a3,c3,rfl,-⟩:=id hnum'
   have e0:=qcell hQ (hcell 0 _ rfl)
   have e1:=qcell hQ (hcell 1 _ rfl)
   have e2:=qcell hQ (hcell 2 _ rfl)
   have e3:=qcell hQ (hcell 3 _ rfl)
   have f0:=qcell hQ (hcell' 0 _ rfl)
   have f1:=qcell hQ (hcell' 1 _ rfl)
   have f2:=qcell hQ (hcell' 2 _ rfl)
   have f3:=qcell hQ (hcell' 3 _ rfl)
   simp only [Nat.add_zero] at e0 f0
   obtain ⟨xw,xd,xn,xm⟩:=x
   simp only at HN0 HN1 hml e0 e1 e2 e3 f0 f1 f2 f3
   have hkz:(k:Int)<l.length:=by omega
   have hk0:(0:Int)≤k:=by omega
   have hxm:(xm.length:Int)≤1000000:=by omega
   clear hcell hcell' hnum hnum' hx HM
   go_wp2_with fail
   refine wp_steadily 52 rfl (by kernel_rfl) rfl ?_
   refine svp 0 ?_
   refine svp 1 ?_
   refine svp 2 ?_
   refine svp 3 ?_
   refine svq 4 rfl (by intro w' hq; have hc0:=qcell hq e0; go_simp; try with_reducible rfl) ?_
   refine svp 5 ?_
   refine svp 6 ?_
   refine svp 7 ?_
   refine svp 8 ?_
   refine svq 9 rfl (by intro w' hq; have hc0:=qcell hq f0; go_simp; try with_reducible rfl) ?_
   refine svp 10 ?_
   refine svp 11 ?_
   refine svp 12 ?_
   refine svp 13 ?_
   refine svp 14 ?_
   refine svp 15 ?_
   refine svq 16 rfl (by intro w' hq; have hc0:=qcell hq e1; go_simp; try with_reducible rfl) ?_
   refine svp 17 ?_
   refine svp 18 ?_
   refine svp 19 ?_
   refine svp 20 ?_
   refine svq 21 rfl (by intro w' hq; have hc0:=qcell hq f1; go_simp; try with_reducible rfl) ?_
   refine svp 22 ?_
   refine svp 23 ?_
   refine svp 24 ?_
   refine svp 25 ?_
   refine svp 26 ?_
   refine svp 27 ?_
   refine svp 28 ?_
   refine svq 29 rfl (by intro w' hq; have hc0:=qcell hq e2; go_simp; try with_reducible rfl) ?_
   refine svp 30 ?_
   refine svp 31 ?_
   refine svp 32 ?_
   refine svp 33 ?_
   refine svq 34 rfl (by intro w' hq; have hc0:=qcell hq f2; go_simp; try with_reducible rfl) ?_
   refine svp 35 ?_
   refine svp 36 ?_
   refine svp 37 ?_
   refine svp 38 ?_
   refine svp 39 ?_
   refine svp 40 ?_
   refine svp 41 ?_
   refine svq 42 rfl (by intro w' hq; have hc0:=qcell hq e3; go_simp; try with_reducible rfl) ?_
   refine svp 43 ?_
   refine svp 44 ?_
   refine svp 45 ?_
   refine svp 46 ?_
   refine svp 47 ?_
   refine svq 48 rfl (by intro w' hq; have hc0:=qcell hq f3; go_simp; try with_reducible rfl) ?_
   refine svp 49 ?_
   refine svp 50 ?_
   refine svp 51 ?_
   refine steadily_done (by kernel_rfl) (fun w3 hq3=>?_)
   have hq13:Q wr w3:=Below.trans (Below.drew (Q.refl _)) hq3
   have hQ3:=Q.trans hQ hq13
   replace e3:=qcell hq13 e3
   replace f3:=qcell hq13 f3
   clear e0 e1 e2 f0 f1 f2 hq3 hq13
   simp only [List.drop_succ_cons,List.drop_zero]
   go_wp2
   go_loopw [6] (fun i wl=>∃ m:Nat,m≤xm.length∧i=.int .i64 m∧Q w3 wl) (fun i _=>xm.length - (intOf i).toNat)
   case atStart=>exact ⟨0,by omega,rfl,Q.refl _⟩
   case round =>
    obtain ⟨m,hm,rfl,hQn⟩:=hrel
    have hQw:=Q.trans hQ3 hQn
    replace e3:=qcell hQn e3
    replace f3:=qcell hQn f3
    by_cases hlm:m<xm.length
    ·obtain ⟨b2,o2,he2,hb2,c0⟩:=(NumSl.cell (HN0.out _ hQw)).2 m hlm
     obtain ⟨b3,o3,he3,hb3,d0⟩:=(NumSl.cell (HN1.out _ hQw)).2 m hlm
     subst he2 he3
     generalize atI xm m=x at *
     have hmz:(m:Int)<xm.length:=by omega
     have hm0:(0:Int)≤m:=by omega
     go_wp2_with fail
     refine wp_steadily 17 rfl (by kernel_rfl) rfl ?_
     refine svp 0 ?_
     refine svp 1 ?_
     refine svp 2 ?_
     refine svp 3 ?_
     refine svq 4 rfl (by intro w' hq; have hc0:=qcell hq e3; go_simp; try with_reducible rfl) ?_
     refine svp 5 ?_
     refine svp 6 ?_
     refine svq 7 rfl (by intro w' hq; have hc0:=qcell hq c0; go_simp; try with_reducible rfl) ?_
     refine svp 8 ?_
     refine svp 9 ?_
     refine svp 10 ?_
     refine svp 11 ?_
     refine svq 12 rfl (by intro w' hq; have hc0:=qcell hq f3; go_simp; try with_reducible rfl) ?_
     refine svp 13 ?_
     refine svp 14 ?_
     refine svq 15 rfl (by intro w' hq; have hc0:=qcell hq d0; go_simp; try with_reducible rfl) ?_
     refine svp 16 ?_
     refine steadily_done (by kernel_rfl) (fun w4 hq4=>?_)
     simp only [List.drop_succ_cons,List.drop_zero]
     have hQ4:=Q.trans hQn (Below.trans (Below.drew (Q.refl _)) hq4)
     clear e3 f3 c0 d0 hq4
     go_wp2
     go_roundw
     case rel=>exact ⟨m+1,by omega,by go_num,hQ4⟩
     case measure=>simp [intOf]; omega
    ·obtain rfl:m=xm.length:=by omega
     go_wp2
     go_roundw
     case rel=>exact ⟨k+1,by omega,by go_num,hQw⟩
     case measure=>simp [intOf]; omega
  ·obtain rfl:k=l.length:=by omega
   clear HC HD HM
   go_wp2
   go_ret
   exact ⟨rfl,hQ⟩
end
section
open Go.RowKit Kp Go.Sort
theorem law_member (X Y:ByteArray) (w:World):Calls Tryz.prog 29 #[.string X,.string Y] w fun e w'=>e=.returned (.agg #[.int .i64 1,.int .i64 0,.int .i64 (-1),.string ⟨#[48]⟩,.string ⟨#[48]⟩,.string ⟨#[48]⟩,.string X,.string Y,.string ⟨#[48]⟩,.int .i64 60,.int .i64 180])∧Q w w':=by
 have BX:=Blk.new w [.int .i64 1,.int .i64 0,.int .i64 (-1),.string ⟨#[48]⟩,.string ⟨#[48]⟩,.string ⟨#[48]⟩,.string X,.string Y,.string ⟨#[48]⟩,.int .i64 60,.int .i64 180] 59
 go_enter Tryz.func29,Tryz.ntmps29
 go_wp2
 refine bodyPost_ret (v:=.agg #[.int .i64 1,.int .i64 0,.int .i64 (-1),.string ⟨#[48]⟩,.string ⟨#[48]⟩,.string ⟨#[48]⟩,.string X,.string Y,.string ⟨#[48]⟩,.int .i64 60,.int .i64 180]) (results_cell_row (fn:=Tryz.f29) (p:=4) (ty:=59) rfl _ _ w.heap.size _ _ (0,0) _ rfl BX Tryz.underlying59 rfl (by kernel_rfl)) rfl ⟨rfl,bt⟩
theorem NumSl.of_blk {w:World} {b:Nat} {l:List Int} {t:TypeId} (h:Blk w b (numC l) t) (cap:Nat):NumSl w (.slice (some ⟨b,0,none⟩) l.length cap) l:=by
 refine ⟨_,cap,rfl,fun i hi=>⟨b,0,rfl,h.lt,fun j u hj=>?_⟩⟩
 have hj0:j=0:=by have:=(List.getElem?_eq_some_iff.1 hj).1; simpa using this
 subst hj0
 rw [Nat.zero_add,Nat.mul_one,Nat.add_zero,h.cell]
 unfold numC
 rw [List.getElem?_map,List.getElem?_eq_getElem hi]
 exact hj
theorem RowSl.of_blk {α:Type} {k:Nat} {enc:α→List Value} (hk:∀ x,(enc x).length=k) {w:World} {b:Nat} {l:List α} {t:TypeId} (h:Blk w b (rowOf enc l) t) (cap:Nat):RowSl k enc w (.slice (some ⟨b,0,none⟩) l.length cap) l:=by
 refine ⟨_,cap,rfl,fun i hi=>⟨b,0,rfl,h.lt,fun j u hj=>?_⟩⟩
 have hjk:j<k:=by rw [← hk l[i]]; exact (List.getElem?_eq_some_iff.1 hj).1
 rw [Nat.zero_add,h.cell,rowOf_get hk l i hi j hjk]
 exact hj
set_option maxRecDepth 100000 in
set_option maxHeartbeats 4000000 in
theorem awake42 (w:World) (hE:Env w):Calls Tryz.prog 8 #[] w fun e w'=>e=.returned (.bool true)∧Q w w':=by
 have HMm:=LH (fun X Y w=>law_member X Y w)
 have HO:=LH (fun B w hw h=>of_ex B w hw h)
 have HS:=LH (fun v1 v2 w h1 h2=>ref_Same [⟨60,180,15,[0,1]⟩,⟨60,180,12,[2]⟩] (by decide) (by intro x hx; simp at hx; rcases hx with rfl | rfl <;> decide) v1 v2 w h1 h2)
 go_enter Tryz.func8,Tryz.ntmps8
 go_wp2_with fail
 refine (HMm.out _ _ _).mono ?_
 rintro e w1 ⟨rfl,hq1⟩
 go_wp2_with fail
 refine (HMm.out _ _ _).mono ?_
 rintro e w2 ⟨rfl,hq2⟩
 have hQ2:=Q.trans hq1 hq2
 go_wp2_with fail
 refine (HMm.out _ _ _).mono ?_
 rintro e w3 ⟨rfl,hq3⟩
 have hQ3:=Q.trans hQ2 hq3
 clear hq1 hq2 hQ2 hq3 HMm
 go_wp2_with fail
 have hqa:Q w3 (w3.alloc (.cells (exC 51 52++exC 53 48++exC 49 49).toArray 59)):=(Q.refl _).alloc (Nat.le_refl _) _
 have hQa:=Q.trans hQ3 hqa
 refine (HO.out w3.heap.size (w3.alloc (.cells (exC 51 52++exC 53 48++exC 49 49).toArray 59)) (hE.ofQ hQa) (ExAt.of (Blk.new w3 _ _))).mono ?_
 rintro e w4 ⟨v,rfl,hq4,hct⟩
 have hQ4:=Q.trans hQa hq4
 clear hQa hqa hq4 hQ3 HO
 go_wp2_with fail
 have B1:=((Blk.new w4 (numC [0,1]) 3).alloc (.cells (numC [2]).toArray 3)).alloc (.cells (rowOf cvC [((⟨60,180,15,[0,1]⟩:Ct),Value.slice (some ⟨w4.heap.size,0,none⟩) 2 2),(⟨60,180,12,[2]⟩,.slice (some ⟨w4.heap.size+1,0,none⟩) 1 1)]).toArray 42)
 have B2:=(Blk.new1 w4 (.cells (numC [0,1]).toArray 3) (numC [2]) 3).alloc (.cells (rowOf cvC [((⟨60,180,15,[0,1]⟩:Ct),Value.slice (some ⟨w4.heap.size,0,none⟩) 2 2),(⟨60,180,12,[2]⟩,.slice (some ⟨w4.heap.size+1,0,none⟩) 1 1)]).toArray 42)
 have B3:=Blk.new2 w4 (.cells (numC [0,1]).toArray 3) (.cells (numC [2]).toArray 3) (rowOf cvC [((⟨60,180,15,[0,1]⟩:Ct),Value.slice (some ⟨w4.heap.size,0,none⟩) 2 2),(⟨60,180,12,[2]⟩,.slice (some ⟨w4.heap.size+1,0,none⟩) 1 1)]) 42
 have hc2:=CtSl.of (RowSl.of_blk cvC_len B3 2) (fun p hp=>by
  simp only [List.mem_cons,List.not_mem_nil,or_false] at hp
  rcases hp with rfl | rfl
  ·exact NumSl.of_blk B1 2
  ·exact NumSl.of_blk B2 1)
 have hq5:Q w4 (((w4.alloc (.cells (numC [0,1]).toArray 3)).alloc (.cells (numC [2]).toArray 3)).alloc (.cells (rowOf cvC [((⟨60,180,15,[0,1]⟩:Ct),Value.slice (some ⟨w4.heap.size,0,none⟩) 2 2),(⟨60,180,12,[2]⟩,.slice (some ⟨w4.heap.size+1,0,none⟩) 1 1)]).toArray 42)):=bt
 have hQ5:=Q.trans hQ4 hq5
 refine (HS.out _ _ (((w4.alloc (.cells (numC [0,1]).toArray 3)).alloc (.cells (numC [2]).toArray 3)).alloc (.cells (rowOf cvC [((⟨60,180,15,[0,1]⟩:Ct),Value.slice (some ⟨w4.heap.size,0,none⟩) 2 2),(⟨60,180,12,[2]⟩,.slice (some ⟨w4.heap.size+1,0,none⟩) 1 1)]).toArray 42)) (hct.keep hq5) hc2).mono ?_
 rintro e w6 ⟨rfl,hq6⟩
 have hQ6:=Q.trans hQ5 hq6
 clear B1 B2 B3 hc2 hq5 hQ5 hct HS hQ4 hq6
 go_wp2
 go_ret
 exact ⟨rfl,hQ6⟩
end
end Go.Proofs.YtohlpeicpoaanaaGreatDoor
