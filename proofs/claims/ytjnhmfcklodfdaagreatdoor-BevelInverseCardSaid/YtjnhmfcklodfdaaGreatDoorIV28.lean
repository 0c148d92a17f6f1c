/-
  The chapter's awake.; slices.Equal at surds with the same classes, at most one.
-/
import Derived.Test.YtjnhmfcklodfdaaGreatDoorIV27
set_option maxRecDepth 100000
set_option maxHeartbeats 8000000
namespace Go.Proofs.YtjnhmfcklodfdaaGreatDoor
section
open Go.RowKit Go.Shelf Kp
attribute [local go_sem] Oper.semAt_some
theorem zmA{P:Program}{R:Exit→Act→World→Prop}{op:Oper}{a:Act}{w:World}{K:Act→World→Prop}{g:FuncId}{args:Array Value}(hx:(execOp a.eval op).run P w=.ok (.enter g args) w)(h:Calls P g args w fun e w''=>∃ v,e=.returned v∧K (a.put op.dst v) w''):Oper.wp P op a w K R:=by
 unfold Oper.wp
 rw[hx]
 refine h.mono fun e w'' he=>?_
 obtain⟨v,rfl,h2⟩:=he
 exact h2
theorem zK.str{w:World}{B:Nat}{v:Value}{c:Rat × Nat}{s1 s2:Str}(h:zK w B v [c])(e:ofC c=(s1,s2)):TSl w w.heap.size v [(s1,s2)]:=by
 have:=h.tsl
 rw[List.map_cons,List.map_nil,e]at this
 exact this
theorem zK.setB{w:World}{p B i:Nat}{cs:List Value}{v x:Value}{L:List (Rat × Nat)}(h:zK w B v L)(hb:Blk w p cs 52):zK (w.setCell ⟨p,i,none⟩ x) B v L:=by
 refine⟨h.1,h.2.elim .inl ?_⟩
 rintro⟨g,cap,cur,hv,hg,hc,r⟩
 refine .inr ⟨g,cap,cur,hv,hg,?_,r⟩
 have hne:g≠p:=by
  rintro rfl
  unfold Blk at hb
  rw[hb]at hc
  simp at hc
 rw[zjT hne]
 exact hc
theorem zK.setB5{w:World}{p B:Nat}{cs:List Value}{v:Value}{L:List (Rat × Nat)}(x y z u t:Value)(h:zK w B v L)(hb:Blk w p cs 52):zK (((((w.setCell ⟨p,0,none⟩ x).setCell ⟨p,1,none⟩ y).setCell ⟨p,2,none⟩ z).setCell ⟨p,3,none⟩ u).setCell ⟨p,4,none⟩ t) B v L :=
 ((((h.setB hb).setB (hb.set 0 x)).setB ((hb.set 0 x).set 1 y)).setB (((hb.set 0 x).set 1 y).set 2 z)).setB ((((hb.set 0 x).set 1 y).set 2 z).set 3 u)
theorem zsc{b g:Nat}{x y z u v:Value}(hg:b≤g)(w:World):(zp7 b).r w (((((w.setCell ⟨g,0,none⟩ x).setCell ⟨g,1,none⟩ y).setCell ⟨g,2,none⟩ z).setCell ⟨g,3,none⟩ u).setCell ⟨g,4,none⟩ v):=fun _ =>
 (((((Below.refl _ _).setCell (p:=⟨g,0,none⟩) hg _).setCell (p:=⟨g,1,none⟩) hg _).setCell (p:=⟨g,2,none⟩) hg _).setCell (p:=⟨g,3,none⟩) hg _).setCell (p:=⟨g,4,none⟩) hg _
theorem zt7(w:World)(hE:Env w)(hA:zj3 w):CR 5 #[] w (.bool true):=by
 have H1:=LH (fun w=>zh0 2 1 (-1) [49,48] [53] [48] [54] [53] [51] w)
 have H2:=LH (fun w=>zh0 6 3 0 [48] [48] [48] [52] [52] [52] w)
 have hs:=ztP
 have hp:=zsx
 have hc:=zsy
 have ho:=zu3
 rw[zu1]at hs hp hc
 rw[zuH]at hc ho
 have HS:=LH hs
 have HP:=LH hp
 have HC:=LH hc
 have HO:=LH ho
 have HQ:=LH zmR
 clear hs hp hc ho
 go_enter Tryz.func5,Tryz.ntmps5
 go_wp2_with fail
 refine cx (H1.out _) fun w1 hq1=>?_
 go_wp2_with fail
 refine cx (H2.out _) fun w2 hq2=>?_
 clear H1 H2
 have BM0:=(Blk.new w1 [.int .i64 2,.int .i64 1,.int .i64 (-1),.string ⟨#[49,48]⟩,.string ⟨#[53]⟩,.string ⟨#[48]⟩,.string ⟨#[54]⟩,.string ⟨#[53]⟩,.string ⟨#[51]⟩,.int .i64 50,.int .i64 100] 26).keep hq2 (by simp)
 obtain⟨W3,hW3⟩:∃ W3,w2.alloc (.cells #[.int .i64 6,.int .i64 3,.int .i64 0,.string ⟨#[48]⟩,.string ⟨#[48]⟩,.string ⟨#[48]⟩,.string ⟨#[52]⟩,.string ⟨#[52]⟩,.string ⟨#[52]⟩,.int .i64 50,.int .i64 100] 26)=W3:=⟨_,rfl⟩
 have BM:Blk W3 w1.heap.size [.int .i64 2,.int .i64 1,.int .i64 (-1),.string ⟨#[49,48]⟩,.string ⟨#[53]⟩,.string ⟨#[48]⟩,.string ⟨#[54]⟩,.string ⟨#[53]⟩,.string ⟨#[51]⟩,.int .i64 50,.int .i64 100] 26:=by rw[← hW3];exact BM0.alloc _
 have BH:Blk W3 w2.heap.size [.int .i64 6,.int .i64 3,.int .i64 0,.string ⟨#[48]⟩,.string ⟨#[48]⟩,.string ⟨#[48]⟩,.string ⟨#[52]⟩,.string ⟨#[52]⟩,.string ⟨#[52]⟩,.int .i64 50,.int .i64 100] 26:=by rw[← hW3];exact Blk.new w2 _ _
 have hq3:Q w W3:=Q.trans hq1 (Q.trans bt (Q.trans hq2 (by rw[← hW3];exact bt)))
 clear BM0 hq1 hq2
 have hQ0:=Q.refl W3
 replace m0:=BM.cell 0
 replace m1:=BM.cell 1
 replace m2:=BM.cell 2
 replace m3:=BM.cell 3
 replace m4:=BM.cell 4
 replace m5:=BM.cell 5
 replace m6:=BM.cell 6
 replace m7:=BM.cell 7
 replace m8:=BM.cell 8
 replace m9:=BM.cell 9
 replace m10:=BM.cell 10
 simp only[zs4,zs5]at m0 m1 m2 m3 m4 m5 m6 m7 m8 m9 m10
 replace lBM:=BM.lt
 replace h0:=BH.cell 0
 replace h1:=BH.cell 1
 replace h2:=BH.cell 2
 replace h3:=BH.cell 3
 replace h4:=BH.cell 4
 replace h5:=BH.cell 5
 replace h6:=BH.cell 6
 replace h7:=BH.cell 7
 replace h8:=BH.cell 8
 replace h9:=BH.cell 9
 replace h10:=BH.cell 10
 simp only[zs4,zs5]at h0 h1 h2 h3 h4 h5 h6 h7 h8 h9 h10
 replace lBH:=BH.lt
 go_wp2_with fail
 clear hW3
 refine(HS.out _ (hE.ofQ hq3)).mono ?_
 rintro e G1⟨v1,rfl,hg1,hs1⟩
 replace BM:=BM.keep hg1 BM.lt
 replace BH:=BH.keep hg1 BH.lt
 have hQ1:=Q.trans hq3 hg1
 clear HS hq3 hg1 hQ0 m0 m1 m2 m3 m4 m5 m6 m7 m8 m9 m10 lBM h0 h1 h2 h3 h4 h5 h6 h7 h8 h9 h10 lBH
 have hQ0:=Q.refl G1
 replace m0:=BM.cell 0
 replace m1:=BM.cell 1
 replace m2:=BM.cell 2
 replace m3:=BM.cell 3
 replace m4:=BM.cell 4
 replace m5:=BM.cell 5
 replace m6:=BM.cell 6
 replace m7:=BM.cell 7
 replace m8:=BM.cell 8
 replace m9:=BM.cell 9
 replace m10:=BM.cell 10
 simp only[zs4,zs5]at m0 m1 m2 m3 m4 m5 m6 m7 m8 m9 m10
 replace lBM:=BM.lt
 replace h0:=BH.cell 0
 replace h1:=BH.cell 1
 replace h2:=BH.cell 2
 replace h3:=BH.cell 3
 replace h4:=BH.cell 4
 replace h5:=BH.cell 5
 replace h6:=BH.cell 6
 replace h7:=BH.cell 7
 replace h8:=BH.cell 8
 replace h9:=BH.cell 9
 replace h10:=BH.cell 10
 simp only[zs4,zs5]at h0 h1 h2 h3 h4 h5 h6 h7 h8 h9 h10
 replace lBH:=BH.lt
 go_wp2_with fail
 refine(HP.out _ (hE.ofQ hQ1)).mono ?_
 rintro e G2⟨v2,rfl,hg2,hs2⟩
 replace BM:=BM.keep hg2 BM.lt
 replace BH:=BH.keep hg2 BH.lt
 replace hs1:=zK.keep hs1 hg2
 have hQ2:=Q.trans hQ1 hg2
 clear HP hQ1 hg2 hQ0 m0 m1 m2 m3 m4 m5 m6 m7 m8 m9 m10 lBM h0 h1 h2 h3 h4 h5 h6 h7 h8 h9 h10 lBH
 have hQ0:=Q.refl G2
 replace m0:=BM.cell 0
 replace m1:=BM.cell 1
 replace m2:=BM.cell 2
 replace m3:=BM.cell 3
 replace m4:=BM.cell 4
 replace m5:=BM.cell 5
 replace m6:=BM.cell 6
 replace m7:=BM.cell 7
 replace m8:=BM.cell 8
 replace m9:=BM.cell 9
 replace m10:=BM.cell 10
 simp only[zs4,zs5]at m0 m1 m2 m3 m4 m5 m6 m7 m8 m9 m10
 replace lBM:=BM.lt
 replace h0:=BH.cell 0
 replace h1:=BH.cell 1
 replace h2:=BH.cell 2
 replace h3:=BH.cell 3
 replace h4:=BH.cell 4
 replace h5:=BH.cell 5
 replace h6:=BH.cell 6
 replace h7:=BH.cell 7
 replace h8:=BH.cell 8
 replace h9:=BH.cell 9
 replace h10:=BH.cell 10
 simp only[zs4,zs5]at h0 h1 h2 h3 h4 h5 h6 h7 h8 h9 h10
 replace lBH:=BH.lt
 go_wp2_with fail
 have hQd:Q w G2.drew:=Q.trans hQ2 (Below.drew (Q.refl G2))
 refine zm 9 rfl (by kernel_rfl) rfl ?_
 refine svq 1 rfl (by intro w' hq;have hc0:=za hq m0;have hc1:=za hq m1;have hc2:=za hq m2;have hc3:=za hq m3;have hc4:=za hq m4;have hc5:=za hq m5;have hc6:=za hq m6;have hc7:=za hq m7;have hc8:=za hq m8;have hc9:=za hq m9;have hc10:=za hq m10;go_simp;try with_reducible rfl) ?_
 refine svq 2 rfl (by intro w' hq;have hc0:=za hq h0;have hc1:=za hq h1;have hc2:=za hq h2;have hc3:=za hq h3;have hc4:=za hq h4;have hc5:=za hq h5;have hc6:=za hq h6;have hc7:=za hq h7;have hc8:=za hq h8;have hc9:=za hq h9;have hc10:=za hq h10;go_simp;try with_reducible rfl) ?_
 refine zY (i:=0) rfl rfl (by kernel_rfl) (by rfl) (fun w' hq=>by go_simp;try with_reducible rfl) (fun w6 hq6=>(HQ.out w6).mono ?_)
 rintro e w7⟨a1,n1,c1,rfl,hq7,hv1⟩
 refine⟨_,rfl,hq7,?_⟩
 simp only[Act.put,zs1,zs2,zs3]
 have hQ7:Q w w7:=Q.trans hQd (Q.trans hq6 hq7)
 refine zY (i:=3) rfl rfl (by kernel_rfl) (by rfl) (fun w' hq=>by go_simp;try with_reducible rfl) (fun w8 hq8=>(HC.out a1 n1 c1 w8 (hE.ofQ (Q.trans hQ7 hq8)) (hv1.keep hq8)).mono ?_)
 rintro e w9⟨v3,rfl,hq9,hs3⟩
 refine⟨_,rfl,hq9,?_⟩
 simp only[Act.put,zs1,zs2,zs3]
 refine svp 4 ?_
 refine svp 5 ?_
 refine svp 6 ?_
 refine svp 7 ?_
 refine svp 8 ?_
 refine zi (by kernel_rfl) (fun w10 hq10=>?_)
 simp only[List.drop_succ_cons,List.drop_nil]
 have hgq:Q G2 w10:=Q.trans (Below.drew (Q.refl G2)) (Q.trans hq6 (Q.trans hq7 (Q.trans hq8 (Q.trans hq9 hq10))))
 have hQ:Q w w10:=Q.trans hQ2 hgq
 replace BH:=BH.keep hgq BH.lt
 replace hs1:=zK.keep hs1 hgq
 replace hs2:=zK.keep hs2 hgq
 replace hs3:=zK.keep hs3 hq10
 clear HC hgq hq10 hq9 hq8 hQ7 hv1 hq7 hq6 hQd hQ2 hQ0 m0 m1 m2 m3 m4 m5 m6 m7 m8 m9 m10 lBM h0 h1 h2 h3 h4 h5 h6 h7 h8 h9 h10 lBH BM
 have hQ0:=Q.refl w10
 replace h0:=BH.cell 0
 replace h1:=BH.cell 1
 replace h2:=BH.cell 2
 replace h3:=BH.cell 3
 replace h4:=BH.cell 4
 replace h5:=BH.cell 5
 replace h6:=BH.cell 6
 replace h7:=BH.cell 7
 replace h8:=BH.cell 8
 replace h9:=BH.cell 9
 replace h10:=BH.cell 10
 simp only[zs4,zs5]at h0 h1 h2 h3 h4 h5 h6 h7 h8 h9 h10
 replace lBH:=BH.lt
 have hQd:Q w w10.drew:=Q.trans hQ (Below.drew (Q.refl w10))
 go_wp2_with fail
 refine RF.zm (ρ:=zp7 w10.drew.heap.size) 10 (by kernel_rfl) (by kernel_rfl) rfl ?_
 refine RF.svq 2 rfl (by intro w' hq;have hc0:=za (hq (Nat.le_refl _)) h0;have hc1:=za (hq (Nat.le_refl _)) h1;have hc2:=za (hq (Nat.le_refl _)) h2;have hc3:=za (hq (Nat.le_refl _)) h3;have hc4:=za (hq (Nat.le_refl _)) h4;have hc5:=za (hq (Nat.le_refl _)) h5;have hc6:=za (hq (Nat.le_refl _)) h6;have hc7:=za (hq (Nat.le_refl _)) h7;have hc8:=za (hq (Nat.le_refl _)) h8;have hc9:=za (hq (Nat.le_refl _)) h9;have hc10:=za (hq (Nat.le_refl _)) h10;go_simp;try with_reducible rfl) ?_
 clear h0 h1 h2 h3 h4 h5 h6 h7 h8 h9 h10 lBH BH
 replace hs1:zK w10.drew _ _ _:=hs1
 replace hs2:zK w10.drew _ _ _:=hs2
 replace hs3:zK w10.drew _ _ _:=hs3
 have hD:Q w10.drew w10.drew:=Q.refl _
 refine RF.steadily_both (i:=0) (j:=7) rfl rfl rfl rfl (by kernel_rfl) (by rfl) (by rfl) (fun y1 hy1 K hK=>?ma) (fun y1 hy1 K hK=>?mb)
 case' ma =>
  refine zmA (by go_simp;try with_reducible rfl) ((HQ.out y1).mono ?_)
  rintro e y2⟨a,n,c,rfl,hy2,hv⟩
  refine⟨_,rfl,hK _ _ ((zp7 _).q hy2) ?_⟩
  simp only[Act.put,zs1,zs2,zs3]
  replace hD:=Q.trans hD (Q.trans hy1 hy2)
  clear hK hy1 hy2
  refine RF.svp 1 ?_
  refine RF.steadily_both (i:=3) (j:=7) rfl rfl rfl rfl (by kernel_rfl) (by rfl) (by rfl) (fun y3 hy3 K hK=>?mc) (fun y3 hy3 K hK=>?md)
 case' mc =>
  have hwy:=Q.trans hQd (Q.trans hD hy3)
  refine zmA (by go_simp;try with_reducible rfl) ((HO.out a n c y3 (hE.ofQ hwy) (hA.q hwy) (hv.keep hy3)).mono ?_)
  rintro e y4⟨v5,v6,v7,rfl,hy4,k5,k6,k7⟩
  refine⟨_,rfl,hK _ _ ((zp7 _).q hy4) ?_⟩
  simp only[Act.put,zs1,zs2,zs3]
  replace hD:=Q.trans hD (Q.trans hy3 hy4)
  clear hK hy3 hwy hv
  refine RF.svp 4 ?_
  refine RF.svp 5 ?_
  refine RF.svp 6 ?_
  refine RF.zaA (i:=7) (.cells #[.slice none 0 0,.slice none 0 0,.slice none 0 0,.slice none 0 0,.slice none 0 0] 52) rfl rfl (by kernel_rfl) (by rfl) (fun w' hq=>by go_simp;try with_reducible rfl) (fun y5 hy5=>?_)
  simp only[Act.put,zs1,zs2,zs3]
  have BP:=Blk.new y5 [.slice none 0 0,.slice none 0 0,.slice none 0 0,.slice none 0 0,.slice none 0 0] 52
  have hqa:Q y4 (y5.alloc (.cells ([.slice none 0 0,.slice none 0 0,.slice none 0 0,.slice none 0 0,.slice none 0 0]:List Value).toArray 52)):=Q.trans hy5 ((Below.refl _ y5).alloc (Nat.le_refl _) _)
  have hpB:w10.drew.heap.size≤y5.heap.size:=(Q.trans hD hy5).size
  replace hD:=Q.trans hD hqa
  replace k5:=zK.keep k5 hqa
  replace k6:=zK.keep k6 hqa
  replace k7:=zK.keep k7 hqa
  clear hqa hy5 hy4
  generalize y5.alloc _=Y at *
  generalize y5.heap.size=p at *
  generalize y3.heap.size=B5 at *
  clear y5
 case' md =>
  have hqa:Q y3 (y3.alloc (.cells ([.slice none 0 0,.slice none 0 0,.slice none 0 0,.slice none 0 0,.slice none 0 0]:List Value).toArray 52)):=(Below.refl _ y3).alloc (Nat.le_refl _) _
  refine ze8 (.pointer (some ⟨y3.heap.size,0,none⟩)) (.cells #[.slice none 0 0,.slice none 0 0,.slice none 0 0,.slice none 0 0,.slice none 0 0] 52) (by go_simp;try with_reducible rfl) (hK _ _ ((zp7 _).q hqa) ?_)
  have BP0:=Blk.new y3 [.slice none 0 0,.slice none 0 0,.slice none 0 0,.slice none 0 0,.slice none 0 0] 52
  simp only[Act.put,zs1,zs2,zs3]
  have hpB:w10.drew.heap.size≤y3.heap.size:=(Q.trans hD hy3).size
  replace hD:=Q.trans hD (Q.trans hy3 hqa)
  replace hv:=hv.keep (Q.trans hy3 hqa)
  clear hK hy3 hqa
  generalize y3.alloc _=y4 at *
  generalize y3.heap.size=p at *
  have hwy:=Q.trans hQd hD
  refine RF.zY (i:=3) rfl rfl (by kernel_rfl) (by rfl) (fun w' hq=>by go_simp;try with_reducible rfl) (fun y5 hy5=>(HO.out a n c y5 (hE.ofQ (Q.trans hwy hy5)) (hA.q (Q.trans hwy hy5)) (hv.keep hy5)).mono ?_)
  rintro e Y⟨v5,v6,v7,rfl,hy6,k5,k6,k7⟩
  refine⟨_,rfl,hy6,?_⟩
  simp only[Act.put,zs1,zs2,zs3]
  have BP:=BP0.keep (Q.trans hy5 hy6) BP0.lt
  replace hD:=Q.trans hD (Q.trans hy5 hy6)
  clear BP0 hwy hy5 hy6 hv
  refine RF.svp 4 ?_
  refine RF.svp 5 ?_
  refine RF.svp 6 ?_
  generalize y5.heap.size=B5 at *
  clear y5 y4
 case' mb =>
  have hqa:Q y1 (y1.alloc (.cells ([.slice none 0 0,.slice none 0 0,.slice none 0 0,.slice none 0 0,.slice none 0 0]:List Value).toArray 52)):=(Below.refl _ y1).alloc (Nat.le_refl _) _
  refine ze8 (.pointer (some ⟨y1.heap.size,0,none⟩)) (.cells #[.slice none 0 0,.slice none 0 0,.slice none 0 0,.slice none 0 0,.slice none 0 0] 52) (by go_simp;try with_reducible rfl) (hK _ _ ((zp7 _).q hqa) ?_)
  have BP0:=Blk.new y1 [.slice none 0 0,.slice none 0 0,.slice none 0 0,.slice none 0 0,.slice none 0 0] 52
  simp only[Act.put,zs1,zs2,zs3]
  have hpB:w10.drew.heap.size≤y1.heap.size:=(Q.trans hD hy1).size
  replace hD:=Q.trans hD (Q.trans hy1 hqa)
  clear hK hy1 hqa
  generalize y1.alloc _=y2 at *
  generalize y1.heap.size=p at *
  refine RF.zY (i:=0) rfl rfl (by kernel_rfl) (by rfl) (fun w' hq=>by go_simp;try with_reducible rfl) (fun y3 hy3=>(HQ.out y3).mono ?_)
  rintro e y4⟨a,n,c,rfl,hy4,hv⟩
  refine⟨_,rfl,hy4,?_⟩
  simp only[Act.put,zs1,zs2,zs3]
  replace BP0:=BP0.keep (Q.trans hy3 hy4) BP0.lt
  replace hD:=Q.trans hD (Q.trans hy3 hy4)
  clear hy3 hy4 y3
  refine RF.svp 1 ?_
  have hwy:=Q.trans hQd hD
  refine RF.zY (i:=3) rfl rfl (by kernel_rfl) (by rfl) (fun w' hq=>by go_simp;try with_reducible rfl) (fun y5 hy5=>(HO.out a n c y5 (hE.ofQ (Q.trans hwy hy5)) (hA.q (Q.trans hwy hy5)) (hv.keep hy5)).mono ?_)
  rintro e Y⟨v5,v6,v7,rfl,hy6,k5,k6,k7⟩
  refine⟨_,rfl,hy6,?_⟩
  simp only[Act.put,zs1,zs2,zs3]
  have BP:=BP0.keep (Q.trans hy5 hy6) BP0.lt
  replace hD:=Q.trans hD (Q.trans hy5 hy6)
  clear BP0 hwy hy5 hy6 hv
  refine RF.svp 4 ?_
  refine RF.svp 5 ?_
  refine RF.svp 6 ?_
  generalize y5.heap.size=B5 at *
  clear y5 y4
 all_goals
  obtain⟨g5,c5,rfl,-⟩:=k5.form
  obtain⟨g6,c6,rfl,-⟩:=k6.form
  obtain⟨g7,c7,rfl,-⟩:=k7.form
  simp only[List.length_cons,List.length_nil]at k5 k6 k7 ⊢
  refine RF.zaP (i:=8) (fun w'=>((((w'.setCell ⟨p,0,none⟩ (.slice g5 1 c5)).setCell ⟨p,1,none⟩ (.slice none 0 0)).setCell ⟨p,2,none⟩ (.slice none 0 0)).setCell ⟨p,3,none⟩ (.slice g6 1 c6)).setCell ⟨p,4,none⟩ (.slice g7 1 c7)) rfl rfl (by kernel_rfl) (by rfl) (fun w' hq=>?_) (fun w'=>zsc hpB w') (fun y7 hy7=>?_)
  ·have hc:=BP.keep hq BP.lt
   have e0:=hc.cell
   have f0:=hc.frozen
   go_simp;try with_reducible rfl
  simp only[Act.put]
  have hpw:w10.drew.heap.size≤p:=hpB
  have hD7:Below w10.drew.heap.size w10.drew (((((y7.setCell ⟨p,0,none⟩ (.slice g5 1 c5)).setCell ⟨p,1,none⟩ (.slice none 0 0)).setCell ⟨p,2,none⟩ (.slice none 0 0)).setCell ⟨p,3,none⟩ (.slice g6 1 c6)).setCell ⟨p,4,none⟩ (.slice g7 1 c7)) :=
   (((((Q.trans hD hy7).setCell (p:=⟨p,0,none⟩) hpw _).setCell (p:=⟨p,1,none⟩) hpw _).setCell (p:=⟨p,2,none⟩) hpw _).setCell (p:=⟨p,3,none⟩) hpw _).setCell (p:=⟨p,4,none⟩) hpw _
  have B7:=BP.keep hy7 BP.lt
  have e5:=zK.setB5 (.slice g5 1 c5) (.slice none 0 0) (.slice none 0 0) (.slice g6 1 c6) (.slice g7 1 c7) (zK.keep k5 hy7) B7
  have e6:=zK.setB5 (.slice g5 1 c5) (.slice none 0 0) (.slice none 0 0) (.slice g6 1 c6) (.slice g7 1 c7) (zK.keep k6 hy7) B7
  have e7:=zK.setB5 (.slice g5 1 c5) (.slice none 0 0) (.slice none 0 0) (.slice g6 1 c6) (.slice g7 1 c7) (zK.keep k7 hy7) B7
  have BB:=((((B7.set 0 (.slice g5 1 c5)).set 1 (.slice none 0 0)).set 2 (.slice none 0 0)).set 3 (.slice g6 1 c6)).set 4 (.slice g7 1 c7)
  simp only[List.set_cons_zero,List.set_cons_succ]at BB
  clear k5 k6 k7 BP B7 hy7 hD hpB hpw
  generalize World.setCell _ _ _=Y8 at *
  refine RF.svp 9 ?_
  refine RF.zi (by kernel_rfl) (fun y9 hy9=>?_)
  simp only[List.drop_succ_cons,List.drop_nil]
  have hD9:=Q.trans hD7 hy9
  have hQ9:=Q.trans hQd hD9
  replace hs1:=zK.keep hs1 hD9
  replace hs2:=zK.keep hs2 hD9
  replace hs3:=zK.keep hs3 hD9
  replace e5:=zK.keep e5 hy9
  replace e6:=zK.keep e6 hy9
  replace e7:=zK.keep e7 hy9
  replace BB:=BB.keep hy9 BB.lt
  clear hD7 hD9 hy9 HO HQ hA hE hQd hQ
  have hmx:∀ w,(Builtin.max_ #[31,31,31,31] 31 #[.int .i64 0,.int .i64 0,.int .i64 0,.int .i64 0]).run Tryz.prog w=.ok (.int .i64 0) w:=fun w=>by kernel_rfl
  have HEQ:=LH zm4
  have BT:=Blk.new y9 [.string ⟨#[49,47,51]⟩,.string ⟨#[51]⟩] 37
  have hqt:Q y9 (y9.alloc (.cells ([.string ⟨#[49,47,51]⟩,.string ⟨#[51]⟩]:List Value).toArray 37)):=bt
  have hQ0:=Q.refl y9
  go_wp2_with fail
  have qa:Q y9 ((y9.alloc (.cells ([.string ⟨#[49,47,51]⟩,.string ⟨#[51]⟩]:List Value).toArray 37)).alloc (.cells ([.string ⟨#[51,47,52]⟩,.string ⟨#[49]⟩]:List Value).toArray 37)):=bt
  refine cx (HEQ.out [51,47,52] [49] _ _ v1 _ _ ((zK.keep hs1 qa).str (by kernel_rfl)) (TSl.one (Blk.new1 y9 _ _ _) 1)) fun z1 hz1=>?_
  have q1:=Q.trans qa hz1
  replace BT:=BT.keep (show Q (y9.alloc (.cells ([.string ⟨#[49,47,51]⟩,.string ⟨#[51]⟩]:List Value).toArray 37)) z1 from Q.trans bt hz1) BT.lt
  clear hs1 qa hz1
  go_wp2_with fail
  have qb:Q z1 (z1.alloc (.cells ([.string ⟨#[52,47,51]⟩,.string ⟨#[49]⟩]:List Value).toArray 37)):=bt
  refine cx (HEQ.out [52,47,51] [49] _ _ v2 _ _ ((zK.keep hs2 (Q.trans q1 qb)).str (by kernel_rfl)) (TSl.one (Blk.new z1 _ _) 1)) fun z2 hz2=>?_
  have q2:=Q.trans q1 (Q.trans qb hz2)
  replace BT:=BT.keep (Q.trans qb hz2) BT.lt
  clear hs2 qb hz2 q1
  go_wp2_with fail
  have qc:Q z2 (z2.alloc (.cells ([.string ⟨#[53,47,52]⟩,.string ⟨#[49]⟩]:List Value).toArray 37)):=bt
  refine cx (HEQ.out [53,47,52] [49] _ _ v3 _ _ ((zK.keep hs3 (Q.trans q2 qc)).str (by kernel_rfl)) (TSl.one (Blk.new z2 _ _) 1)) fun z3 hz3=>?_
  have q3:=Q.trans q2 (Q.trans qc hz3)
  replace BT:=BT.keep (Q.trans qc hz3) BT.lt
  replace BB:=BB.keep q3 BB.lt
  clear hs3 qc hz3 q2
  have b3:=BB.cell
  go_wp2_with fail
  refine cx (HEQ.out [49,47,51] [51] _ _ _ _ z3 ((zK.keep e6 q3).str (by kernel_rfl)) (TSl.one BT 1)) fun z4 hz4=>?_
  have q4:=Q.trans q3 hz4
  replace BT:=BT.keep hz4 BT.lt
  replace BB:=BB.keep hz4 BB.lt
  clear e6 hz4 q3 b3
  have b4:=BB.cell
  go_wp2_with fail
  refine cx (HEQ.out [49,47,51] [51] _ _ _ _ z4 ((zK.keep e7 q4).str (by kernel_rfl)) (TSl.one BT 1)) fun z5 hz5=>?_
  have q5:=Q.trans q4 hz5
  replace BB:=BB.keep hz5 BB.lt
  clear e7 hz5 q4 b4 BT
  have b0:=BB.cell
  go_wp2_with fail
  have qd:Q z5 (z5.alloc (.cells ([.string ⟨#[49,47,50]⟩,.string ⟨#[50]⟩]:List Value).toArray 37)):=bt
  refine cx (HEQ.out [49,47,50] [50] _ _ _ _ _ ((zK.keep e5 (Q.trans q5 qd)).str (by kernel_rfl)) (TSl.one (Blk.new z5 _ _) 1)) fun z6 hz6=>?_
  have q6:=Q.trans hQ9 (Q.trans q5 (Q.trans qd hz6))
  clear e5 b0 BB HEQ
  go_wp2
  go_ret
  exact⟨rfl,q6⟩
theorem zjM(a1 a2:Option Addr)(c1 c2:Nat)(w:World) :
  CR 9 #[.slice a1 0 c1,.slice a2 0 c2] w (.bool true):=by
 go_enter Tryz.func9,Tryz.ntmps9
 go_wp2
 refine wp_loop_rounds 1 ?_
 rw[rounds_succ]
 go_wp2
 go_ret
 exact⟨rfl,bt⟩
theorem ztT{L:List (Rat × Nat)}(hL:L.length≤1)(B1 B2:Nat)(v1 v2:Value)(w:World)(h1:zK w B1 v1 L)(h2:zK w B2 v2 L) :
  CR 9 #[v1,v2] w (.bool true):=by
 match L,hL with
 | [],_ =>
  obtain⟨a1,c1,rfl,-⟩:=h1.form
  obtain⟨a2,c2,rfl,-⟩:=h2.form
  exact zjM a1 a2 c1 c2 w
 | [c],_=>exact zm4 (ofC c).1 (ofC c).2 _ _ v1 v2 w (h1.str rfl) (h2.str rfl)
end
end Go.Proofs.YtjnhmfcklodfdaaGreatDoor
