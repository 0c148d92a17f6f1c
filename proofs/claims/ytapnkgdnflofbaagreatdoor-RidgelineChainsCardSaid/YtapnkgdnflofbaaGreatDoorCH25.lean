/-
  Walks of package plane: heights and normals, at short numbers.; Walks of package front: the plane of a front; of package bevel: a face.
-/
import Derived.Test.YtapnkgdnflofbaaGreatDoorCH11
import Derived.Test.YtapnkgdnflofbaaGreatDoorCH24
import Derived.Test.YtapnkgdnflofbaaGreatDoorCH21
import Derived.Test.YtapnkgdnflofbaaGreatDoorCH20
import Derived.Test.YtapnkgdnflofbaaGreatDoorCH23
set_option maxRecDepth 100000
set_option maxHeartbeats 4000000
namespace Go.Proofs.YtapnkgdnflofbaaGreatDoor
section
open Go.RowKit Go.Shelf Kp
attribute [local go_sem] Oper.semAt_some
theorem zd5(q:Rat)(h:Bd 36 q)(w:World)(hE:Env w) :
  CR 161 #[.string ⟨(ze q).toArray⟩] w (.int .i64 0):=by
 have HP:=LH (fun w hw=>zbJ q (h.zam (by decide)) w hw)
 have HT:=LH (fun w=>zP (Lib.itoa q.num) w)
 obtain⟨l1,l2⟩:=zk5 h
 have hm:=fun w=>zie ((zo (Lib.itoa q.num)).length:Int) ((Lib.itoa (q.den:Int)).length:Int) w
 obtain⟨m,e⟩:∃ m,max ((zo (Lib.itoa q.num)).length:Int) ((Lib.itoa (q.den:Int)).length:Int)=m:=⟨_,rfl⟩
 rw[e]at hm
 have b1:¬ (36:Int)<m:=by omega
 have b2:decide ((36:Int)<m)=false:=decide_eq_false b1
 clear h l1 l2 e
 generalize ze q=S at *
 generalize zo (Lib.itoa q.num)=U at *
 generalize Lib.itoa (q.den:Int)=D at *
 generalize Lib.itoa q.num=N at *
 go_enter Tryz.func161,Tryz.ntmps161
 have hQ0:=Q.refl w
 go_wp2_with fail
 refine cx (HP.out _ (hE.ofQ bt)) fun w1 hq1=>?_
 have hs1:Q w w1:=Q.trans bt hq1
 have hQ1:Q w w1:=Q.trans hQ0 hs1
 go_wp2_with fail
 refine(HT.out _).mono ?_
 rintro e w2⟨rfl,rfl⟩
 go_wp2
 go_ret
 exact⟨rfl,bt⟩
theorem ziv(q:Rat)(h:Bd 36 q)(w:World)(hE:Env w) :
  CR 195 #[.string ⟨(ze q).toArray⟩] w (.bool false):=by
 have HC:=LH (fun w hw=>zd5 q h w hw)
 clear h
 generalize ze q=S at *
 go_enter Tryz.func195,Tryz.ntmps195
 have hQ0:=Q.refl w
 go_wp2_with fail
 refine cx (HC.out _ (hE.ofQ bt)) fun w1 hq1=>?_
 have hs1:Q w w1:=Q.trans bt hq1
 have hQ1:Q w w1:=Q.trans hQ0 hs1
 go_wp2
 go_ret
 exact⟨rfl,bt⟩
theorem zmT(l:List Rat)(hl:∀ q∈l,Bd 36 q)(hn:l.length≤100)(v:Value)(w:World)(hE:Env w)(hv:zb2 w v (l.map ze)) :
  CR 156 #[v,.func (.func 195) #[] #[]] w (.int .i64 (-1)):=by
 obtain⟨b,o,cap,rfl,hb,hc⟩:=hv
 rw[List.length_map]at hc
 rw[List.length_map]
 have HL:=LH hl
 clear hl
 go_enter Tryz.func156,Tryz.ntmps156
 go_wp2
 go_loopw [8] (fun i wr=>∃ k:Nat,k≤l.length∧i=.int .i64 k∧Q w wr) (fun i _=>l.length - (intOf i).toNat)
 case atStart=>exact⟨0,by omega,rfl,Below.refl _ _⟩
 case round =>
  obtain⟨k,hk,rfl,hQ⟩:=hrel
  by_cases hlt:k<l.length
  ·have hcell:=hc k hlt
   have hcell':wr.cell? ⟨b,o+k,none⟩=some (.string ⟨((l.map ze).getD k []).toArray⟩):=by rw[hQ.cell (p:=⟨b,o+k,none⟩) hb];exact hcell
   have hq:(l.map ze).getD k []=ze l[k]:=by rw[List.getD_eq_getElem?_getD,List.getElem?_map,List.getElem?_eq_getElem hlt];rfl
   rw[hq]at hcell'
   have HG:=LH (fun w hw=>ziv l[k] (HL.out _ (List.getElem_mem hlt)) w hw)
   clear hcell hc hq HL
   generalize ze l[k]=S at *
   go_wp2_with fail
   refine cx (HG.out _ (hE.q hQ)) fun w2 hq2=>?_
   have hQ2:Q w w2:=Q.trans hQ hq2
   go_wp2
   go_roundw
   case rel=>exact⟨k+1,by omega,by go_num,hQ2⟩
   case measure=>simp[intOf];omega
  ·obtain rfl:k=l.length:=by omega
   go_wp2
   go_ret
   exact⟨rfl,hQ⟩
theorem zmS(l:List Rat)(hl:∀ q∈l,Bd 36 q)(hn:l.length≤100)(v:Value)(w:World)(hE:Env w)(hv:zb2 w v (l.map ze)) :
  CR 133 #[v] w (.bool false):=by
 have HI:Hid (∀ w,Env w→zb2 w v (l.map ze)→CR 85 #[v,.func (.func 195) #[] #[]] w (.bool false)):=LH (fun w hw hv=>by
  have HI:=LH (zmT l hl hn v w hw hv)
  clear hl hv
  go_enter Tryz.func85,Tryz.ntmps85
  go_wp2_with fail
  refine HI.out.mono ?_
  rintro e w1⟨rfl,hq1⟩
  go_wp2
  go_ret
  exact⟨rfl,hq1⟩)
 have HV:=LH hv
 clear hl hv
 go_enter Tryz.func133,Tryz.ntmps133
 go_wp2_with fail
 refine cx (HI.out _ hE HV.out) fun w1 hq1=>?_
 go_wp2
 go_ret
 exact⟨rfl,hq1⟩
theorem zfD(A B C:Rat)(hA:Bd 36 A)(hB:Bd 36 B)(hC:Bd 36 C)(w:World)(hE:Env w) :
  CR 90 #[.agg #[.string ⟨(ze A).toArray⟩,.string ⟨(ze B).toArray⟩,.string ⟨(ze C).toArray⟩]] w (.int .i64 0):=by
 have H1:=LH (fun w hw=>zA A (hA.zam (by decide)) w hw)
 have H2:=LH (fun w hw=>zA B (hB.zam (by decide)) w hw)
 have H3:=LH (fun w hw=>zA C (hC.zam (by decide)) w hw)
 have K1:=LH (fun w hw=>zd5 A hA w hw)
 have K2:=LH (fun w hw=>zd5 B hB w hw)
 have K3:=LH (fun w hw=>zd5 C hC w hw)
 clear hA hB hC
 generalize ze A=X at *
 generalize ze B=Y at *
 generalize ze C=Z at *
 obtain⟨W0,hW0⟩:∃ W0,w.alloc (.cells #[.string ⟨X.toArray⟩,.string ⟨Y.toArray⟩,.string ⟨Z.toArray⟩] 87)=W0:=⟨_,rfl⟩
 have hq0:Q w W0:=by rw[← hW0];exact bt
 have BP:Blk W0 w.heap.size [.string ⟨X.toArray⟩,.string ⟨Y.toArray⟩,.string ⟨Z.toArray⟩] 87:=by rw[← hW0];exact Blk.new w _ _
 have i0:=znX (.string ⟨X.toArray⟩) (.string ⟨Y.toArray⟩) (.string ⟨Z.toArray⟩)
 have i1:=znW (.string ⟨X.toArray⟩) (.string ⟨Y.toArray⟩) (.string ⟨Z.toArray⟩)
 have i2:=zqp (.string ⟨X.toArray⟩) (.string ⟨Y.toArray⟩) (.string ⟨Z.toArray⟩)
 have hQ0:=Q.refl W0
 replace p0:=BP.cell
 replace lBP:=BP.lt
 go_enter Tryz.func90,Tryz.ntmps90
 go_wp2
 refine wp_loop_rounds 4 ?_
 rw[rounds_succ]
 go_wp2_with fail
 refine cx (H1.out _ (hE.ofQ hq0)) fun G1 hg1=>?_
 have hQ1:=Q.trans hq0 hg1
 go_wp2
 rw[rounds_succ]
 go_wp2_with fail
 refine cx (H2.out _ (hE.ofQ hQ1)) fun G2 hg2=>?_
 have hQ2:=Q.trans hQ1 hg2
 go_wp2
 rw[rounds_succ]
 go_wp2_with fail
 refine cx (H3.out _ (hE.ofQ hQ2)) fun G3 hg3=>?_
 have hQ3:=Q.trans hQ2 hg3
 replace BP:=BP.keep (Q.trans hg1 (Q.trans hg2 hg3)) BP.lt
 clear hW0 H1 H2 H3 hg1 hg2 hg3 hQ1 hQ2 p0 lBP hQ0 hq0
 have hQ0:=Q.refl G3
 replace p0:=BP.cell
 replace lBP:=BP.lt
 go_wp2
 rw[rounds_succ]
 go_wp2
 refine wp_loop_rounds 4 ?_
 rw[rounds_succ]
 go_wp2_with fail
 refine cx (K1.out _ (hE.ofQ hQ3)) fun G4 hg4=>?_
 have hQ4:=Q.trans hQ3 hg4
 go_wp2
 rw[rounds_succ]
 go_wp2_with fail
 refine cx (K2.out _ (hE.ofQ hQ4)) fun G5 hg5=>?_
 have hQ5:=Q.trans hQ4 hg5
 go_wp2
 rw[rounds_succ]
 go_wp2_with fail
 refine cx (K3.out _ (hE.ofQ hQ5)) fun G6 hg6=>?_
 have hQ6:=Q.trans hQ5 hg6
 go_wp2
 rw[rounds_succ]
 go_wp2
 go_ret
 exact⟨rfl,hQ6⟩
def zet(w:World)(b:Nat):Prop:=Blk w b [.int .i64 0] 150
theorem zet.keep{w w':World}{b:Nat}(h:zet w b)(hq:Q w w'):zet w' b:=Blk.keep h hq (Blk.lt h)
theorem zrl{w:World}{b:Nat}(h:zet w b):w.setCell ⟨b,0,none⟩ (.int .i64 0)=w:=by
 unfold zet Blk at h
 have hlt:b<w.heap.size:=(Array.getElem?_eq_some_iff.1 h).1
 unfold World.setCell
 cases w with
 | mk heap tape drawn os output =>
  congr 1
  apply Array.ext_getElem?
  intro i
  rw[Array.getElem?_modify]
  split
  ·rename_i e
   subst e
   simp only at h
   rw[h]
   rfl
  ·rfl
theorem zr7(X:Str)(b:Nat)(w:World)(hb:zet w b) :
  CR 163 #[.pointer (some ⟨b,0,none⟩),.string ⟨X.toArray⟩,.int .i64 0] w (.string ⟨X.toArray⟩):=by
 have B:Blk w b [.int .i64 0] 150:=hb
 have c0:=B.cell
 have hf:=B.frozen 0
 have hs:=zrl hb
 go_enter Tryz.func163,Tryz.ntmps163
 go_wp2
 go_ret
 exact⟨rfl,Q.refl _⟩
theorem zrm(X:Str)(b:Nat)(w:World)(hb:zet w b) :
  CR 134 #[.pointer (some ⟨b,0,none⟩),.string ⟨X.toArray⟩] w (.tuple #[.string ⟨X.toArray⟩,.int .i64 0]):=by
 have B:Blk w b [.int .i64 0] 150:=hb
 have c0:=B.cell
 go_enter Tryz.func134,Tryz.ntmps134
 go_wp2
 go_ret2
 exact⟨rfl,Q.refl _⟩
theorem ziu{k l:Nat}(x y:Rat)(hx:Bd k x)(hy:Bd l y)(h:k+l≤300)(b:Nat)(w:World)(hE:Env w)(hb:zet w b) :
  CR 92 #[.pointer (some ⟨b,0,none⟩),.string ⟨(ze x).toArray⟩,.string ⟨(ze y).toArray⟩] w (.string ⟨(ze (x*y)).toArray⟩):=by
 have HD:=LH (fun w hw=>zaZ x y hx hy h w hw)
 have HK:=LH (fun w hb=>zr7 (ze (x*y)) b w hb)
 go_enter Tryz.func92,Tryz.ntmps92
 have hQ0:=Q.refl w
 go_wp2_with fail
 refine cx (HD.out _ hE) fun w1 hq1=>?_
 have hs1:Q w w1:=Q.trans bt hq1
 have hQ1:Q w w1:=Q.trans hQ0 hs1
 go_wp2_with fail
 refine cx (HK.out _ (hb.keep hq1)) fun w2 hq2=>?_
 have hs2:Q w1 w2:=Q.trans bt hq2
 have hQ2:Q w w2:=Q.trans hQ1 hs2
 go_wp2
 go_ret
 exact⟨rfl,bt⟩
theorem zp0(x y z:Rat)(hx:Bd 10 x)(hy:Bd 10 y)(hz:Bd 10 z)(b g cap:Nat)(t:TypeId)(w:World)(hE:Env w)(hb:zet w b)(hg:Blk w g [.string ⟨(ze x).toArray⟩,.string ⟨(ze y).toArray⟩,.string ⟨(ze z).toArray⟩] t) :
  CR 162 #[.pointer (some ⟨b,0,none⟩),.slice (some ⟨g,0,none⟩) 3 cap] w (.string ⟨(ze (x+y+z)).toArray⟩):=by
 have hq:∀ q∈[x,y,z],Bd 10 q:=fun q hq=>by
  simp only[List.mem_cons,List.not_mem_nil,or_false]at hq
  rcases hq with rfl | rfl | rfl
  ·exact hx
  ·exact hy
  ·exact hz
 have hN:zmq w g 0 [x,y,z]:=fun i hi=>by
  simp only[List.length_cons,List.length_nil]at hi
  rw[hg.cell]
  rcases(show i=0∨i=1∨i=2 by omega)with rfl | rfl | rfl <;> rfl
 have hd:=zlA g 0 cap [x,y,z] hq (by simp) w hE hN hg.lt
 rw[show zfR [x,y,z] [x,y,z].length=x+y+z from by show 0+x+y+z=x+y+z;grind]at hd
 have HD:=LH hd
 have HK:=LH (fun w hb=>zr7 (ze (x+y+z)) b w hb)
 clear hN hd hq hx hy hz
 generalize ze (x+y+z)=R at *
 simp only[List.length_cons,List.length_nil]at HD
 go_enter Tryz.func162,Tryz.ntmps162
 have hQ0:=Q.refl w
 go_wp2_with fail
 refine HD.out.mono ?_
 rintro e w1⟨rfl,hq1⟩
 go_wp2_with fail
 refine cx (HK.out _ (hb.keep hq1)) fun w2 hq2=>?_
 have hQ:=Q.trans hq1 hq2
 go_wp2
 go_ret
 exact⟨rfl,hQ⟩
theorem zoE(A B C x y:Rat)(hA:Bd 5 A)(hB:Bd 5 B)(hC:Bd 10 C)(hx:Bd 5 x)(hy:Bd 5 y)(b:Nat)(w:World)(hE:Env w)(hb:zet w b) :
  CR 135 #[.pointer (some ⟨b,0,none⟩),.agg #[.string ⟨(ze A).toArray⟩,.string ⟨(ze B).toArray⟩,.string ⟨(ze C).toArray⟩],.agg #[.string ⟨(ze x).toArray⟩,.string ⟨(ze y).toArray⟩]] w (.string ⟨(ze (A*x+B*y+C)).toArray⟩):=by
 have M1:=LH (fun w hw hb=>ziu A x hA hx (by decide) b w hw hb)
 have M2:=LH (fun w hw hb=>ziu B y hB hy (by decide) b w hw hb)
 have S1:=LH (fun g cap t w hw hb hg=>zp0 (A*x) (B*y) C (hA.mul hx) (hB.mul hy) hC b g cap t w hw hb hg)
 clear hA hB hC hx hy
 generalize ze (A*x+B*y+C)=R at *
 generalize ze (A*x)=P1 at *
 generalize ze (B*y)=P2 at *
 generalize ze A=SA at *
 generalize ze B=SB at *
 generalize ze C=SC at *
 generalize ze x=X at *
 generalize ze y=Y at *
 obtain⟨W,hW⟩:∃ W,(w.alloc (.cells #[.string ⟨SA.toArray⟩,.string ⟨SB.toArray⟩,.string ⟨SC.toArray⟩] 87)).alloc (.cells #[.string ⟨X.toArray⟩,.string ⟨Y.toArray⟩] 116)=W:=⟨_,rfl⟩
 have BU:Blk W w.heap.size [.string ⟨SA.toArray⟩,.string ⟨SB.toArray⟩,.string ⟨SC.toArray⟩] 87:=by rw[← hW];exact(Blk.new w _ _).alloc _
 have BV:Blk W (w.heap.size+1) [.string ⟨X.toArray⟩,.string ⟨Y.toArray⟩] 116:=by rw[← hW];exact Blk.new1 w _ _ _
 have hqw:Q w W:=by rw[← hW];exact bt
 go_enter Tryz.func135,Tryz.ntmps135
 go_wp2_with fail
 clear hW
 have hEd:Env W.drew:=hE.ofQ (Q.trans hqw (Below.drew (Q.refl W)))
 have hcd:zet W.drew b:=hb.keep (Q.trans hqw (Below.drew (Q.refl W)))
 have hQ0:=Q.refl W
 replace u0:=BU.cell 0
 replace u1:=BU.cell 1
 replace u2:=BU.cell 2
 simp only[zs4,zs5]at u0 u1 u2
 replace lBU:=BU.lt
 replace v0:=BV.cell 0
 replace v1:=BV.cell 1
 simp only[zs4,zs5]at v0 v1
 replace lBV:=BV.lt
 refine zn 16 rfl (by kernel_rfl) rfl ?_
 refine svp 0 ?_
 refine svp 1 ?_
 refine svp 2 ?_
 refine svq 3 rfl (by intro w' hq;have hc0:=za hq u0;go_simp;try with_reducible rfl) ?_
 refine svp 4 ?_
 refine svq 5 rfl (by intro w' hq;have hc0:=za hq v0;go_simp;try with_reducible rfl) ?_
 refine zk (i:=6) (v:=_) rfl rfl (by kernel_rfl) (by kernel_rfl) (fun _ _ _ h=>h) (by rfl) ?_ (fun w' hq=>M1.out w' (hEd.ofQ hq) (hcd.keep hq)) ?_
 ·(intro w' hq;go_simp;try with_reducible rfl)
 simp only[Act.put,zs1,zs2,zs3]
 refine svp 7 ?_
 refine svp 8 ?_
 refine svq 9 rfl (by intro w' hq;have hc0:=za hq u1;go_simp;try with_reducible rfl) ?_
 refine svp 10 ?_
 refine svq 11 rfl (by intro w' hq;have hc0:=za hq v1;go_simp;try with_reducible rfl) ?_
 refine zk (i:=12) (v:=_) rfl rfl (by kernel_rfl) (by kernel_rfl) (fun _ _ _ h=>h) (by rfl) ?_ (fun w' hq=>M2.out w' (hEd.ofQ hq) (hcd.keep hq)) ?_
 ·(intro w' hq;go_simp;try with_reducible rfl)
 simp only[Act.put,zs1,zs2,zs3]
 refine svp 13 ?_
 refine svq 14 rfl (by intro w' hq;have hc0:=za hq u2;go_simp;try with_reducible rfl) ?_
 refine zaH (i:=15) (fun w'=>.slice (some ⟨w'.heap.size,0,none⟩) 3 3) (.cells #[.string ⟨P1.toArray⟩,.string ⟨P2.toArray⟩,.string ⟨SC.toArray⟩] 30) rfl rfl (by kernel_rfl) (by rfl) (fun w' hq=>by go_simp;try with_reducible rfl) (fun w3 hq3=>?_)
 simp only[Act.put,zs1,zs2,zs3]
 have B3:=Blk.new w3 [.string ⟨P1.toArray⟩,.string ⟨P2.toArray⟩,.string ⟨SC.toArray⟩] 30
 have hq3a:Q w3 (w3.alloc (.cells ([.string ⟨P1.toArray⟩,.string ⟨P2.toArray⟩,.string ⟨SC.toArray⟩]:List Value).toArray 30)):=bt
 refine zh (by kernel_rfl) (fun w5 hq5=>?_)
 simp only[List.drop_succ_cons]
 have hQ3:Q w w5:=Q.trans hqw (Q.trans (Below.drew (Q.refl W)) (Q.trans hq3 (Q.trans hq3a hq5)))
 replace B3:=B3.keep hq5 B3.lt
 generalize w3.heap.size=g3 at *
 clear hq3 hq3a hq5 u0 u1 u2 v0 v1 M1 M2
 go_wp2_with fail
 refine cx (S1.out _ _ _ _ (hE.ofQ hQ3) (hb.keep hQ3) B3) fun w4 hq4=>?_
 have hQ4:=Q.trans hQ3 hq4
 go_wp2
 go_ret
 exact⟨rfl,hQ4⟩
theorem zfC(A B C A' B' C':Rat)(hA:Bd 5 A)(hB:Bd 5 B)(hA':Bd 5 A')(hB':Bd 5 B')(b:Nat)(w:World)(hE:Env w)(hb:zet w b) :
  CR 91 #[.pointer (some ⟨b,0,none⟩),.agg #[.string ⟨(ze A).toArray⟩,.string ⟨(ze B).toArray⟩,.string ⟨(ze C).toArray⟩],.agg #[.string ⟨(ze A').toArray⟩,.string ⟨(ze B').toArray⟩,.string ⟨(ze C').toArray⟩]] w (.string ⟨(ze (A*A'+B*B'+1)).toArray⟩):=by
 have M1:=LH (fun w hw hb=>ziu A A' hA hA' (by decide) b w hw hb)
 have M2:=LH (fun w hw hb=>ziu B B' hB hB' (by decide) b w hw hb)
 have s1:=fun g cap t w hw hb hg=>zp0 (A*A') (B*B') 1 (hA.mul hA') (hB.mul hB') (zj4.mono (by decide)) b g cap t w hw hb hg
 rw[zdW]at s1
 have S1:=LH s1
 clear hA hB hA' hB' s1
 generalize ze (A*A'+B*B'+1)=R at *
 generalize ze (A*A')=P1 at *
 generalize ze (B*B')=P2 at *
 generalize ze A=SA at *
 generalize ze B=SB at *
 generalize ze C=SC at *
 generalize ze A'=X at *
 generalize ze B'=Y at *
 generalize ze C'=Z at *
 obtain⟨W,hW⟩:∃ W,(w.alloc (.cells #[.string ⟨SA.toArray⟩,.string ⟨SB.toArray⟩,.string ⟨SC.toArray⟩] 87)).alloc (.cells #[.string ⟨X.toArray⟩,.string ⟨Y.toArray⟩,.string ⟨Z.toArray⟩] 87)=W:=⟨_,rfl⟩
 have BU:Blk W w.heap.size [.string ⟨SA.toArray⟩,.string ⟨SB.toArray⟩,.string ⟨SC.toArray⟩] 87:=by rw[← hW];exact(Blk.new w _ _).alloc _
 have BV:Blk W (w.heap.size+1) [.string ⟨X.toArray⟩,.string ⟨Y.toArray⟩,.string ⟨Z.toArray⟩] 87:=by rw[← hW];exact Blk.new1 w _ _ _
 have hqw:Q w W:=by rw[← hW];exact bt
 go_enter Tryz.func91,Tryz.ntmps91
 go_wp2_with fail
 clear hW
 have hEd:Env W.drew:=hE.ofQ (Q.trans hqw (Below.drew (Q.refl W)))
 have hcd:zet W.drew b:=hb.keep (Q.trans hqw (Below.drew (Q.refl W)))
 have hQ0:=Q.refl W
 replace u0:=BU.cell 0
 replace u1:=BU.cell 1
 replace u2:=BU.cell 2
 simp only[zs4,zs5]at u0 u1 u2
 replace lBU:=BU.lt
 replace v0:=BV.cell 0
 replace v1:=BV.cell 1
 replace v2:=BV.cell 2
 simp only[zs4,zs5]at v0 v1 v2
 replace lBV:=BV.lt
 refine zn 14 rfl (by kernel_rfl) rfl ?_
 refine svp 0 ?_
 refine svp 1 ?_
 refine svp 2 ?_
 refine svq 3 rfl (by intro w' hq;have hc0:=za hq u0;go_simp;try with_reducible rfl) ?_
 refine svp 4 ?_
 refine svq 5 rfl (by intro w' hq;have hc0:=za hq v0;go_simp;try with_reducible rfl) ?_
 refine zk (i:=6) (v:=_) rfl rfl (by kernel_rfl) (by kernel_rfl) (fun _ _ _ h=>h) (by rfl) ?_ (fun w' hq=>M1.out w' (hEd.ofQ hq) (hcd.keep hq)) ?_
 ·(intro w' hq;go_simp;try with_reducible rfl)
 simp only[Act.put,zs1,zs2,zs3]
 refine svp 7 ?_
 refine svp 8 ?_
 refine svq 9 rfl (by intro w' hq;have hc0:=za hq u1;go_simp;try with_reducible rfl) ?_
 refine svp 10 ?_
 refine svq 11 rfl (by intro w' hq;have hc0:=za hq v1;go_simp;try with_reducible rfl) ?_
 refine zk (i:=12) (v:=_) rfl rfl (by kernel_rfl) (by kernel_rfl) (fun _ _ _ h=>h) (by rfl) ?_ (fun w' hq=>M2.out w' (hEd.ofQ hq) (hcd.keep hq)) ?_
 ·(intro w' hq;go_simp;try with_reducible rfl)
 simp only[Act.put,zs1,zs2,zs3]
 refine zaH (i:=13) (fun w'=>.slice (some ⟨w'.heap.size,0,none⟩) 3 3) (.cells #[.string ⟨P1.toArray⟩,.string ⟨P2.toArray⟩,.string ⟨#[49]⟩] 30) rfl rfl (by kernel_rfl) (by rfl) (fun w' hq=>by go_simp;try with_reducible rfl) (fun w3 hq3=>?_)
 simp only[Act.put,zs1,zs2,zs3]
 have B3:=Blk.new w3 [.string ⟨P1.toArray⟩,.string ⟨P2.toArray⟩,.string ⟨#[49]⟩] 30
 have hq3a:Q w3 (w3.alloc (.cells ([.string ⟨P1.toArray⟩,.string ⟨P2.toArray⟩,.string ⟨#[49]⟩]:List Value).toArray 30)):=bt
 refine zh (by kernel_rfl) (fun w5 hq5=>?_)
 simp only[List.drop_succ_cons]
 have hQ3:Q w w5:=Q.trans hqw (Q.trans (Below.drew (Q.refl W)) (Q.trans hq3 (Q.trans hq3a hq5)))
 replace B3:=B3.keep hq5 B3.lt
 generalize w3.heap.size=g3 at *
 clear hq3 hq3a hq5 u0 u1 u2 v0 v1 v2 M1 M2
 go_wp2_with fail
 refine cx (S1.out _ _ _ _ (hE.ofQ hQ3) (hb.keep hQ3) B3) fun w4 hq4=>?_
 have hQ4:=Q.trans hQ3 hq4
 go_wp2
 go_ret
 exact⟨rfl,hQ4⟩
theorem znK(A B C x y:Rat)(hA:Bd 5 A)(hB:Bd 5 B)(hC:Bd 10 C)(hx:Bd 5 x)(hy:Bd 5 y)(w:World)(hE:Env w) :
  CR 63 #[.agg #[.string ⟨(ze A).toArray⟩,.string ⟨(ze B).toArray⟩,.string ⟨(ze C).toArray⟩],.agg #[.string ⟨(ze x).toArray⟩,.string ⟨(ze y).toArray⟩]] w (.tuple #[.string ⟨(ze (A*x+B*y+C)).toArray⟩,.int .i64 0]):=by
 have HC:=LH (fun w hw=>zfD A B C (hA.mono (by decide)) (hB.mono (by decide)) (hC.mono (by decide)) w hw)
 have HW:=LH (fun v w hw hv=>zmS [x,y] (fun q hq=>by
  simp only[List.mem_cons,List.not_mem_nil,or_false]at hq
  rcases hq with rfl | rfl
  ·exact hx.mono (by decide)
  ·exact hy.mono (by decide)) (by simp) v w hw hv)
 have HH:=LH (fun b w hw hb=>zoE A B C x y hA hB hC hx hy b w hw hb)
 have HD:=LH (fun b w hb=>zrm (ze (A*x+B*y+C)) b w hb)
 have hss:∀ w:World,∀ b t,Blk w b [.string ⟨(ze x).toArray⟩,.string ⟨(ze y).toArray⟩] t→zb2 w (.slice (some ⟨b,0,none⟩) 2 2) ([x,y].map ze):=fun w b t h=>by
  refine⟨b,0,2,rfl,h.lt,fun i hi=>?_⟩
  simp only[List.map_cons,List.map_nil,List.length_cons,List.length_nil]at hi
  rw[Nat.zero_add,h.cell]
  rcases(show i=0∨i=1 by omega)with rfl | rfl <;> rfl
 have HSS:=LH hss
 clear hA hB hC hx hy hss
 generalize [x,y].map ze=XY at *
 generalize ze (A*x+B*y+C)=R at *
 generalize ze A=SA at *
 generalize ze B=SB at *
 generalize ze C=SC at *
 generalize ze x=X at *
 generalize ze y=Y at *
 obtain⟨W,hW⟩:∃ W,(w.alloc (.cells #[.string ⟨SA.toArray⟩,.string ⟨SB.toArray⟩,.string ⟨SC.toArray⟩] 87)).alloc (.cells #[.string ⟨X.toArray⟩,.string ⟨Y.toArray⟩] 116)=W:=⟨_,rfl⟩
 have BU:Blk W w.heap.size [.string ⟨SA.toArray⟩,.string ⟨SB.toArray⟩,.string ⟨SC.toArray⟩] 87:=by rw[← hW];exact(Blk.new w _ _).alloc _
 have BV:Blk W (w.heap.size+1) [.string ⟨X.toArray⟩,.string ⟨Y.toArray⟩] 116:=by rw[← hW];exact Blk.new1 w _ _ _
 have hqw:Q w W:=by rw[← hW];exact bt
 have hQ0:=Q.refl W
 replace u0:=BU.cell
 replace lBU:=BU.lt
 replace v0:=BV.cell
 replace lBV:=BV.lt
 go_enter Tryz.func63,Tryz.ntmps63
 go_wp2_with fail
 refine cx (HC.out _ (hE.ofQ hqw)) fun G1 hq1=>?_
 have hs1:Q W G1:=Q.trans bt hq1
 have hQ1:Q W G1:=Q.trans hQ0 hs1
 replace BU:=BU.keep hs1 BU.lt
 replace u0:=BU.cell
 replace lBU:=BU.lt
 replace BV:=BV.keep hs1 BV.lt
 replace v0:=BV.cell
 replace lBV:=BV.lt
 clear hW
 have BX:=Blk.new G1 [.string ⟨X.toArray⟩,.string ⟨Y.toArray⟩] 30
 go_wp2_with fail
 refine cx (HW.out _ _ (hE.ofQ (Q.trans hqw (Q.trans hQ1 bt))) (HSS.out _ _ _ BX)) fun G2 hq2=>?_
 have hs2:Q G1 G2:=Q.trans bt hq2
 have hQ2:Q W G2:=Q.trans hQ1 hs2
 replace BU:=BU.keep hs2 BU.lt
 replace u0:=BU.cell
 replace lBU:=BU.lt
 replace BV:=BV.keep hs2 BV.lt
 replace v0:=BV.cell
 replace lBV:=BV.lt
 have C0:zet _ G2.heap.size:=Blk.new G2 [.int .i64 0] 150
 go_wp2_with fail
 refine cx (HH.out _ _ (hE.ofQ (Q.trans hqw (Q.trans hQ2 bt))) C0) fun G3 hq3=>?_
 have hs3:Q G2 G3:=Q.trans bt hq3
 have hQ3:Q W G3:=Q.trans hQ2 hs3
 replace BU:=BU.keep hs3 BU.lt
 replace u0:=BU.cell
 replace lBU:=BU.lt
 replace BV:=BV.keep hs3 BV.lt
 replace v0:=BV.cell
 replace lBV:=BV.lt
 have C1:zet G3 G2.heap.size:=C0.keep hq3
 go_wp2_with fail
 refine cx (HD.out _ _ C1) fun G4 hq4=>?_
 have hs4:Q G3 G4:=Q.trans bt hq4
 have hQ4:Q W G4:=Q.trans hQ3 hs4
 replace BU:=BU.keep hs4 BU.lt
 replace u0:=BU.cell
 replace lBU:=BU.lt
 replace BV:=BV.keep hs4 BV.lt
 replace v0:=BV.cell
 replace lBV:=BV.lt
 have hQ:=Q.trans hqw hQ4
 go_wp2
 go_ret2
 exact⟨rfl,hQ⟩
theorem zkx(A B C A' B' C':Rat)(hA:Bd 5 A)(hB:Bd 5 B)(hC:Bd 10 C)(hA':Bd 5 A')(hB':Bd 5 B')(hC':Bd 10 C')(w:World)(hE:Env w) :
  CR 47 #[.agg #[.string ⟨(ze A).toArray⟩,.string ⟨(ze B).toArray⟩,.string ⟨(ze C).toArray⟩],.agg #[.string ⟨(ze A').toArray⟩,.string ⟨(ze B').toArray⟩,.string ⟨(ze C').toArray⟩]] w (.tuple #[.string ⟨(ze (A*A'+B*B'+1)).toArray⟩,.string ⟨(ze ((A*A+B*B+1)*(A'*A'+B'*B'+1))).toArray⟩,.int .i64 0]):=by
 have HC:=LH (fun w hw=>zfD A B C (hA.mono (by decide)) (hB.mono (by decide)) (hC.mono (by decide)) w hw)
 have HC':=LH (fun w hw=>zfD A' B' C' (hA'.mono (by decide)) (hB'.mono (by decide)) (hC'.mono (by decide)) w hw)
 have P1:=LH (fun b w hw hb=>zfC A B C A' B' C' hA hB hA' hB' b w hw hb)
 have P2:=LH (fun b w hw hb=>zfC A B C A B C hA hB hA hB b w hw hb)
 have P3:=LH (fun b w hw hb=>zfC A' B' C' A' B' C' hA' hB' hA' hB' b w hw hb)
 have b2:Bd 30 (A*A+B*B+1):=(((hA.mul hA).add (hB.mul hB)).add zj4).mono (by decide)
 have b3:Bd 30 (A'*A'+B'*B'+1):=(((hA'.mul hA').add (hB'.mul hB')).add zj4).mono (by decide)
 have M1:=LH (fun b w hw hb=>ziu (A*A+B*B+1) (A'*A'+B'*B'+1) b2 b3 (by decide) b w hw hb)
 clear hA hB hC hA' hB' hC' b2 b3
 generalize ze (A*A'+B*B'+1)=R1 at *
 generalize ze ((A*A+B*B+1)*(A'*A'+B'*B'+1))=R2 at *
 generalize ze (A*A+B*B+1)=R3 at *
 generalize ze (A'*A'+B'*B'+1)=R4 at *
 generalize ze A=SA at *
 generalize ze B=SB at *
 generalize ze C=SC at *
 generalize ze A'=X at *
 generalize ze B'=Y at *
 generalize ze C'=Z at *
 obtain⟨W,hW⟩:∃ W,(w.alloc (.cells #[.string ⟨SA.toArray⟩,.string ⟨SB.toArray⟩,.string ⟨SC.toArray⟩] 87)).alloc (.cells #[.string ⟨X.toArray⟩,.string ⟨Y.toArray⟩,.string ⟨Z.toArray⟩] 87)=W:=⟨_,rfl⟩
 have BU:Blk W w.heap.size [.string ⟨SA.toArray⟩,.string ⟨SB.toArray⟩,.string ⟨SC.toArray⟩] 87:=by rw[← hW];exact(Blk.new w _ _).alloc _
 have BV:Blk W (w.heap.size+1) [.string ⟨X.toArray⟩,.string ⟨Y.toArray⟩,.string ⟨Z.toArray⟩] 87:=by rw[← hW];exact Blk.new1 w _ _ _
 have hqw:Q w W:=by rw[← hW];exact bt
 have hQ0:=Q.refl W
 replace u0:=BU.cell 0
 replace u1:=BU.cell 1
 replace u2:=BU.cell 2
 simp only[zs4,zs5]at u0 u1 u2
 replace lBU:=BU.lt
 replace v0:=BV.cell 0
 replace v1:=BV.cell 1
 replace v2:=BV.cell 2
 simp only[zs4,zs5]at v0 v1 v2
 replace lBV:=BV.lt
 go_enter Tryz.func47,Tryz.ntmps47
 go_wp2_with fail
 refine cx (HC.out _ (hE.ofQ hqw)) fun G1 hq1=>?_
 have hs1:Q W G1:=Q.trans bt hq1
 have hQ1:Q W G1:=Q.trans hQ0 hs1
 replace BU:=BU.keep hs1 BU.lt
 replace u0:=BU.cell 0
 replace u1:=BU.cell 1
 replace u2:=BU.cell 2
 simp only[zs4,zs5]at u0 u1 u2
 replace lBU:=BU.lt
 replace BV:=BV.keep hs1 BV.lt
 replace v0:=BV.cell 0
 replace v1:=BV.cell 1
 replace v2:=BV.cell 2
 simp only[zs4,zs5]at v0 v1 v2
 replace lBV:=BV.lt
 clear hW
 go_wp2_with fail
 refine cx (HC'.out _ (hE.ofQ (Q.trans hqw hQ1))) fun G2 hq2=>?_
 have hs2:Q G1 G2:=Q.trans bt hq2
 have hQ2:Q W G2:=Q.trans hQ1 hs2
 replace BU:=BU.keep hs2 BU.lt
 replace u0:=BU.cell 0
 replace u1:=BU.cell 1
 replace u2:=BU.cell 2
 simp only[zs4,zs5]at u0 u1 u2
 replace lBU:=BU.lt
 replace BV:=BV.keep hs2 BV.lt
 replace v0:=BV.cell 0
 replace v1:=BV.cell 1
 replace v2:=BV.cell 2
 simp only[zs4,zs5]at v0 v1 v2
 replace lBV:=BV.lt
 have C0:zet _ G2.heap.size:=Blk.new G2 [.int .i64 0] 150
 go_wp2_with fail
 refine cx (P1.out _ _ (hE.ofQ (Q.trans hqw (Q.trans hQ2 bt))) C0) fun G3 hq3=>?_
 have hs3:Q G2 G3:=Q.trans bt hq3
 have hQ3:Q W G3:=Q.trans hQ2 hs3
 replace BU:=BU.keep hs3 BU.lt
 replace u0:=BU.cell 0
 replace u1:=BU.cell 1
 replace u2:=BU.cell 2
 simp only[zs4,zs5]at u0 u1 u2
 replace lBU:=BU.lt
 replace BV:=BV.keep hs3 BV.lt
 replace v0:=BV.cell 0
 replace v1:=BV.cell 1
 replace v2:=BV.cell 2
 simp only[zs4,zs5]at v0 v1 v2
 replace lBV:=BV.lt
 have C1:zet G3 G2.heap.size:=C0.keep hq3
 have hQw:=Q.trans hqw hQ3
 clear C0 hQ0 hQ1 hQ2 hQ3 hq1 hq2 hq3 hs1 hs2 hs3 u0 u1 u2 lBU v0 v1 v2 lBV HC HC' P1
 generalize G2.heap.size=gc at *
 have hQ0:=Q.refl G3
 replace u0:=BU.cell 0
 replace u1:=BU.cell 1
 replace u2:=BU.cell 2
 simp only[zs4,zs5]at u0 u1 u2
 replace lBU:=BU.lt
 replace v0:=BV.cell 0
 replace v1:=BV.cell 1
 replace v2:=BV.cell 2
 simp only[zs4,zs5]at v0 v1 v2
 replace lBV:=BV.lt
 have hEd:Env G3.drew:=hE.ofQ (Q.trans hQw (Below.drew (Q.refl G3)))
 have hcd:zet G3.drew gc:=C1.keep (Below.drew (Q.refl G3))
 go_wp2_with fail
 refine zn 7 rfl (by kernel_rfl) rfl ?_
 refine svq 0 rfl (by intro w' hq;have hc0:=za hq u0;have hc1:=za hq u1;have hc2:=za hq u2;go_simp;try with_reducible rfl) ?_
 refine svq 1 rfl (by intro w' hq;have hc0:=za hq u0;have hc1:=za hq u1;have hc2:=za hq u2;go_simp;try with_reducible rfl) ?_
 refine zk (i:=2) (v:=_) rfl rfl (by kernel_rfl) (by kernel_rfl) (fun _ _ _ h=>h) (by rfl) ?_ (fun w' hq=>P2.out _ w' (hEd.ofQ hq) (hcd.keep hq)) ?_
 ·(intro w' hq;go_simp;try with_reducible rfl)
 simp only[Act.put,zs1,zs2,zs3]
 refine svq 3 rfl (by intro w' hq;have hc0:=za hq v0;have hc1:=za hq v1;have hc2:=za hq v2;go_simp;try with_reducible rfl) ?_
 refine svq 4 rfl (by intro w' hq;have hc0:=za hq v0;have hc1:=za hq v1;have hc2:=za hq v2;go_simp;try with_reducible rfl) ?_
 refine zk (i:=5) (v:=_) rfl rfl (by kernel_rfl) (by kernel_rfl) (fun _ _ _ h=>h) (by rfl) ?_ (fun w' hq=>P3.out _ w' (hEd.ofQ hq) (hcd.keep hq)) ?_
 ·(intro w' hq;go_simp;try with_reducible rfl)
 simp only[Act.put,zs1,zs2,zs3]
 refine zk (i:=6) (v:=_) rfl rfl (by kernel_rfl) (by kernel_rfl) (fun _ _ _ h=>h) (by rfl) ?_ (fun w' hq=>M1.out _ w' (hEd.ofQ hq) (hcd.keep hq)) ?_
 ·(intro w' hq;go_simp;try with_reducible rfl)
 simp only[Act.put,zs1,zs2,zs3]
 refine zh (by kernel_rfl) (fun w5 hq5=>?_)
 simp only[List.drop_succ_cons]
 have hQ5:Q w w5:=Q.trans hQw (Q.trans (Below.drew (Q.refl G3)) hq5)
 have c0:=(show Blk w5 gc [.int .i64 0] 150 from C1.keep (Q.trans (Below.drew (Q.refl G3)) hq5)).cell
 go_wp2
 go_ret3
 exact⟨rfl,hQ5⟩
theorem zqx{m n:Nat}(x y:Rat)(hx:Bd m x)(hy:Bd n y)(h0:y.num≠0)(h:m+n≤300)(w:World)(hE:Env w) :
  CR 129 #[.string ⟨(ze x).toArray⟩,.string ⟨(ze y).toArray⟩] w (.string ⟨(ze (x / y)).toArray⟩):=by
 have HD:=LH (fun w hw=>zc1 x y hx hy h0 h w hw)
 generalize ze (x / y)=R at *
 generalize ze x=X at *
 generalize ze y=Y at *
 go_enter Tryz.func129,Tryz.ntmps129
 have hQ0:=Q.refl w
 go_wp2_with fail
 refine cx (HD.out _ (hE.ofQ bt)) fun w1 hq1=>?_
 have hs1:Q w w1:=Q.trans bt hq1
 have hQ1:Q w w1:=Q.trans hQ0 hs1
 go_wp2
 go_ret
 exact⟨rfl,bt⟩
def zjh(f:Fr):Rat:=(f.dir:Rat) / f.speed
def zrY(f:Fr):Rat:=f.start - zjh f*(f.coord:Rat)
def ztk(f:Fr):List Value:=if f.up then [.string ⟨(ze (zjh f)).toArray⟩,.string ⟨#[48]⟩,.string ⟨(ze (zrY f)).toArray⟩]else [.string ⟨#[48]⟩,.string ⟨(ze (zjh f)).toArray⟩,.string ⟨(ze (zrY f)).toArray⟩]
theorem zim{W:World}{b:Nat}{x y z:Value}(h:Blk W b [x,y,z] 87)(fn:Func)(m k:Nat)(hf:fn.results=#[.cell m 87,.tmp k])(tmps:Array Value)(u:Value)(hp:tmps.getD m undef=.pointer (some ⟨b,0,none⟩))(hk:tmps.getD k undef=u) :
  (results fn tmps).run Tryz.prog W=.ok (.tuple #[.agg #[x,y,z],u]) W:=by
 have c0:=h.cell
 simp only[Array.getD_eq_getD_getElem?]at hp hk
 simp[results,hf,go_sem,hp,hk,c0]
theorem ziY(f:Fr)(h:FrOk f)(hs:f.speed≠0)(w:World)(hE:Env w) :
  CR 62 #[.agg (frC f).toArray] w (.tuple #[.agg (ztk f).toArray,.int .i64 0]):=by
 have HC:=LH (fun w hw=>znh f h w hw)
 have n0:f.speed.num≠0:=fun e=>hs (Rat.num_eq_zero.1 e)
 have bd:Bd 5 (f.dir:Rat):=zsc (by rcases h.d with e | e <;> rw[e] <;> decide) (by decide)
 have bc:Bd 5 (f.coord:Rat):=zsc (by have:=h.c0;have:=h.c1;omega) (by decide)
 have br:Bd 10 (zjh f):=bd.quot h.s (by have:=h.s0;omega)
 have HW1:=LH (fun w hw=>ziX f.dir (by rcases h.d with e | e <;> rw[e] <;> decide) w hw)
 have HW2:=LH (fun w hw=>ziX f.coord (by have:=h.c0;have:=h.c1;omega) w hw)
 have HD:=LH (fun w hw=>zqx (f.dir:Rat) f.speed bd h.s n0 (by decide) w hw)
 have HM:=LH (fun w hw=>zqw (zjh f) (f.coord:Rat) br bc (by decide) w hw)
 have HS:=LH (fun w hw=>zqv f.start (zjh f*(f.coord:Rat)) h.p (br.mul bc) (by decide) w hw)
 rw[show (f.dir:Rat) / f.speed=zjh f from rfl]at HD
 rw[show f.start - zjh f*(f.coord:Rat)=zrY f from rfl]at HS
 have hz:(ze f.speed == [48])=false:=by
  rw[beq_eq_false_iff_ne,← zaY];exact fun e=>hs (zbt e)
 clear h hs n0 bd bc br
 unfold ztk frC at *
 generalize ze (zjh f*(f.coord:Rat))=RC at *
 generalize ze (zrY f)=BB at *
 generalize ze (zjh f)=RR at *
 generalize ze (f.dir:Rat)=DD at *
 generalize ze (f.coord:Rat)=CC at *
 generalize ze f.speed=SS at *
 generalize ze f.start=ST at *
 obtain⟨up,co,di,sp,st⟩:=f
 simp only at *
 go_enter Tryz.func62,Tryz.ntmps62
 obtain⟨W0,hW0⟩:∃ W0,(w.alloc (.cells #[.bool up,.int .i64 co,.int .i64 di,.string ⟨SS.toArray⟩,.string ⟨ST.toArray⟩] 113)).alloc (.cells #[.string ⟨#[]⟩,.string ⟨#[]⟩,.string ⟨#[]⟩] 87)=W0:=⟨_,rfl⟩
 have hq0:Q w W0:=by rw[← hW0];exact bt
 have BF:Blk W0 w.heap.size [.bool up,.int .i64 co,.int .i64 di,.string ⟨SS.toArray⟩,.string ⟨ST.toArray⟩] 113:=by rw[← hW0];exact(Blk.new w _ _).alloc _
 have BZ:Blk W0 (w.heap.size+1) [.string ⟨#[]⟩,.string ⟨#[]⟩,.string ⟨#[]⟩] 87:=by rw[← hW0];exact Blk.new1 w _ _ _
 have hE0:=hE.ofQ hq0
 have hQ0:=Q.refl W0
 replace f0:=BF.cell 0
 replace f1:=BF.cell 1
 replace f2:=BF.cell 2
 replace f3:=BF.cell 3
 replace f4:=BF.cell 4
 simp only[zs4,zs5]at f0 f1 f2 f3 f4
 replace lBF:=BF.lt
 replace z0:=BZ.cell
 replace lBZ:=BZ.lt
 go_wp2_with fail
 refine cx (HC.out _ hE0) fun G1 hq1=>?_
 have hs1:Q W0 G1:=Q.trans bt hq1
 have hQ1:Q W0 G1:=Q.trans hQ0 hs1
 replace BF:=BF.keep hs1 BF.lt
 replace f0:=BF.cell 0
 replace f1:=BF.cell 1
 replace f2:=BF.cell 2
 replace f3:=BF.cell 3
 replace f4:=BF.cell 4
 simp only[zs4,zs5]at f0 f1 f2 f3 f4
 replace lBF:=BF.lt
 replace BZ:=BZ.keep hs1 BZ.lt
 replace z0:=BZ.cell
 replace lBZ:=BZ.lt
 clear hW0 HC
 go_wp2_with fail
 have hEd:Env G1.drew:=hE0.ofQ (Q.trans hQ1 bt)
 refine zn 6 rfl (by kernel_rfl) rfl ?_
 refine svp 0 ?_
 refine svq 1 rfl (by intro w' hq;have hc0:=za hq f2;go_simp;try with_reducible rfl) ?_
 refine zk (i:=2) (v:=_) rfl rfl (by kernel_rfl) (by kernel_rfl) (fun _ _ _ h=>h) (by rfl) ?_ (fun w' hq=>HW1.out w' (hEd.ofQ hq)) ?_
 ·(intro w' hq;go_simp;try with_reducible rfl)
 simp only[Act.put,zs1,zs2,zs3]
 refine svp 3 ?_
 refine svq 4 rfl (by intro w' hq;have hc0:=za hq f3;go_simp;try with_reducible rfl) ?_
 refine zk (i:=5) (v:=_) rfl rfl (by kernel_rfl) (by kernel_rfl) (fun _ _ _ h=>h) (by rfl) ?_ (fun w' hq=>HD.out w' (hEd.ofQ hq)) ?_
 ·(intro w' hq;go_simp;try with_reducible rfl)
 simp only[Act.put,zs1,zs2,zs3]
 refine zh (by kernel_rfl) (fun w3 hq3=>?_)
 simp only[List.drop_succ_cons,List.drop_zero]
 have hq4:Q W0 w3:=Q.trans hQ1 (Q.trans (Below.drew (Q.refl G1)) hq3)
 replace BF:=BF.keep (Q.trans (Below.drew (Q.refl G1)) hq3) BF.lt
 replace BZ:=BZ.keep (Q.trans (Below.drew (Q.refl G1)) hq3) BZ.lt
 clear hq3 hEd HW1 HD hz
 have hQ0:=Q.refl w3
 replace f0:=BF.cell 0
 replace f1:=BF.cell 1
 replace f2:=BF.cell 2
 replace f3:=BF.cell 3
 replace f4:=BF.cell 4
 simp only[zs4,zs5]at f0 f1 f2 f3 f4
 replace lBF:=BF.lt
 replace z0:=BZ.cell
 replace lBZ:=BZ.lt
 go_wp2_with fail
 have hEd:Env w3.drew:=hE0.ofQ (Q.trans hq4 bt)
 refine zn 11 rfl (by kernel_rfl) rfl ?_
 refine svp 0 ?_
 refine svp 1 ?_
 refine svq 2 rfl (by intro w' hq;have hc0:=za hq f4;go_simp;try with_reducible rfl) ?_
 refine svp 3 ?_
 refine svp 4 ?_
 refine svq 5 rfl (by intro w' hq;have hc0:=za hq f1;go_simp;try with_reducible rfl) ?_
 refine zk (i:=6) (v:=_) rfl rfl (by kernel_rfl) (by kernel_rfl) (fun _ _ _ h=>h) (by rfl) ?_ (fun w' hq=>HW2.out w' (hEd.ofQ hq)) ?_
 ·(intro w' hq;go_simp;try with_reducible rfl)
 simp only[Act.put,zs1,zs2,zs3]
 refine zk (i:=7) (v:=_) rfl rfl (by kernel_rfl) (by kernel_rfl) (fun _ _ _ h=>h) (by rfl) ?_ (fun w' hq=>HM.out w' (hEd.ofQ hq)) ?_
 ·(intro w' hq;go_simp;try with_reducible rfl)
 simp only[Act.put,zs1,zs2,zs3]
 refine zk (i:=8) (v:=_) rfl rfl (by kernel_rfl) (by kernel_rfl) (fun _ _ _ h=>h) (by rfl) ?_ (fun w' hq=>HS.out w' (hEd.ofQ hq)) ?_
 ·(intro w' hq;go_simp;try with_reducible rfl)
 simp only[Act.put,zs1,zs2,zs3]
 refine svp 9 ?_
 refine zaI (i:=10) (.cells #[.string ⟨#[]⟩,.string ⟨#[]⟩,.string ⟨#[]⟩] 87) rfl rfl (by kernel_rfl) (by rfl) (fun w' hq=>by go_simp;try with_reducible rfl) (fun w6 hq6=>?_)
 simp only[Act.put,zs1,zs2,zs3]
 have BP:=Blk.new w6 [.string ⟨#[]⟩,.string ⟨#[]⟩,.string ⟨#[]⟩] 87
 refine zh (by kernel_rfl) (fun w7 hq7=>?_)
 simp only[List.drop_succ_cons,List.drop_zero]
 have hqc:Q w3 w7:=Q.trans (Below.drew (Q.refl w3)) (Q.trans hq6 (Q.trans ((Below.refl _ w6).alloc (Nat.le_refl _) _) hq7))
 have hq6':Q w3 w6:=Q.trans (Below.drew (Q.refl w3)) hq6
 have lz6:w.heap.size+1<w6.heap.size:=Nat.lt_of_lt_of_le BZ.lt hq6'.size
 have lf6:w.heap.size<w6.heap.size:=by omega
 have P:=BP.keep hq7 (by simp)
 have hw7:Q w w7:=Q.trans hq0 (Q.trans hq4 hqc)
 replace BF:=BF.keep hqc BF.lt
 replace BZ:=BZ.keep hqc BZ.lt
 generalize w6.heap.size=p at *
 clear hq6 hq7 hqc hq6' BP hEd HW2 HM HS hQ0 hE0 hq0 hq1 hs1 hQ1 hq4
 have hnp:p≠w.heap.size+1:=by omega
 have hnf:p≠w.heap.size:=by omega
 obtain⟨V,hV⟩:∃ V,w7.setRow p ([.string ⟨#[48]⟩,.string ⟨RR.toArray⟩,.string ⟨BB.toArray⟩]:List Value).toArray=V:=⟨_,rfl⟩
 have PV:Blk V p [.string ⟨#[48]⟩,.string ⟨RR.toArray⟩,.string ⟨BB.toArray⟩] 87:=by rw[← hV];exact setRow_heap _ _ _ _ _ _ P
 have FV:=BF.setRow (fun e=>hnf e.symm) ([.string ⟨#[48]⟩,.string ⟨RR.toArray⟩,.string ⟨BB.toArray⟩]:List Value).toArray
 have ZV:=BZ.setRow (fun e=>hnp e.symm) ([.string ⟨#[48]⟩,.string ⟨RR.toArray⟩,.string ⟨BB.toArray⟩]:List Value).toArray
 rw[hV]at FV ZV
 have hwV:Q w V:=by rw[← hV];exact below_setRow hw7 (by omega) _
 have hQ0:=Q.refl V
 replace f0:=FV.cell 0
 replace f1:=FV.cell 1
 replace f2:=FV.cell 2
 replace f3:=FV.cell 3
 replace f4:=FV.cell 4
 simp only[zs4,zs5]at f0 f1 f2 f3 f4
 replace lFV:=FV.lt
 replace z0:=ZV.cell
 replace lZV:=ZV.lt
 replace p0:=PV.cell
 replace lPV:=PV.lt
 have pf:=PV.frozen
 have zf:=ZV.frozen
 clear BF BZ f0 f1 f2 f3 f4 z0
 have ff:=FV.cell
 have zz:=ZV.cell
 cases up
 ·go_wp2_with (refine zdD rfl 87 (.tmp 5) (.tmp 29) rfl p 0 P [.string ⟨#[48]⟩,.string ⟨RR.toArray⟩,.string ⟨BB.toArray⟩] [.string ⟨#[48]⟩,.string ⟨RR.toArray⟩,.string ⟨BB.toArray⟩] rfl rfl (by simp) rfl (by kernel_rfl) (by simp[Value.oneCell']) ?_;rw[hV])
  have R:=((ZV.set 0 (.string ⟨#[48]⟩)).set 1 (.string ⟨RR.toArray⟩)).set 2 (.string ⟨BB.toArray⟩)
  simp only[List.set_cons_zero,List.set_cons_succ]at R
  have hQ:=((hwV.setCell (p:=⟨w.heap.size+1,0,none⟩) (by simp) (.string ⟨#[48]⟩)).setCell (p:=⟨w.heap.size+1,1,none⟩) (by simp) (.string ⟨RR.toArray⟩)).setCell (p:=⟨w.heap.size+1,2,none⟩) (by simp) (.string ⟨BB.toArray⟩)
  refine bodyPost_ret (zim R Tryz.f62 2 3 rfl _ _ rfl rfl) rfl ⟨rfl,hQ⟩
 ·have R0:=((ZV.setOther hnp 0 (.string ⟨RR.toArray⟩)).setOther hnp 1 (.string ⟨#[48]⟩))
  have R:=((R0.set 0 (.string ⟨RR.toArray⟩)).set 1 (.string ⟨#[48]⟩)).set 2 (.string ⟨BB.toArray⟩)
  simp only[List.set_cons_zero,List.set_cons_succ]at R
  have hQ:=((((hwV.setCell (p:=⟨p,0,none⟩) (show w.heap.size≤p by omega) (.string ⟨RR.toArray⟩)).setCell (p:=⟨p,1,none⟩) (show w.heap.size≤p by omega) (.string ⟨#[48]⟩)).setCell (p:=⟨w.heap.size+1,0,none⟩) (by simp) (.string ⟨RR.toArray⟩)).setCell (p:=⟨w.heap.size+1,1,none⟩) (by simp) (.string ⟨#[48]⟩)).setCell (p:=⟨w.heap.size+1,2,none⟩) (by simp) (.string ⟨BB.toArray⟩)
  clear R0
  go_wp2_with (refine zdD rfl 87 (.tmp 5) (.tmp 29) rfl p 0 P [.string ⟨#[48]⟩,.string ⟨RR.toArray⟩,.string ⟨BB.toArray⟩] [.string ⟨#[48]⟩,.string ⟨RR.toArray⟩,.string ⟨BB.toArray⟩] rfl rfl (by simp) rfl (by kernel_rfl) (by simp[Value.oneCell']) ?_;rw[hV])
  refine bodyPost_ret (zim R Tryz.f62 2 3 rfl _ _ rfl rfl) rfl ⟨rfl,hQ⟩
end
end Go.Proofs.YtapnkgdnflofbaaGreatDoor
