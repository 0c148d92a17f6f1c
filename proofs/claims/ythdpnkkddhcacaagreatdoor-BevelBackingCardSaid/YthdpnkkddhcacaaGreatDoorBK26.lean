/-
  Walks of package slope: the length of the line between two faces, for a rise of 1.; Walks of package bevel: the face and the backing of a gable.; The reference's check of a number of at most nine bytes: its digits are native ints.; The reference's quotient of short numbers: native ints.; The law BevelBacking: its line, and the backings of it against both faces.
-/
import Derived.Test.YthdpnkkddhcacaaGreatDoorBK25
import Derived.Test.YthdpnkkddhcacaaGreatDoorBK23
import Derived.Test.YthdpnkkddhcacaaGreatDoorBK21
import Derived.Test.YthdpnkkddhcacaaGreatDoorBK09
set_option maxRecDepth 100000
set_option maxHeartbeats 4000000
namespace Go.Proofs.YthdpnkkddhcacaaGreatDoor
section
open Go.RowKit Go.Shelf Kp
attribute [local go_sem] Oper.semAt_some
theorem zpE(q r:Rat)(hq:Pit q)(hr:Pit r)(b:Nat)(w:World)(hE:Env w)(hb:zkj w b) :
  CR 33 #[.pointer (some ⟨b,0,none⟩),.string ⟨(ze (q*q)).toArray⟩,.string ⟨(ze (r*r)).toArray⟩] w (.string ⟨(ze (zel q r)).toArray⟩):=by
 have p1:=Rat.mul_pos hq.pos hq.pos
 have p2:=Rat.mul_pos hr.pos hr.pos
 have b1:Bd 5 (1 / (q*q)):=zbs.quot (hq.bd.mul hq.bd) (npos p1)
 have b2:Bd 5 (1 / (r*r)):=zbs.quot (hr.bd.mul hr.bd) (npos p2)
 have d1:=fun w hw hb=>zob 1 (q*q) zbs (hq.bd.mul hq.bd) (by have:=npos p1;omega) (by decide) b w hw hb
 have d2:=fun w hw hb=>zob 1 (r*r) zbs (hr.bd.mul hr.bd) (by have:=npos p2;omega) (by decide) b w hw hb
 have a2:=fun w hw hb=>zoc 1 (1 / (q*q)+1 / (r*r)) zbs (b1.add b2) (by decide) b w hw hb
 rw[zb4]at d1 d2 a2
 rw[show 1+(1 / (q*q)+1 / (r*r))=zel q r from rfl]at a2
 have D1:=LH d1
 have D2:=LH d2
 have A1:=LH (fun w hw hb=>zoc (1 / (q*q)) (1 / (r*r)) b1 b2 (by decide) b w hw hb)
 have A2:=LH a2
 clear d1 d2 a2 b1 b2 p1 p2 hq hr
 generalize ze (zel q r)=R at *
 generalize ze (1 / (q*q)+1 / (r*r))=S at *
 generalize ze (1 / (q*q))=X at *
 generalize ze (1 / (r*r))=Y at *
 generalize ze (q*q)=U at *
 generalize ze (r*r)=V at *
 go_enter Tryz.func33,Tryz.ntmps33
 have hQ0:=Q.refl w
 go_wp2_with fail
 refine cx (D1.out _ hE hb) fun w1 hq1=>?_
 have hs1:Q w w1:=Q.trans bt hq1
 have hQ1:Q w w1:=Q.trans hQ0 hs1
 go_wp2_with fail
 refine cx (D2.out _ (hE.ofQ hQ1) (hb.keep hQ1)) fun w2 hq2=>?_
 have hs2:Q w1 w2:=Q.trans bt hq2
 have hQ2:Q w w2:=Q.trans hQ1 hs2
 go_wp2_with fail
 refine cx (A1.out _ (hE.ofQ hQ2) (hb.keep hQ2)) fun w3 hq3=>?_
 have hs3:Q w2 w3:=Q.trans bt hq3
 have hQ3:Q w w3:=Q.trans hQ2 hs3
 go_wp2_with fail
 refine cx (A2.out _ (hE.ofQ hQ3) (hb.keep hQ3)) fun w4 hq4=>?_
 have hs4:Q w3 w4:=Q.trans bt hq4
 have hQ4:Q w w4:=Q.trans hQ3 hs4
 go_wp2
 go_ret
 exact⟨rfl,bt⟩
theorem zpc(q r:Rat)(hq:Pit q)(hr:Pit r)(w:World)(hE:Env w) :
  Calls Tryz.prog 36 #[.agg #[.string ⟨(ze q).toArray⟩,.string ⟨(ze r).toArray⟩,.func (.func 33) #[] #[]]] w (zm3 w (zpF q r)):=by
 have P1:=LH (fun w hw=>zfA q hq.pos (hq.bd.zah (by decide)) w hw)
 have P2:=LH (fun w hw=>zfA r hr.pos (hr.bd.zah (by decide)) w hw)
 have M1:=LH (fun b w hw hb=>zoa q q hq.bd hq.bd (by decide) b w hw hb)
 have M2:=LH (fun b w hw hb=>zoa r r hr.bd hr.bd (by decide) b w hw hb)
 have HL:=LH (fun b w hw hb=>zpE q r hq hr b w hw hb)
 have hk:=zfo hq hr
 have bk:=zlv hq hr
 obtain⟨C,hC,hCL,-,-⟩:=zow hq hr
 have hmk:=fun v w hw hv=>zdl [(1,zel q r)] (fun t ht=>by
  obtain rfl:=List.mem_singleton.1 ht
  exact⟨zbs.zah (by decide),bk.zah (by decide),Int.le_of_lt (npos hk)⟩) (by simp) (fun cs h=>Nat.le_trans (ziG _ rfl (fun t ht=>by
   obtain rfl:=List.mem_singleton.1 ht
   exact⟨zbs.zah (by decide),bk.zah (by decide),Int.le_of_lt (npos hk)⟩) h).2 (by simp)) v w hw hv
 rw[show ([(1,zel q r)]:List (Rat × Rat)).map ofT=[(ze 1,ze (zel q r))]from rfl,zb4]at hmk
 have HM:=LH hmk
 have HC:=LH hC
 have HCL:=LH hCL
 clear hmk hk bk hC hCL hq hr
 generalize ze (zel q r)=K at *
 generalize ze (q*q)=QQ at *
 generalize ze (r*r)=RR at *
 generalize ze q=X at *
 generalize ze r=Y at *
 obtain⟨W0,hW0⟩:∃ W0,w.alloc (.cells #[.string ⟨X.toArray⟩,.string ⟨Y.toArray⟩,.func (.func 33) #[] #[]] 76)=W0:=⟨_,rfl⟩
 have hq0:Q w W0:=by rw[← hW0];exact bt
 have BF:Blk W0 w.heap.size [.string ⟨X.toArray⟩,.string ⟨Y.toArray⟩,.func (.func 33) #[] #[]] 76:=by rw[← hW0];exact Blk.new w _ _
 have hQ0:=Q.refl W0
 replace f0:=BF.cell 0
 replace f1:=BF.cell 1
 replace f2:=BF.cell 2
 simp only[zs4,zs5]at f0 f1 f2
 replace lBF:=BF.lt
 go_enter Tryz.func36,Tryz.ntmps36
 have BA:Blk (W0.alloc (.cells #[.string ⟨X.toArray⟩,.string ⟨Y.toArray⟩] 29)) W0.heap.size [.string ⟨X.toArray⟩,.string ⟨Y.toArray⟩] 29:=Blk.new W0 _ _
 have hqa:Q w (W0.alloc (.cells #[.string ⟨X.toArray⟩,.string ⟨Y.toArray⟩] 29)):=Q.trans hq0 bt
 go_wp2
 refine wp_loop_rounds 3 ?_
 rw[rounds_succ]
 go_wp2_with fail
 refine cx (P1.out _ (hE.ofQ hqa)) fun G1 hg1=>?_
 replace BA:=BA.keep hg1 BA.lt
 have hQ1:=Q.trans hqa hg1
 have a1:=BA.cell 1
 go_wp2
 rw[rounds_succ]
 go_wp2_with fail
 refine cx (P2.out _ (hE.ofQ hQ1)) fun G2 hg2=>?_
 have hQ2:=Q.trans hQ1 hg2
 go_wp2
 rw[rounds_succ]
 go_wp2_with fail
 obtain⟨W2,hW2⟩:∃ W2,G2.alloc (.cells #[.int .i64 0] 121)=W2:=⟨_,rfl⟩
 have hs0:zkj W2 G2.heap.size:=by rw[← hW2];exact Blk.new G2 _ _
 have hq2w:Q G2 W2:=by rw[← hW2];exact bt
 have hQW:Q w W2:=Q.trans hQ2 hq2w
 replace BF:=BF.keep (Q.trans bt (Q.trans hg1 (Q.trans hg2 hq2w))) BF.lt
 rw[hW2]
 clear hW2 hg1 hg2 hQ1 hQ2 hq2w hq0 hqa BA a1 hW0 P1 P2 f0 f1 f2 lBF hQ0
 generalize G2.heap.size=gs at *
 have hQ0:=Q.refl W2
 replace f0:=BF.cell 0
 replace f1:=BF.cell 1
 replace f2:=BF.cell 2
 simp only[zs4,zs5]at f0 f1 f2
 replace lBF:=BF.lt
 have hEd:Env W2.drew:=hE.ofQ (Q.trans hQW (Below.drew (Q.refl W2)))
 have hsd:zkj W2.drew gs:=hs0.keep (Below.drew (Q.refl W2))
 refine zm 13 rfl (by kernel_rfl) rfl ?_
 refine svp 0 ?_
 refine svq 1 rfl (by intro w' hq;have hc0:=za hq f2;go_simp;try with_reducible rfl) ?_
 refine svp 2 ?_
 refine svq 3 rfl (by intro w' hq;have hc0:=za hq f0;go_simp;try with_reducible rfl) ?_
 refine svp 4 ?_
 refine svq 5 rfl (by intro w' hq;have hc0:=za hq f0;go_simp;try with_reducible rfl) ?_
 refine zh (i:=6) (v:=_) rfl rfl (by kernel_rfl) (by kernel_rfl) (fun _ _ _ h=>h) (by rfl) ?_ (fun w' hq=>M1.out _ w' (hEd.ofQ hq) (hsd.keep hq)) ?_
 ·(intro w' hq;go_simp;try with_reducible rfl)
 simp only[Act.put,zs1,zs2,zs3]
 refine svp 7 ?_
 refine svq 8 rfl (by intro w' hq;have hc0:=za hq f1;go_simp;try with_reducible rfl) ?_
 refine svp 9 ?_
 refine svq 10 rfl (by intro w' hq;have hc0:=za hq f1;go_simp;try with_reducible rfl) ?_
 refine zh (i:=11) (v:=_) rfl rfl (by kernel_rfl) (by kernel_rfl) (fun _ _ _ h=>h) (by rfl) ?_ (fun w' hq=>M2.out _ w' (hEd.ofQ hq) (hsd.keep hq)) ?_
 ·(intro w' hq;go_simp;try with_reducible rfl)
 simp only[Act.put,zs1,zs2,zs3]
 refine zh (i:=12) (v:=_) rfl rfl (by kernel_rfl) (by kernel_rfl) (fun _ _ _ h=>h) (by rfl) ?_ (fun w' hq=>HL.out _ w' (hEd.ofQ hq) (hsd.keep hq)) ?_
 ·(intro w' hq;go_simp;try with_reducible rfl)
 simp only[Act.put,zs1,zs2,zs3]
 refine zi (by kernel_rfl) (fun w3 hq3=>?_)
 simp only[List.drop_succ_cons]
 have hq4:Q W2 w3:=Q.trans (Below.drew (Q.refl W2)) hq3
 have hQ3:Q w w3:=Q.trans hQW hq4
 have c0:=(show Blk w3 gs [.int .i64 0] 121 from hs0.keep hq4).cell
 have BT:=Blk.new w3 [.string ⟨#[49]⟩,.string ⟨K.toArray⟩] 47
 clear hq3 hEd hsd M1 M2 HL f0 f1 f2 lBF BF
 go_wp2_with fail
 refine(HM.out _ _ (hE.ofQ (Q.trans hQ3 bt)) (TSl.one BT 1)).mono ?_
 rintro e y⟨hqy,-,hs⟩
 obtain⟨v,rfl,hv⟩:=hs C HC.out
 rw[HCL.out]at hv
 have HV:=LH (Joins.ownsRow_le hv (Q.trans hQ3 (show Q w3 (w3.alloc (.cells #[.string ⟨#[49]⟩,.string ⟨K.toArray⟩] 47))from bt)).size)
 have hQe:=Q.trans hQ3 (Q.trans (show Q w3 (w3.alloc (.cells #[.string ⟨#[49]⟩,.string ⟨K.toArray⟩] 47))from bt) hqy)
 clear hv hs
 go_wp2
 go_ret2
 exact⟨_,rfl,hQe,HV.out⟩
theorem zl0(q r:Rat)(hq:Pit q)(hr:Pit r)(w:World)(hE:Env w) :
  Calls Tryz.prog 10 #[.string ⟨(ze q).toArray⟩,.string ⟨(ze r).toArray⟩] w (zm3 w (zpF q r)):=by
 have HR:=LH (fun w hw=>zpc q r hq hr w hw)
 clear hq hr
 generalize zpF q r=L at *
 generalize ze q=X at *
 generalize ze r=Y at *
 go_enter Tryz.func10,Tryz.ntmps10
 go_wp2_with fail
 refine(HR.out _ hE).mono ?_
 rintro e w1⟨v,rfl,hq1,hv⟩
 have HV:=LH hv
 clear hv
 go_wp2
 go_ret2
 exact⟨_,rfl,hq1,HV.out⟩
theorem zir(R:List (List Sd))(hp:zcZ R=0)(hlen:R.length≤1000)(a:Option Addr)(nn cp:Nat)(i:Nat)(hi:i<R.flatten.length)(hg:(zcw R.flatten i).gable=true)(w:World)(hv:zgb w (.slice a nn cp) R) :
  CR 24 #[.agg #[.slice a nn cp],.int .i64 i] w (.tuple #[.agg #[.string ⟨#[]⟩,.string ⟨#[]⟩,.string ⟨#[]⟩],.int .i64 18]):=by
 have ok:=ziv hp
 have HV:=LH hv
 have HS1:Hid (∀ W,Q w W→Calls Tryz.prog 59 #[.agg #[.slice a nn cp]] W fun e w'=>∃ v',e=.returned (.tuple #[v',.int .i64 0])∧Q W w'∧zcu 7 sdC w' v' R.flatten):=LH (fun W hq=>zkr R hp hlen _ W (HV.out.keep hq))
 have h24:R.flatten.length≤24:=by rw[count_flatten];exact ok.le
 obtain⟨W0,hW0⟩:∃ W0,(w.alloc (.cells #[.slice a nn cp] 28)).alloc (.cells #[.string ⟨#[]⟩,.string ⟨#[]⟩,.string ⟨#[]⟩] 62)=W0:=⟨_,rfl⟩
 have hq0:Q w W0:=by rw[← hW0];exact bt
 have BR:Blk W0 w.heap.size [.slice a nn cp] 28:=by rw[← hW0];exact(Blk.new w _ _).alloc _
 have BZ:Blk W0 (w.heap.size+1) [.string ⟨#[]⟩,.string ⟨#[]⟩,.string ⟨#[]⟩] 62:=by rw[← hW0];exact Blk.new1 w _ _ _
 clear hv HV hp ok
 generalize hS:R.flatten=S at *
 have hQ0:=Q.refl W0
 replace r0:=BR.cell
 replace lBR:=BR.lt
 replace z0:=BZ.cell
 replace lBZ:=BZ.lt
 go_enter Tryz.func24,Tryz.ntmps24
 go_wp2_with fail
 refine(HS1.out _ hq0).mono ?_
 rintro e U1⟨vs,rfl,hq1,hrow⟩
 have hs1:Q W0 U1:=Q.trans bt hq1
 have hQ1:Q W0 U1:=Q.trans hQ0 hs1
 replace BR:=BR.keep hs1 BR.lt
 replace r0:=BR.cell
 replace lBR:=BR.lt
 replace BZ:=BZ.keep hs1 BZ.lt
 replace z0:=BZ.cell
 replace lBZ:=BZ.lt
 obtain⟨ra,rcap,rfl,-⟩:=id hrow
 clear HS1 hW0
 have hln:(i:Int)<S.length:=by omega
 have hn0:(0:Int)≤i:=by omega
 obtain⟨-,hrw,-⟩:=zcu.at hrow
 obtain⟨b,o,rfl,hd⟩:=hrw i hi
 have d4:U1.cell? ⟨b,o+i*7+4,none⟩=some (.bool (zcw S i).gable):=hd 4 _ rfl
 rw[hg]at d4
 clear hd hrw hrow
 have zf:=BZ.frozen
 have hw3:Q w U1:=Q.trans hq0 hQ1
 have R3:=((BZ.set 0 (.string ⟨#[]⟩)).set 1 (.string ⟨#[]⟩)).set 2 (.string ⟨#[]⟩)
 simp only[List.set_cons_zero,List.set_cons_succ]at R3
 have hQ:=((hw3.setCell (p:=⟨w.heap.size+1,0,none⟩) (by simp) (.string ⟨#[]⟩)).setCell (p:=⟨w.heap.size+1,1,none⟩) (by simp) (.string ⟨#[]⟩)).setCell (p:=⟨w.heap.size+1,2,none⟩) (by simp) (.string ⟨#[]⟩)
 go_wp2
 refine bodyPost_ret (zeb R3 Tryz.f24 4 5 rfl _ _ rfl rfl) rfl ⟨rfl,hQ⟩
theorem zf9(m:Vm)(a:Option Addr)(nn cp:Nat)(i:Nat)(w:World)(hE:Env w)
  (HCP:Hid (∀ b cap ty W,Env W→Q w W→Blk W b m.c ty→CR 23 #[.agg #[.slice a nn cp],.slice (some ⟨b,0,none⟩) 1 cap] W (.int .i64 0)))
  (HFA:Hid (∀ W,Env W→Q w W→CR 24 #[.agg #[.slice a nn cp],.int .i64 i] W (.tuple #[.agg #[.string ⟨#[]⟩,.string ⟨#[]⟩,.string ⟨#[]⟩],.int .i64 18]))) :
  CR 9 #[.agg #[.slice a nn cp],.agg m.c.toArray,.int .i64 i] w (.tuple #[.slice none 0 0,.int .i64 18]):=by
 obtain⟨ki,F,O,f,t,W,D⟩:=m
 unfold Vm.c at *
 simp only at *
 generalize ze f.x=X1 at *
 generalize ze f.y=X2 at *
 generalize ze f.z=X3 at *
 generalize ze t.x=X4 at *
 generalize ze t.y=X5 at *
 generalize ze t.z=X6 at *
 obtain⟨W0,hW0⟩:∃ W0,(w.alloc (.cells #[.slice a nn cp] 28)).alloc (.cells #[.int .i64 ki,.int .i64 F,.int .i64 O,.string ⟨X1.toArray⟩,.string ⟨X2.toArray⟩,.string ⟨X3.toArray⟩,.string ⟨X4.toArray⟩,.string ⟨X5.toArray⟩,.string ⟨X6.toArray⟩,.int .i64 W,.int .i64 D] 37)=W0:=⟨_,rfl⟩
 have hq0:Q w W0:=by rw[← hW0];exact bt
 have BR:Blk W0 w.heap.size [.slice a nn cp] 28:=by rw[← hW0];exact(Blk.new w _ _).alloc _
 have BM:Blk W0 (w.heap.size+1) [.int .i64 ki,.int .i64 F,.int .i64 O,.string ⟨X1.toArray⟩,.string ⟨X2.toArray⟩,.string ⟨X3.toArray⟩,.string ⟨X4.toArray⟩,.string ⟨X5.toArray⟩,.string ⟨X6.toArray⟩,.int .i64 W,.int .i64 D] 37:=by rw[← hW0];exact Blk.new1 w _ _ _
 have hQ0:=Q.refl W0
 replace r0:=BR.cell
 replace lBR:=BR.lt
 replace m0:=BM.cell
 replace lBM:=BM.lt
 go_enter Tryz.func9,Tryz.ntmps9
 have BS:=Blk.new W0 [.int .i64 ki,.int .i64 F,.int .i64 O,.string ⟨X1.toArray⟩,.string ⟨X2.toArray⟩,.string ⟨X3.toArray⟩,.string ⟨X4.toArray⟩,.string ⟨X5.toArray⟩,.string ⟨X6.toArray⟩,.int .i64 W,.int .i64 D] 37
 go_wp2_with fail
 refine cx (HCP.out _ _ _ _ (hE.ofQ (Q.trans hq0 bt)) (Q.trans hq0 bt) BS) fun G1 hq1=>?_
 have hs1:Q W0 G1:=Q.trans bt hq1
 have hQ1:Q W0 G1:=Q.trans hQ0 hs1
 replace BR:=BR.keep hs1 BR.lt
 replace r0:=BR.cell
 replace lBR:=BR.lt
 replace BM:=BM.keep hs1 BM.lt
 replace m0:=BM.cell
 replace lBM:=BM.lt
 clear hW0 HCP BS
 go_wp2_with fail
 refine cx (HFA.out _ (hE.ofQ (Q.trans hq0 hQ1)) (Q.trans hq0 hQ1)) fun G2 hq2=>?_
 have hs2:Q G1 G2:=Q.trans bt hq2
 have hQ2:Q W0 G2:=Q.trans hQ1 hs2
 replace BR:=BR.keep hs2 BR.lt
 replace r0:=BR.cell
 replace lBR:=BR.lt
 replace BM:=BM.keep hs2 BM.lt
 replace m0:=BM.cell
 replace lBM:=BM.lt
 clear HFA
 have hQe:=Q.trans hq0 hQ2
 go_wp2
 go_ret2
 exact⟨rfl,Q.trans hQe bt⟩
end
section
open Go.RowKit Kp
theorem zk7(a:Str)(hl:a.length≤9)(w:World) :
  CR 54 #[.string ⟨a.toArray⟩] w (.int .i64 (zdO a)):=by
 have HSP:=LH (zi1 a (by omega) w)
 unfold splitV at HSP
 have hul:=zeJ a
 have hw:=zsn a _ _ _ _ rfl rfl rfl rfl
 have hnl:(zu (zo a)).length≤9:=by have:=zfU (zo a);omega
 have hdl:(zaJ (zo a)).length≤9:=by
  have:=zf7 (zo a)
  unfold zaJ;split
  ·omega
  ·simp
 generalize zdO a=R at *
 generalize zu (zo a)=n at *
 generalize zaJ (zo a)=d at *
 generalize zG (zo a)=f at *
 generalize decide (a.head? = some 45)=mi at *
 have HDN:=LH (zhQ n (by omega))
 have HDD:=LH (zhQ d (by omega))
 have wrong:∀ s t:Str,(s=t→(s == t)=true)∧(s≠t→(s == t)=false):=fun s t=>⟨fun h=>by rw[beq_iff_eq];exact h,fun h=>by rw[beq_eq_false_iff_ne];exact h⟩
 rcases hw with⟨rfl,hw⟩|⟨h1,h2,hw⟩
 ·rcases hw with h1 | ⟨h1,rfl,h3⟩|⟨h1,rfl,h3,h4⟩|⟨h1,rfl,h3,h4,h5⟩|⟨h1,rfl,h3,h4,h5,rfl,h7⟩|⟨h1,rfl,rfl,h4⟩
  ·rw[h1]at HDN
   clear h1 HDD wrong
   go_enter Tryz.func54,Tryz.ntmps54
   go_wp2_with fail
   refine HSP.out.mono ?_
   rintro e w1⟨rfl,hqr⟩
   go_wp2_with fail
   refine(HDN.out _).mono ?_
   rintro e w2⟨rfl,rfl⟩
   go_wp2
   go_ret
   exact⟨rfl,hqr⟩
  ·rw[h1]at HDN
   rw[h3]at HDD
   clear h1 h3 wrong
   go_enter Tryz.func54,Tryz.ntmps54
   go_wp2_with fail
   refine HSP.out.mono ?_
   rintro e w1⟨rfl,hqr⟩
   go_wp2_with fail
   refine(HDN.out _).mono ?_
   rintro e w2⟨rfl,rfl⟩
   go_wp2_with fail
   refine(HDD.out _).mono ?_
   rintro e w2⟨rfl,rfl⟩
   go_wp2
   go_ret
   exact⟨rfl,hqr⟩
  ·have b4:=(wrong d [48]).1 h4
   rw[h1]at HDN
   rw[h3]at HDD
   clear h1 h3 wrong h4
   go_enter Tryz.func54,Tryz.ntmps54
   go_wp2_with fail
   refine HSP.out.mono ?_
   rintro e w1⟨rfl,hqr⟩
   go_wp2_with fail
   refine(HDN.out _).mono ?_
   rintro e w2⟨rfl,rfl⟩
   go_wp2_with fail
   refine(HDD.out _).mono ?_
   rintro e w2⟨rfl,rfl⟩
   go_wp2
   go_ret
   exact⟨rfl,hqr⟩
  ·have b4:=(wrong d [48]).2 h4
   have b5:=(wrong d [49]).1 h5
   rw[h1]at HDN
   rw[h3]at HDD
   clear h1 h3 wrong h4 h5
   go_enter Tryz.func54,Tryz.ntmps54
   go_wp2_with fail
   refine HSP.out.mono ?_
   rintro e w1⟨rfl,hqr⟩
   go_wp2_with fail
   refine(HDN.out _).mono ?_
   rintro e w2⟨rfl,rfl⟩
   go_wp2_with fail
   refine(HDD.out _).mono ?_
   rintro e w2⟨rfl,rfl⟩
   go_wp2
   go_ret
   exact⟨rfl,hqr⟩
  ·have b4:=(wrong d [48]).2 h4
   have b5:=(wrong d [49]).2 h5
   have b7:=(wrong n [48]).1 h7
   rw[h1]at HDN
   rw[h3]at HDD
   clear h1 h3 wrong h4 h5 h7
   go_enter Tryz.func54,Tryz.ntmps54
   go_wp2_with fail
   refine HSP.out.mono ?_
   rintro e w1⟨rfl,hqr⟩
   go_wp2_with fail
   refine(HDN.out _).mono ?_
   rintro e w2⟨rfl,rfl⟩
   go_wp2_with fail
   refine(HDD.out _).mono ?_
   rintro e w2⟨rfl,rfl⟩
   go_wp2
   go_ret
   exact⟨rfl,hqr⟩
  ·have b7:=(wrong n [48]).1 h4
   rw[h1]at HDN
   clear h1 wrong h4 HDD
   go_enter Tryz.func54,Tryz.ntmps54
   go_wp2_with fail
   refine HSP.out.mono ?_
   rintro e w1⟨rfl,hqr⟩
   go_wp2_with fail
   refine(HDN.out _).mono ?_
   rintro e w2⟨rfl,rfl⟩
   go_wp2
   go_ret
   exact⟨rfl,hqr⟩
 ·rw[h1]at HDN
  have hn48:mi=false∨(mi=true∧(n == [48])=false):=by
   cases mi with
   | false=>exact .inl rfl
   | true=>exact .inr ⟨rfl,(wrong n [48]).2 (h2 rfl)⟩
  clear h1 h2
  rcases hw with⟨rfl,rfl,hw⟩|⟨rfl,h3,h4,h5,hw⟩
  ·clear HDD wrong
   rcases hw with⟨hlen,rfl⟩|⟨hlen,rfl⟩
   ·omega
   ·have hlen':¬ (300:Int)<(n.length:Int):=by omega
    clear hlen
    rcases hn48 with rfl | ⟨rfl,hb⟩
    all_goals
     go_enter Tryz.func54,Tryz.ntmps54
     go_wp2_with fail
     refine HSP.out.mono ?_
     rintro e w1⟨rfl,hqr⟩
     go_wp2_with fail
     refine(HDN.out _).mono ?_
     rintro e w2⟨rfl,rfl⟩
     go_wp2
     go_ret
     exact⟨rfl,hqr⟩
  ·have b4:=(wrong d [48]).2 h4
   have b5:=(wrong d [49]).2 h5
   rw[h3]at HDD
   clear h3 h4 h5
   rcases hw with⟨hlen,rfl⟩|⟨hlen,hlen2,rfl⟩|⟨hlen,hlen2,x,k,rfl,rfl,lx,lk,hr⟩
   ·omega
   ·omega
   ·have hlen':¬ (300:Int)<((Lib.itoa (x:Int)).length:Int):=by omega
    have hlen2':¬ (300:Int)<((Lib.itoa (k:Int)).length:Int):=by omega
    have h9:(Lib.itoa (x:Int)).length≤9∧(Lib.itoa (k:Int)).length≤9:=⟨by omega,by omega⟩
    have h9a:((Lib.itoa (x:Int)).length:Int)≤9:=by omega
    have h9b:((Lib.itoa (k:Int)).length:Int)≤9:=by omega
    have bx:=zjt h9.1
    have bk:=zjt h9.2
    have hs1:=fun w=>zed (Lib.itoa (x:Int)) (by rw[← zA];exact zac x) (by omega) w
    have hs2:=fun w=>zed (Lib.itoa (k:Int)) (by rw[← zA];exact zac k) (by omega) w
    have e1:nval (Lib.itoa (x:Int))=x:=by rw[← zA,zae]
    have e2:nval (Lib.itoa (k:Int))=k:=by rw[← zA,zae]
    rw[e1]at hs1
    rw[e2]at hs2
    have HS1:=LH hs1
    have HS2:=LH hs2
    have HG:=LH (fun w=>zi3 x k w (by omega) (by omega))
    have hR:((((Nat.gcd x k:Nat):Int) == 1)=true∧R=0)∨((((Nat.gcd x k:Nat):Int) == 1)=false∧R=11):=by
     by_cases h:Nat.gcd x k=1
     ·rw[if_pos h]at hr;exact .inl ⟨by rw[beq_iff_eq];omega,hr⟩
     ·rw[if_neg h]at hr;exact .inr ⟨by rw[beq_eq_false_iff_ne];omega,hr⟩
    clear hr
    generalize Nat.gcd x k=g at *
    generalize Lib.itoa (x:Int)=n at *
    generalize Lib.itoa (k:Int)=d at *
    clear hs1 hs2 e1 e2 h9 hlen hlen2 wrong lx lk
    rcases hR with⟨hg1,rfl⟩|⟨hg1,rfl⟩
    all_goals
     first | have hg2:=zbH hg1 | have hg2:=zay hg1
     rcases hn48 with rfl | ⟨rfl,hb⟩
     all_goals
      go_enter Tryz.func54,Tryz.ntmps54
      go_wp2_with fail
      refine HSP.out.mono ?_
      rintro e w1⟨rfl,hqr⟩
      go_wp2_with fail
      refine(HDN.out _).mono ?_
      rintro e w2⟨rfl,rfl⟩
      go_wp2_with fail
      refine(HDD.out _).mono ?_
      rintro e w2⟨rfl,rfl⟩
      go_wp2_with fail
      refine(HS1.out _).mono ?_
      rintro e w2⟨rfl,rfl⟩
      go_wp2_with fail
      refine(HS2.out _).mono ?_
      rintro e w2⟨rfl,rfl⟩
      go_wp2_with fail
      refine cx (HG.out _) fun w2 hq2=>?_
      replace hq2:=Q.trans hqr hq2
      go_wp2
      go_ret
      exact⟨rfl,hq2⟩
theorem zdM(q:Rat)(h:zah q=false)(hl:(ze q).length≤9)(w:World) :
  CR 54 #[.string ⟨(ze q).toArray⟩] w (.int .i64 0):=by
 have H:=zk7 (ze q) hl w
 rw[zdN,h]at H
 exact H
theorem zo0(a:Str):a.length≤(zo a).length+1:=by
 unfold zo;split
 ·rw[List.length_tail];omega
 ·omega
theorem zkn{n:Nat}{q:Rat}(h:Bd n q)(hn:n≤3):(ze q).length≤9:=by
 have h':=h.mono hn
 have h1:(Lib.itoa q.num).length≤4:=by
  have:=(zjP h').1
  have h2:=zo0 (Lib.itoa q.num)
  omega
 have h2:=(zjP h').2
 unfold ze;split
 ·omega
 ·rw[zA,List.length_append,List.length_cons];omega
theorem zk6(x y:Rat)(hx:Bd 3 x)(hy:Bd 3 y)(w:World) :
  CR 19 #[.string ⟨(ze x).toArray⟩,.string ⟨(ze y).toArray⟩] w (.int .i64 0):=by
 have H1:=LH (zdM x (hx.zah (by decide)) (zkn hx (by decide)) w)
 have H2:=LH (fun w=>zdM y (hy.zah (by decide)) (zkn hy (by decide)) w)
 generalize ze x=X at *
 generalize ze y=Y at *
 go_enter Tryz.func19,Tryz.ntmps19
 go_wp2_with fail
 refine H1.out.mono ?_
 rintro e w1⟨rfl,hq1⟩
 go_wp2_with fail
 refine cx (H2.out _) fun w2 hq2=>?_
 have hQ2:=Q.trans hq1 hq2
 go_wp2
 go_ret
 exact⟨rfl,hQ2⟩
theorem zef(x y:Rat)(hx0:0≤x.num)(hy0:0<y.num)(hx:Bd 3 x)(hy:Bd 3 y)(w:World) :
  CR 7 #[.string ⟨(ze x).toArray⟩,.string ⟨(ze y).toArray⟩] w (.tuple #[.string ⟨(ze (x / y)).toArray⟩,.int .i64 0]):=by
 obtain⟨xn,hxn⟩:=Int.eq_ofNat_of_zero_le hx0
 obtain⟨yn,hyn⟩:=Int.eq_ofNat_of_zero_le (Int.le_of_lt hy0)
 have hny:x.num*(y.den:Int)=((xn*y.den:Nat):Int):=by rw[hxn];simp
 have hdy:(x.den:Int)*y.num=((x.den*yn:Nat):Int):=by rw[hyn];simp
 have hv:Rat.divInt ((xn*y.den:Nat):Int) ((x.den*yn:Nat):Int)=x / y:=by rw[← hny,← hdy,← Rat.div_is,Int.mul_comm (x.den:Int)]
 have hk:0<x.den*yn:=Nat.mul_pos x.den_pos (by omega)
 have HC:=LH (zk6 x y hx hy w)
 have hy48:(ze y == [48])=false:=by
  rw[beq_eq_false_iff_ne]
  intro e
  have e2:ze y=ze 0:=by rw[e,zaw]
  rw[zaS e2]at hy0
  exact absurd hy0 (by decide)
 obtain⟨b1,b2⟩:=hx
 obtain⟨b3,b4⟩:=hy
 have m1:=zuP (a:=xn) (b:=y.den) (by omega) (by omega)
 have m2:=zuP (a:=x.den) (b:=yn) (by omega) (by omega)
 have HI1:=LH (fun w=>zev x ⟨by omega,by omega⟩ w)
 have HI2:=LH (fun w=>zev y ⟨by omega,by omega⟩ w)
 have HQ:=LH (fun w=>zeQ (xn*y.den) (x.den*yn) hk (by omega) (by omega) w)
 rw[hv,← hny,← hdy]at HQ
 have hw1:=Go.IntWalk.i64_in (x.num*(y.den:Int)) (by omega)
 have hw2:=Go.IntWalk.i64_in ((x.den:Int)*y.num) (by omega)
 have hm0:¬ y.num<0:=by omega
 clear hv hk hny hdy m1 m2 b1 b2 b3 b4 hxn hyn hx0 hy0
 generalize ze (x / y)=R at *
 generalize ze x=X at *
 generalize ze y=Y at *
 generalize x.num=n at *
 generalize y.num=m at *
 generalize (x.den:Int)=d at *
 generalize (y.den:Int)=c at *
 go_enter Tryz.func7,Tryz.ntmps7
 go_wp2_with fail
 refine HC.out.mono ?_
 rintro e w1⟨rfl,hq1⟩
 go_wp2_with fail
 refine cx (HI1.out _) fun w2 hq2=>?_
 have hQ2:=Q.trans hq1 hq2
 go_wp2_with fail
 refine cx (HI2.out _) fun w3 hq3=>?_
 have hQ3:=Q.trans hQ2 hq3
 go_wp2_with fail
 refine cx (HQ.out _) fun w4 hq4=>?_
 have hQ4:=Q.trans hQ3 hq4
 go_wp2
 go_ret2
 exact⟨rfl,hQ4⟩
end
section
open Go.RowKit Go.Shelf Kp
def bkM(q r z:Rat):Vm:=⟨6,3,0,⟨0,0,0⟩,bkD q r z,50,100⟩
theorem zpY(q r z:Rat):(bkM q r z).t.sub (bkM q r z).f=bkD q r z:=by
 show P3.sub (bkD q r z) ⟨0,0,0⟩=bkD q r z
 unfold P3.sub bkD
 congr 1 <;> (dsimp only;grind)
theorem zrm{q r z:Rat}(hq:Pit q)(hr:Pit r)(hz:0<z)(bz:Bd 3 z):VmOk (bkM q r z) :=
 ⟨⟨(by decide:(1:Int)≤6),(by decide:(6:Int)≤12),(by decide:(1:Int)≤50),(by decide:(50:Int)≤1000),(by decide:(1:Int)≤100),(by decide:(100:Int)≤1000)⟩,⟨(by decide:(0:Int)≤3),(by decide:(-1:Int)≤0)⟩,⟨zf5 0,zf5 0,zf5 0⟩,zus hq hr bz,fun e=>by
  have h:(0:Rat)=z:=congrArg P3.z e
  rw[← h]at hz
  exact absurd hz (by decide)⟩
theorem zru{x:Rat}(h:0<x):zeA x=x:=by
 unfold zeA
 rw[if_neg (by have:=npos h;omega)]
theorem zrv{x:Rat}(h:0<x):zeA (-x)=x:=by rw[zsC,zru h]
theorem zuK{q r z:Rat}(hq:Pit q)(hr:Pit r)(hz:0<z):zhJ q 0 (bkD q r z)=[(q*(z / r),1 / (z*z*zel q r))]:=by
 have h:q*(bkD q r z).y - 0*(bkD q r z).x=q*(z / r):=by
  show q*(z / r) - 0*(z / q)=_
  grind
 unfold zhJ
 rw[zn0 hq hr,h,zru (Rat.mul_pos hq.pos (zbV hz hr.pos))]
theorem zuL{q r z:Rat}(hq:Pit q)(hr:Pit r)(hz:0<z):zhJ 0 r (bkD q r z)=[(r*(z / q),1 / (z*z*zel q r))]:=by
 have h:0*(bkD q r z).y - r*(bkD q r z).x = -(r*(z / q)):=by
  show 0*(z / r) - r*(z / q)=_
  grind
 unfold zhJ
 rw[zn0 hq hr,h,zrv (Rat.mul_pos hr.pos (zbV hz hq.pos))]
theorem zuq{q r z:Rat}(hq:Pit q)(hr:Pit r)(hz:0<z)(bz:Bd 3 z):0<q*(z / r)∧Bd 7 (q*(z / r))∧q*(z / r) / z=q / r :=
 ⟨Rat.mul_pos hq.pos (zbV hz hr.pos),hq.bd.mul (bz.quot hr.bd (npos hr.pos)),by
  have h1:=zaa hz
  have h2:=zaa hr.pos
  grind⟩
theorem zur{q r z:Rat}(hq:Pit q)(hr:Pit r)(hz:0<z)(bz:Bd 3 z):0<r*(z / q)∧Bd 7 (r*(z / q))∧r*(z / q) / z=r / q :=
 ⟨Rat.mul_pos hr.pos (zbV hz hq.pos),hr.bd.mul (bz.quot hq.bd (npos hq.pos)),by
  have h1:=zaa hz
  have h2:=zaa hq.pos
  grind⟩
theorem zhH(a b c d:Int):[bkR a b c d].flatten=bkR a b c d:=by simp
theorem zsp{a b c d:Int}(h:Pt a b)(k:Pt c d)(av:Option Addr)(nn cp:Nat)(w:World)(hv:zgb w (.slice av nn cp) [bkR a b c d])(W:World)(hE:Env W)(hq:Q w W) :
  CR 24 #[.agg #[.slice av nn cp],.int .i64 3] W (.tuple #[.agg #[.string ⟨(ze (Rat.divInt a b)).toArray⟩,.string ⟨(ze 0).toArray⟩,.string ⟨(ze 0).toArray⟩],.int .i64 0]):=by
 obtain⟨e1,e2,e3⟩:=zrl h true
 have hf:=zhI [bkR a b c d] (zso h k) (by simp) av nn cp 3 (by rw[zhH];show 3<4;decide) (by rw[zhH];rfl) _ (zuI a b c d) e3 W hE (hv.keep hq)
 have hp:zol ⟨true,0,1,Rat.divInt b a,0⟩=[.string ⟨(ze (Rat.divInt a b)).toArray⟩,.string ⟨(ze 0).toArray⟩,.string ⟨(ze 0).toArray⟩]:=by
  unfold zol
  rw[if_pos rfl,e1,e2,zaw,Rat.divInt_eq_div]
 rw[hp]at hf
 exact hf
theorem zsq{a b c d:Int}(h:Pt a b)(k:Pt c d)(av:Option Addr)(nn cp:Nat)(w:World)(hv:zgb w (.slice av nn cp) [bkR a b c d])(W:World)(hE:Env W)(hq:Q w W) :
  CR 24 #[.agg #[.slice av nn cp],.int .i64 0] W (.tuple #[.agg #[.string ⟨(ze 0).toArray⟩,.string ⟨(ze (Rat.divInt c d)).toArray⟩,.string ⟨(ze 0).toArray⟩],.int .i64 0]):=by
 obtain⟨e1,e2,e3⟩:=zrl k false
 have hf:=zhI [bkR a b c d] (zso h k) (by simp) av nn cp 0 (by rw[zhH];show 0<4;decide) (by rw[zhH];rfl) _ (zuJ a b c d) e3 W hE (hv.keep hq)
 have hp:zol ⟨false,0,1,Rat.divInt d c,0⟩=[.string ⟨(ze 0).toArray⟩,.string ⟨(ze (Rat.divInt c d)).toArray⟩,.string ⟨(ze 0).toArray⟩]:=by
  unfold zol
  rw[if_neg (show ¬ (false=true) by decide),e1,e2,zaw,Rat.divInt_eq_div]
 rw[hp]at hf
 exact hf
theorem zsr(a b c d:Int):zaz [bkR a b c d]≤1000:=by
 rw[show zaz [bkR a b c d]=4 from rfl]
 decide
theorem zlI{a b c d:Int}(h:Pt a b)(k:Pt c d){q r z:Rat}(hq:Pit q)(hr:Pit r)(hz:0<z)(bz:Bd 3 z)(av:Option Addr)(nn cp:Nat)(w:World)(hv:zgb w (.slice av nn cp) [bkR a b c d])(b1 cap:Nat)(ty:TypeId)(W:World)(hE:Env W)(hqw:Q w W)(hb:Blk W b1 (bkM q r z).c ty) :
  CR 23 #[.agg #[.slice av nn cp],.slice (some ⟨b1,0,none⟩) 1 cap] W (.int .i64 0) :=
 zff [bkR a b c d] (zso h k) (by simp) (zsr a b c d) av nn cp [bkM q r z] (fun m hm=>by rw[List.mem_singleton]at hm;rw[hm];exact zrm hq hr hz bz) (by simp) b1 cap ty W hE (hv.keep hqw) (by rw[List.flatMap_cons,List.flatMap_nil,List.append_nil];exact hb)
theorem znX{a b c d:Int}(h:Pt a b)(k:Pt c d){q r z:Rat}(hq:Pit q)(hr:Pit r)(hz:0<z)(bz:Bd 3 z)(av:Option Addr)(nn cp:Nat)(w:World)(hv:zgb w (.slice av nn cp) [bkR a b c d])(hqe:q=Rat.divInt a b)(W:World)(hE:Env W)(hqw:Q w W) :
  Calls Tryz.prog 9 #[.agg #[.slice av nn cp],.agg (bkM q r z).c.toArray,.int .i64 3] W (zm3 W (bkL (q*(z / r)) q r z)):=by
 obtain⟨h1,h2,-⟩:=zuq hq hr hz bz
 obtain⟨C,hC,hCL,-⟩:=znW hq hr hz bz h1 h2
 have hb:=zes (bkM q r z) (zrm hq hr hz bz) q 0 0 (hq.bd.mono (by decide)) (ztJ 0) (by rw[zpY];show q*(z / q)+0*(z / r)=z;have:=zaa hq.pos;grind) (by rw[zpY];exact zjO hq hr hz) av nn cp 3 W hE
  (LH (fun b1 cap ty W' hW hq' hb=>zlI h k hq hr hz bz av nn cp w hv b1 cap ty W' hW (Q.trans hqw hq') hb))
  (LH (fun W' hW hq'=>by rw[hqe];exact zsp h k av nn cp w hv W' hW (Q.trans hqw hq')))
 rw[zpY,zuK hq hr hz]at hb
 rw[← hCL]
 exact hb.mono fun _ _ h=>h.a hC
theorem znZ{a b c d:Int}(h:Pt a b)(k:Pt c d){q r z:Rat}(hq:Pit q)(hr:Pit r)(hz:0<z)(bz:Bd 3 z)(av:Option Addr)(nn cp:Nat)(w:World)(hv:zgb w (.slice av nn cp) [bkR a b c d])(hre:r=Rat.divInt c d)(W:World)(hE:Env W)(hqw:Q w W) :
  Calls Tryz.prog 9 #[.agg #[.slice av nn cp],.agg (bkM q r z).c.toArray,.int .i64 0] W (zm3 W (bkL (r*(z / q)) q r z)):=by
 obtain⟨h1,h2,-⟩:=zur hq hr hz bz
 obtain⟨C,hC,hCL,-⟩:=znW hq hr hz bz h1 h2
 have hb:=zes (bkM q r z) (zrm hq hr hz bz) 0 r 0 (ztJ 0) (hr.bd.mono (by decide)) (by rw[zpY];show 0*(z / q)+r*(z / r)=z;have:=zaa hr.pos;grind) (by rw[zpY];exact zjO hq hr hz) av nn cp 0 W hE
  (LH (fun b1 cap ty W' hW hq' hb=>zlI h k hq hr hz bz av nn cp w hv b1 cap ty W' hW (Q.trans hqw hq') hb))
  (LH (fun W' hW hq'=>by rw[hre];exact zsq h k av nn cp w hv W' hW (Q.trans hqw hq')))
 rw[zpY,zuL hq hr hz]at hb
 rw[← hCL]
 exact hb.mono fun _ _ h=>h.a hC
theorem znY{a b c d:Int}(h:Pt a b)(k:Pt c d){q r z:Rat}(hq:Pit q)(hr:Pit r)(hz:0<z)(bz:Bd 3 z)(av:Option Addr)(nn cp:Nat)(w:World)(hv:zgb w (.slice av nn cp) [bkR a b c d])(W:World)(hE:Env W)(hqw:Q w W) :
  CR 9 #[.agg #[.slice av nn cp],.agg (bkM q r z).c.toArray,.int .i64 1] W (.tuple #[.slice none 0 0,.int .i64 18]) :=
 zf9 (bkM q r z) av nn cp 1 W hE
  (LH (fun b1 cap ty W' hW hq' hb=>zlI h k hq hr hz bz av nn cp w hv b1 cap ty W' hW (Q.trans hqw hq') hb))
  (LH (fun W' _ hq'=>zir [bkR a b c d] (zso h k) (by simp) av nn cp 1 (by rw[zhH];show 1<4;decide) (by rw[zhH];rfl) W' (hv.keep (Q.trans hqw hq'))))
theorem zsS{q r z c:Rat}(hq:Pit q)(hr:Pit r)(hz:0<z)(bz:Bd 3 z)(hc:0<c)(bc:Bd 7 c)(B1 B2:Nat)(v1 v2:Value)(w:World)(hE:Env w)(h1:zH w B1 v1 (bkL c q r z))(h2:zH w B2 v2 (zpF q r)) :
  Calls Tryz.prog 11 #[v1,v2] w (zm3 w [(c / z,1)]):=by
 obtain⟨-,-,-,f1,s1⟩:=znW hq hr hz bz hc bc
 obtain⟨-,-,-,f2,s2⟩:=zow hq hr
 obtain⟨hvm,C,hC,hCL⟩:=ztH hq hr hz bz hc bc
 refine(znc _ _ (f1.slist s1) (f2.slist s2) (by simp[bkL,zpF]) hvm B1 B2 v1 v2 w hE h1 h2).mono ?_
 rintro e y⟨hqy,-,hs⟩
 obtain⟨v,rfl,hv⟩:=hs C hC
 rw[hCL]at hv
 exact⟨v,rfl,hqy,hv⟩
theorem zH.num(q:Rat)(w:World):zH (w.alloc (.cells #[.string ⟨(ze q).toArray⟩,.string ⟨#[49]⟩] 47)) w.heap.size (.slice (some ⟨w.heap.size,0,none⟩) 1 1) [(q,1)]:=by
 have e:[(q,1)].map ofC=[(ze q,[49])]:=by
  rw[List.map_cons,List.map_nil]
  unfold ofC
  rw[show Lib.itoa ((1:Nat):Int)=[49]from by kernel_rfl]
 unfold zH
 rw[e]
 have er:zca [(ze q,[49])]=[.string ⟨(ze q).toArray⟩,.string ⟨#[49]⟩]:=rfl
 rw[er]
 exact⟨rfl,.inr ⟨w.heap.size,1,_,rfl,Nat.le_refl _,Blk.new w [.string ⟨(ze q).toArray⟩,.string ⟨#[49]⟩] 47,by simp,by unfold maxLen;simp⟩⟩
theorem zua{x:Rat}{n:Nat}(h:0<x)(b:Bd n x)(hn:n≤60)(h1:1≤n):FA [(x,1)]∧∀ c∈[(x,1)],zbq c=true:=by
 refine⟨.inl ⟨x,1,rfl,zaa h,zon⟩,fun c hc=>?_⟩
 rw[List.mem_singleton]at hc
 subst hc
 unfold zbq
 have l1:=zdq b h1
 have l2:=zdq (q:=((1:Nat):Rat)) (n:=1) zbs (by decide)
 simp only[Bool.and_eq_true,decide_eq_true_eq]
 exact⟨by omega,by omega⟩
theorem zoM{x:Rat}{n:Nat}(h:0<x)(b:Bd n x)(hn:n≤60)(h1:1≤n)(B1:Nat)(v1:Value)(w w0:World)(hE:Env w)(hw:w=w0.alloc (.cells #[.string ⟨(ze x).toArray⟩,.string ⟨#[49]⟩] 47))(hv:zH w B1 v1 [(x,1)]) :
  CR 12 #[v1,.slice (some ⟨w0.heap.size,0,none⟩) 1 1] w (.bool true):=by
 obtain⟨f,s⟩:=zua h b hn h1
 subst hw
 exact zpN f s B1 w0.heap.size v1 _ _ hE hv (zH.num x w0)
end
end Go.Proofs.YthdpnkkddhcacaaGreatDoor
