/-
  Walks of package bevel: the side cut of a rafter along another member.; Walks of package bevel: the backings of a hip.
-/
import Derived.Test.YthdpnkkddhcacaaGreatDoorBK23
import Derived.Test.YthdpnkkddhcacaaGreatDoorBK22
set_option maxRecDepth 100000
set_option maxHeartbeats 8000000
namespace Go.Proofs.YthdpnkkddhcacaaGreatDoor
section
open Go.RowKit Go.Shelf Kp
attribute [local go_sem] Oper.semAt_some
def zjM(A B:Rat)(d v:P3):List (Rat × Rat):=[(zeA (flR d v) / zeA (coR d v),1+(A*A+B*B))]
theorem zn2(m n:Vm)(hm:VmOk m)(hn:VmOk n)(hk:1≤m.k)(hk5:m.k≤5)(A B C:Rat)(bA:Bd 10 A)(bB:Bd 10 B)(hc0:coR (m.t.sub m.f) (n.t.sub n.f)≠0)(hd0:flR (m.t.sub m.f) (m.t.sub m.f)≠0)(hv0:flR (n.t.sub n.f) (n.t.sub n.f)≠0)(a:Option Addr)(nn cp:Nat)(w:World)(hE:Env w)
  (HCP:Hid (∀ b cap ty W,Env W→Q w W→Blk W b (m.c++n.c) ty→CR 23 #[.agg #[.slice a nn cp],.slice (some ⟨b,0,none⟩) 2 cap] W (.int .i64 0)))
  (HFA:Hid (∀ W,Env W→Q w W→CR 24 #[.agg #[.slice a nn cp],.int .i64 m.F] W (.tuple #[.agg #[.string ⟨(ze A).toArray⟩,.string ⟨(ze B).toArray⟩,.string ⟨(ze C).toArray⟩],.int .i64 0]))) :
  Calls Tryz.prog 43 #[.agg #[.slice a nn cp],.agg m.c.toArray,.agg n.c.toArray] w (MkP w (zjM A B (m.t.sub m.f) (n.t.sub n.f))):=by
 have HD:=LH (fun b w hw hb=>zb1 m.k m.F m.O m.W m.D m.f m.t hm.f hm.t (by decide) b w hw hb)
 have HD2:=LH (fun b w hw hb=>zb1 n.k n.F n.O n.W n.D n.f n.t hn.f hn.t (by decide) b w hw hb)
 have bu:B3 25 (m.t.sub m.f):=⟨zcP hm.t.1 hm.f.1,zcP hm.t.2.1 hm.f.2.1,zcP hm.t.2.2 hm.f.2.2⟩
 have bv:B3 25 (n.t.sub n.f):=⟨zcP hn.t.1 hn.f.1,zcP hn.t.2.1 hn.f.2.1,zcP hn.t.2.2 hn.f.2.2⟩
 generalize m.t.sub m.f=u at *
 generalize n.t.sub n.f=v at *
 clear hm hn
 have HUV:=LH (fun b w hw hb=>zd2 u v bu bv (by decide) b w hw hb)
 have HCO:=LH (fun b w hw hb=>zpV u v bu bv (by decide) b w hw hb)
 have HUU:=LH (fun b w hw hb=>zd2 u u bu bu (by decide) b w hw hb)
 have HVV:=LH (fun b w hw hb=>zd2 v v bv bv (by decide) b w hw hb)
 have HS1:=LH (fun w=>(zd3 (flR u v) w).mono fun e w' h=>(show e=_∧Q w w' from⟨h.1,by rw[h.2];exact Q.refl _⟩))
 have HS2:=LH (fun w=>(zd3 (coR u v) w).mono fun e w' h=>(show e=_∧Q w w' from⟨h.1,by rw[h.2];exact Q.refl _⟩))
 have bco:Bd 101 (zeA (coR u v)):=zhK ((zcP (bu.1.mul bv.2.1) (bu.2.1.mul bv.1)).mono (by decide))
 have buv:Bd 101 (zeA (flR u v)):=zhK (((bu.1.mul bv.1).add (bu.2.1.mul bv.2.1)).mono (by decide))
 have bab:Bd 50 (A*A+B*B):=((bA.mul bA).add (bB.mul bB)).mono (by decide)
 have bsq:Bd 60 (1+(A*A+B*B)):=(zbs.add bab).mono (by decide)
 have HAA:=LH (fun b w hw hb=>zcr A A bA bA (by decide) b w hw hb)
 have HBB:=LH (fun b w hw hb=>zcr B B bB bB (by decide) b w hw hb)
 have HAB:=LH (fun b w hw hb=>zg4 (A*A) (B*B) (bA.mul bA) (bB.mul bB) (by decide) b w hw hb)
 have h1:=fun b w hw hb=>zg4 1 (A*A+B*B) zbs bab (by decide) b w hw hb
 rw[zb4]at h1
 have H1:=LH h1
 have pco:=npos (zlM hc0)
 have HV:=LH (fun b w hw hb=>ziC (zeA (flR u v)) (zeA (coR u v)) buv bco (by omega) (by decide) b w hw hb)
 have nz:∀ {q:Rat},q≠0→(ze q == [48])=false:=fun {q} h=>by
  rw[beq_eq_false_iff_ne,← zaw];exact fun e=>h (zaS e)
 have z1:=nz (zaa (zlM hc0))
 have z2:=nz hd0
 have z3:=nz hv0
 have htw:∀ t∈zjM A B u v,TW t:=fun t ht=>by
  obtain rfl:=List.mem_singleton.1 ht
  refine⟨(buv.quot bco pco).zah (by decide),bsq.zah (by decide),Rat.num_nonneg.2 ?_⟩
  exact Rat.add_nonneg (by decide) (Rat.add_nonneg (sq_nonneg _) (sq_nonneg _))
 have hmk:=fun b v' w hw hb hv=>zg3 (zjM A B u v) htw (by unfold zjM;simp) b v' w hw hb hv
 rw[show (zjM A B u v).map ofT=[(ze (zeA (flR u v) / zeA (coR u v)),ze (1+(A*A+B*B)))]from rfl]at hmk
 have HM:=LH hmk
 clear hmk htw h1 bco buv bab bsq bu bv bA bB hc0 hd0 hv0 nz pco
 generalize zjM A B u v=T at *
 generalize ze (zeA (flR u v) / zeA (coR u v))=SH at *
 generalize ze (1+(A*A+B*B))=SQ at *
 generalize ze (A*A+B*B)=AB at *
 generalize ze (A*A)=AA at *
 generalize ze (B*B)=BB at *
 generalize ze (zeA (flR u v))=AF at *
 generalize ze (zeA (coR u v))=AC at *
 generalize ze (flR u v)=UV at *
 generalize ze (coR u v)=CO at *
 generalize ze (flR u u)=UU at *
 generalize ze (flR v v)=VV at *
 generalize ze A=SA at *
 generalize ze B=SB at *
 generalize ze C=SC at *
 obtain⟨k,F,O,f,t,W,D⟩:=m
 obtain⟨k',F',O',f',t',W',D'⟩:=n
 unfold Vm.c at *
 unfold VN V3 at HD HD2
 unfold V3 at HUV HCO HUU HVV
 simp only[List.cons_append,List.nil_append]at *
 generalize ze u.x=UX at *
 generalize ze u.y=UY at *
 generalize ze u.z=UZ at *
 generalize ze v.x=VX at *
 generalize ze v.y=VY at *
 generalize ze v.z=VZ at *
 generalize ze f.x=P1 at *
 generalize ze f.y=P2 at *
 generalize ze f.z=P3 at *
 generalize ze t.x=Q1 at *
 generalize ze t.y=Q2 at *
 generalize ze t.z=Q3 at *
 generalize ze f'.x=R1 at *
 generalize ze f'.y=R2 at *
 generalize ze f'.z=R3 at *
 generalize ze t'.x=S1 at *
 generalize ze t'.y=S2 at *
 generalize ze t'.z=S3 at *
 obtain⟨W0,hW0⟩:∃ W0,((w.alloc (.cells #[.slice a nn cp] 28)).alloc (.cells #[.int .i64 k,.int .i64 F,.int .i64 O,.string ⟨P1.toArray⟩,.string ⟨P2.toArray⟩,.string ⟨P3.toArray⟩,.string ⟨Q1.toArray⟩,.string ⟨Q2.toArray⟩,.string ⟨Q3.toArray⟩,.int .i64 W,.int .i64 D] 37)).alloc (.cells #[.int .i64 k',.int .i64 F',.int .i64 O',.string ⟨R1.toArray⟩,.string ⟨R2.toArray⟩,.string ⟨R3.toArray⟩,.string ⟨S1.toArray⟩,.string ⟨S2.toArray⟩,.string ⟨S3.toArray⟩,.int .i64 W',.int .i64 D'] 37)=W0:=⟨_,rfl⟩
 have hq0:Q w W0:=by rw[← hW0];exact bt
 have BR:Blk W0 w.heap.size [.slice a nn cp] 28:=by rw[← hW0];exact((Blk.new w _ _).alloc _).alloc _
 have BM:Blk W0 (w.heap.size+1) [.int .i64 k,.int .i64 F,.int .i64 O,.string ⟨P1.toArray⟩,.string ⟨P2.toArray⟩,.string ⟨P3.toArray⟩,.string ⟨Q1.toArray⟩,.string ⟨Q2.toArray⟩,.string ⟨Q3.toArray⟩,.int .i64 W,.int .i64 D] 37:=by rw[← hW0];exact(Blk.new1 w _ _ _).alloc _
 have BN:Blk W0 (w.heap.size+2) [.int .i64 k',.int .i64 F',.int .i64 O',.string ⟨R1.toArray⟩,.string ⟨R2.toArray⟩,.string ⟨R3.toArray⟩,.string ⟨S1.toArray⟩,.string ⟨S2.toArray⟩,.string ⟨S3.toArray⟩,.int .i64 W',.int .i64 D'] 37:=by rw[← hW0];exact Blk.new2 w _ _ _ _
 have k1:¬ k<1:=by omega
 have k2:¬ 5<k:=by omega
 have hQ0:=Q.refl W0
 replace r0:=BR.cell
 replace lBR:=BR.lt
 replace m0:=BM.cell
 replace lBM:=BM.lt
 replace n0:=BN.cell
 replace lBN:=BN.lt
 go_enter Tryz.func43,Tryz.ntmps43
 have BS:=Blk.new W0 [.int .i64 k,.int .i64 F,.int .i64 O,.string ⟨P1.toArray⟩,.string ⟨P2.toArray⟩,.string ⟨P3.toArray⟩,.string ⟨Q1.toArray⟩,.string ⟨Q2.toArray⟩,.string ⟨Q3.toArray⟩,.int .i64 W,.int .i64 D,.int .i64 k',.int .i64 F',.int .i64 O',.string ⟨R1.toArray⟩,.string ⟨R2.toArray⟩,.string ⟨R3.toArray⟩,.string ⟨S1.toArray⟩,.string ⟨S2.toArray⟩,.string ⟨S3.toArray⟩,.int .i64 W',.int .i64 D'] 37
 go_wp2_with fail
 refine cx (HCP.out _ _ _ _ (hE.ofQ (Q.trans hq0 bt)) (Q.trans hq0 bt) BS) fun G1 hq1=>?_
 have hs1:Q W0 G1:=Q.trans bt hq1
 have hQ1:Q W0 G1:=Q.trans hQ0 hs1
 replace BR:=BR.keep hs1 BR.lt
 replace r0:=BR.cell
 replace lBR:=BR.lt
 replace BM:=BM.keep hs1 BM.lt
 replace m0:=BM.cell
 replace lBM:=BM.lt
 replace BN:=BN.keep hs1 BN.lt
 replace n0:=BN.cell
 replace lBN:=BN.lt
 clear hW0 HCP BS
 go_wp2_with fail
 refine cx (HFA.out _ (hE.ofQ (Q.trans hq0 hQ1)) (Q.trans hq0 hQ1)) fun G2 hq2=>?_
 have hs2:Q G1 G2:=Q.trans bt hq2
 have hQ2:Q W0 G2:=Q.trans hQ1 hs2
 replace BR:=BR.keep hs2 BR.lt
 replace r0:=BR.cell
 replace lBR:=BR.lt
 replace BM:=BM.keep hs2 BM.lt
 replace m0:=BM.cell
 replace lBM:=BM.lt
 replace BN:=BN.keep hs2 BN.lt
 replace n0:=BN.cell
 replace lBN:=BN.lt
 clear HFA
 have BP0:=(Blk.new G2 [.string ⟨SA.toArray⟩,.string ⟨SB.toArray⟩,.string ⟨SC.toArray⟩] 62).alloc (.cells [.int .i64 0].toArray 67)
 have C0:zaA _ (G2.heap.size+1):=Blk.new1 G2 (.cells ([.string ⟨SA.toArray⟩,.string ⟨SB.toArray⟩,.string ⟨SC.toArray⟩]:List Value).toArray 62) [.int .i64 0] 67
 clear BR lBR r0
 go_wp2_with fail
 obtain⟨W1,hW1⟩:∃ W1,(G2.alloc (.cells #[.string ⟨SA.toArray⟩,.string ⟨SB.toArray⟩,.string ⟨SC.toArray⟩] 62)).alloc (.cells #[.int .i64 0] 67)=W1:=⟨_,rfl⟩
 have hqW:Q G2 W1:=by rw[← hW1];exact bt
 have BP:Blk W1.drew G2.heap.size [.string ⟨SA.toArray⟩,.string ⟨SB.toArray⟩,.string ⟨SC.toArray⟩] 62:=by rw[← hW1];exact BP0.drew
 have hcd:zaA W1.drew (G2.heap.size+1):=by rw[← hW1];exact C0.keep bt
 rw[hW1]
 clear hW1 BP0 C0
 have hwd:Q w W1.drew:=Q.trans hq0 (Q.trans hQ2 (Q.trans hqW bt))
 have hEd:Env W1.drew:=hE.ofQ hwd
 replace BM:=BM.keep (Q.trans hqW (Below.drew (Q.refl W1))) BM.lt
 replace BN:=BN.keep (Q.trans hqW (Below.drew (Q.refl W1))) BN.lt
 clear hq0 hq1 hq2 hs1 hs2 hQ0 hQ1 hQ2 hqW m0 lBM n0 lBN
 replace d0:=BM.cell 0
 replace d1:=BM.cell 1
 replace d2:=BM.cell 2
 replace d3:=BM.cell 3
 replace d4:=BM.cell 4
 replace d5:=BM.cell 5
 replace d6:=BM.cell 6
 replace d7:=BM.cell 7
 replace d8:=BM.cell 8
 replace d9:=BM.cell 9
 replace d10:=BM.cell 10
 simp only[zs4,zs5]at d0 d1 d2 d3 d4 d5 d6 d7 d8 d9 d10
 replace lBM:=BM.lt
 replace e0:=BN.cell 0
 replace e1:=BN.cell 1
 replace e2:=BN.cell 2
 replace e3:=BN.cell 3
 replace e4:=BN.cell 4
 replace e5:=BN.cell 5
 replace e6:=BN.cell 6
 replace e7:=BN.cell 7
 replace e8:=BN.cell 8
 replace e9:=BN.cell 9
 replace e10:=BN.cell 10
 simp only[zs4,zs5]at e0 e1 e2 e3 e4 e5 e6 e7 e8 e9 e10
 replace lBN:=BN.lt
 generalize G2.heap.size+1=gc at *
 generalize G2.heap.size=gp at *
 refine RF.zm (ρ:=zp4 W1.drew.heap.size) 10 (by kernel_rfl) (by kernel_rfl) rfl ?_
 refine RF.svp 0 ?_
 refine RF.svq 1 rfl (by intro w' hq;have hc0:=za (hq (Nat.le_refl _)) d0;have hc1:=za (hq (Nat.le_refl _)) d1;have hc2:=za (hq (Nat.le_refl _)) d2;have hc3:=za (hq (Nat.le_refl _)) d3;have hc4:=za (hq (Nat.le_refl _)) d4;have hc5:=za (hq (Nat.le_refl _)) d5;have hc6:=za (hq (Nat.le_refl _)) d6;have hc7:=za (hq (Nat.le_refl _)) d7;have hc8:=za (hq (Nat.le_refl _)) d8;have hc9:=za (hq (Nat.le_refl _)) d9;have hc10:=za (hq (Nat.le_refl _)) d10;go_simp;try with_reducible rfl) ?_
 refine RF.zh (i:=2) (v:=_) rfl rfl (by kernel_rfl) (by kernel_rfl) (fun _ _ _ h=>h) (by rfl) ?_ (fun w' hq=>HD.out _ w' (hEd.ofQ (hq (Nat.le_refl _))) (hcd.keep (hq (Nat.le_refl _)))) ?_
 ·(intro w' hq;go_simp;try with_reducible rfl)
 simp only[Act.put,zs1,zs2,zs3]
 refine RF.svp 3 ?_
 refine RF.svq 4 rfl (by intro w' hq;have hc0:=za (hq (Nat.le_refl _)) e0;have hc1:=za (hq (Nat.le_refl _)) e1;have hc2:=za (hq (Nat.le_refl _)) e2;have hc3:=za (hq (Nat.le_refl _)) e3;have hc4:=za (hq (Nat.le_refl _)) e4;have hc5:=za (hq (Nat.le_refl _)) e5;have hc6:=za (hq (Nat.le_refl _)) e6;have hc7:=za (hq (Nat.le_refl _)) e7;have hc8:=za (hq (Nat.le_refl _)) e8;have hc9:=za (hq (Nat.le_refl _)) e9;have hc10:=za (hq (Nat.le_refl _)) e10;go_simp;try with_reducible rfl) ?_
 refine RF.zh (i:=5) (v:=_) rfl rfl (by kernel_rfl) (by kernel_rfl) (fun _ _ _ h=>h) (by rfl) ?_ (fun w' hq=>HD2.out _ w' (hEd.ofQ (hq (Nat.le_refl _))) (hcd.keep (hq (Nat.le_refl _)))) ?_
 ·(intro w' hq;go_simp;try with_reducible rfl)
 simp only[Act.put,zs1,zs2,zs3]
 refine RF.zeL (i:=6) (j:=7) (.cells #[.string ⟨#[]⟩,.string ⟨#[]⟩,.string ⟨#[]⟩] 35) (.cells #[.string ⟨#[]⟩,.string ⟨#[]⟩,.string ⟨#[]⟩] 35) rfl rfl rfl rfl (by kernel_rfl) (by rfl) (by rfl) (fun w' hq=>?_) (fun w' hq=>?_) (fun w1 hq1=>?_) (fun w1 hq1=>?_)
 ·go_simp;try with_reducible rfl
 ·go_simp;try with_reducible rfl
 case' _ =>
  simp only[Act.put,zs1,zs2,zs3]
  refine RF.zaC (i:=7) (.cells #[.string ⟨#[]⟩,.string ⟨#[]⟩,.string ⟨#[]⟩] 35) rfl rfl (by kernel_rfl) (by rfl) (fun w' hq=>by go_simp;try with_reducible rfl) (fun w2 hq2=>?_)
  simp only[Act.put,zs1,zs2,zs3]
  have hT:=((Blk.new w1 [.string ⟨#[]⟩,.string ⟨#[]⟩,.string ⟨#[]⟩] 35).keep hq2 (by simp)).alloc (.cells #[.string ⟨#[]⟩,.string ⟨#[]⟩,.string ⟨#[]⟩] 35)
  have hU:=Blk.new w2 [.string ⟨#[]⟩,.string ⟨#[]⟩,.string ⟨#[]⟩] 35
  have hq6:Q W1.drew (w2.alloc (.cells #[.string ⟨#[]⟩,.string ⟨#[]⟩,.string ⟨#[]⟩] 35)):=Q.trans hq1 (Q.trans ((Below.refl _ w1).alloc (Nat.le_refl _) (.cells #[.string ⟨#[]⟩,.string ⟨#[]⟩,.string ⟨#[]⟩] 35)) (Q.trans hq2 ((Below.refl _ w2).alloc (Nat.le_refl _) (.cells #[.string ⟨#[]⟩,.string ⟨#[]⟩,.string ⟨#[]⟩] 35))))
  have hz:=hq2.size
  rw[World.size_alloc]at hz
  have hbp:W1.drew.heap.size≤w1.heap.size:=by have:=hq1.size;omega
  have hbq:W1.drew.heap.size≤w2.heap.size:=by have:=hq1.size;omega
  have hpq:w1.heap.size≠w2.heap.size:=by omega
  generalize w2.alloc _=W6 at *
  generalize w1.heap.size=p at *
  generalize w2.heap.size=q at *
  clear hz hq1 hq2
 rotate_left
 case' _ =>
  simp only[Act.put,zs1,zs2,zs3]
  refine RF.zaC (i:=6) (.cells #[.string ⟨#[]⟩,.string ⟨#[]⟩,.string ⟨#[]⟩] 35) rfl rfl (by kernel_rfl) (by rfl) (fun w' hq=>by go_simp;try with_reducible rfl) (fun w2 hq2=>?_)
  simp only[Act.put,zs1,zs2,zs3]
  have hU:=((Blk.new w1 [.string ⟨#[]⟩,.string ⟨#[]⟩,.string ⟨#[]⟩] 35).keep hq2 (by simp)).alloc (.cells #[.string ⟨#[]⟩,.string ⟨#[]⟩,.string ⟨#[]⟩] 35)
  have hT:=Blk.new w2 [.string ⟨#[]⟩,.string ⟨#[]⟩,.string ⟨#[]⟩] 35
  have hq6:Q W1.drew (w2.alloc (.cells #[.string ⟨#[]⟩,.string ⟨#[]⟩,.string ⟨#[]⟩] 35)):=Q.trans hq1 (Q.trans ((Below.refl _ w1).alloc (Nat.le_refl _) (.cells #[.string ⟨#[]⟩,.string ⟨#[]⟩,.string ⟨#[]⟩] 35)) (Q.trans hq2 ((Below.refl _ w2).alloc (Nat.le_refl _) (.cells #[.string ⟨#[]⟩,.string ⟨#[]⟩,.string ⟨#[]⟩] 35))))
  have hz:=hq2.size
  rw[World.size_alloc]at hz
  have hbp:W1.drew.heap.size≤w2.heap.size:=by have:=hq1.size;omega
  have hbq:W1.drew.heap.size≤w1.heap.size:=by have:=hq1.size;omega
  have hpq:w2.heap.size≠w1.heap.size:=by omega
  generalize w2.alloc _=W6 at *
  generalize w2.heap.size=p at *
  generalize w1.heap.size=q at *
  clear hz hq1 hq2
 all_goals
  refine RF.zaP (i:=8) (fun w'=>((w'.setCell ⟨p,0,none⟩ (.string ⟨UX.toArray⟩)).setCell ⟨p,1,none⟩ (.string ⟨UY.toArray⟩)).setCell ⟨p,2,none⟩ (.string ⟨UZ.toArray⟩)) rfl rfl (by kernel_rfl) (by rfl) (fun w' hq=>?_) (fun w'=>zov hbp w') (fun w7 hq7=>?_)
  ·have hc:=hT.keep hq hT.lt
   have e0:=hc.cell
   have f0:=hc.frozen
   go_simp;try with_reducible rfl
  simp only[Act.put]
  have hT7:=(((hT.keep hq7 hT.lt).set 0 (.string ⟨UX.toArray⟩)).set 1 (.string ⟨UY.toArray⟩)).set 2 (.string ⟨UZ.toArray⟩)
  have hU7:=(((hU.keep hq7 hU.lt).setOther hpq 0 (.string ⟨UX.toArray⟩)).setOther hpq 1 (.string ⟨UY.toArray⟩)).setOther hpq 2 (.string ⟨UZ.toArray⟩)
  simp only[List.set_cons_zero,List.set_cons_succ]at hT7
  have hl7:Below W1.drew.heap.size W1.drew (((w7.setCell ⟨p,0,none⟩ (.string ⟨UX.toArray⟩)).setCell ⟨p,1,none⟩ (.string ⟨UY.toArray⟩)).setCell ⟨p,2,none⟩ (.string ⟨UZ.toArray⟩)):=(((Q.trans hq6 hq7).setCell (p:=⟨p,0,none⟩) hbp _).setCell (p:=⟨p,1,none⟩) hbp _).setCell (p:=⟨p,2,none⟩) hbp _
  clear hT hU hq6 hq7
  generalize ((w7.setCell ⟨p,0,none⟩ (.string ⟨UX.toArray⟩)).setCell ⟨p,1,none⟩ (.string ⟨UY.toArray⟩)).setCell ⟨p,2,none⟩ (.string ⟨UZ.toArray⟩)=w8 at *
  refine RF.zaP (i:=9) (fun w'=>((w'.setCell ⟨q,0,none⟩ (.string ⟨VX.toArray⟩)).setCell ⟨q,1,none⟩ (.string ⟨VY.toArray⟩)).setCell ⟨q,2,none⟩ (.string ⟨VZ.toArray⟩)) rfl rfl (by kernel_rfl) (by rfl) (fun w' hq=>?_) (fun w'=>zov hbq w') (fun w9 hq9=>?_)
  ·have hc:=hU7.keep hq hU7.lt
   have e0:=hc.cell
   have f0:=hc.frozen
   go_simp;try with_reducible rfl
  simp only[Act.put]
  have hT9:=(((hT7.keep hq9 hT7.lt).setOther (Ne.symm hpq) 0 (.string ⟨VX.toArray⟩)).setOther (Ne.symm hpq) 1 (.string ⟨VY.toArray⟩)).setOther (Ne.symm hpq) 2 (.string ⟨VZ.toArray⟩)
  have hU9:=(((hU7.keep hq9 hU7.lt).set 0 (.string ⟨VX.toArray⟩)).set 1 (.string ⟨VY.toArray⟩)).set 2 (.string ⟨VZ.toArray⟩)
  simp only[List.set_cons_zero,List.set_cons_succ]at hU9
  have hl9:Below W1.drew.heap.size W1.drew (((w9.setCell ⟨q,0,none⟩ (.string ⟨VX.toArray⟩)).setCell ⟨q,1,none⟩ (.string ⟨VY.toArray⟩)).setCell ⟨q,2,none⟩ (.string ⟨VZ.toArray⟩)):=(((Below.trans hl7 (hq9.mono hl7.size)).setCell (p:=⟨q,0,none⟩) hbq _).setCell (p:=⟨q,1,none⟩) hbq _).setCell (p:=⟨q,2,none⟩) hbq _
  clear hT7 hU7 hl7 hq9
  generalize ((w9.setCell ⟨q,0,none⟩ (.string ⟨VX.toArray⟩)).setCell ⟨q,1,none⟩ (.string ⟨VY.toArray⟩)).setCell ⟨q,2,none⟩ (.string ⟨VZ.toArray⟩)=w10 at *
  refine RF.zi (by kernel_rfl) (fun w3 hq3=>?_)
  simp only[List.drop_succ_cons,List.drop_nil]
  have hqq:Q W1.drew w3:=Below.trans hl9 (hq3.mono hl9.size)
  have BU:=hT9.keep hq3 hT9.lt
  have BV:=hU9.keep hq3 hU9.lt
  replace BP:=BP.keep hqq BP.lt
  have hQW:Q w w3:=Q.trans hwd hqq
  have hc:=hcd.keep hqq
  clear hT9 hU9 hl9 hq3 hqq hcd hEd hwd BM BN d0 d1 d2 d3 d4 d5 d6 d7 d8 d9 d10 e0 e1 e2 e3 e4 e5 e6 e7 e8 e9 e10 lBM lBN HD HD2 hbp hbq hpq
  have hQ0:=Q.refl w3
  replace u0:=BU.cell 0
  replace u1:=BU.cell 1
  replace u2:=BU.cell 2
  simp only[zs4,zs5]at u0 u1 u2
  replace lBU:=BU.lt
  replace v0:=BV.cell 0
  replace v1:=BV.cell 1
  replace v2:=BV.cell 2
  simp only[zs4,zs5]at v0 v1 v2
  replace lBV:=BV.lt
  go_wp2_with fail
  have hEd:Env w3.drew:=hE.ofQ (Q.trans hQW (Below.drew (Q.refl w3)))
  have hcd:zaA w3.drew gc:=hc.keep (Below.drew (Q.refl w3))
  refine zm 10 rfl (by kernel_rfl) rfl ?_
  refine svp 0 ?_
  refine svq 1 rfl (by intro w' hq;have hc0:=za hq u0;have hc1:=za hq u1;have hc2:=za hq u2;go_simp;try with_reducible rfl) ?_
  refine svq 2 rfl (by intro w' hq;have hc0:=za hq v0;have hc1:=za hq v1;have hc2:=za hq v2;go_simp;try with_reducible rfl) ?_
  refine zh (i:=3) (v:=_) rfl rfl (by kernel_rfl) (by kernel_rfl) (fun _ _ _ h=>h) (by rfl) ?_ (fun w' hq=>HUV.out _ w' (hEd.ofQ hq) (hcd.keep hq)) ?_
  ·(intro w' hq;go_simp;try with_reducible rfl)
  simp only[Act.put,zs1,zs2,zs3]
  refine zh (i:=4) (v:=_) rfl rfl (by kernel_rfl) (by kernel_rfl) (fun _ _ _ h=>h) (by rfl) ?_ (fun w' hq=>HS1.out w') ?_
  ·(intro w' hq;go_simp;try with_reducible rfl)
  simp only[Act.put,zs1,zs2,zs3]
  refine svp 5 ?_
  refine svq 6 rfl (by intro w' hq;have hc0:=za hq u0;have hc1:=za hq u1;have hc2:=za hq u2;go_simp;try with_reducible rfl) ?_
  refine svq 7 rfl (by intro w' hq;have hc0:=za hq v0;have hc1:=za hq v1;have hc2:=za hq v2;go_simp;try with_reducible rfl) ?_
  refine zh (i:=8) (v:=_) rfl rfl (by kernel_rfl) (by kernel_rfl) (fun _ _ _ h=>h) (by rfl) ?_ (fun w' hq=>HCO.out _ w' (hEd.ofQ hq) (hcd.keep hq)) ?_
  ·(intro w' hq;go_simp;try with_reducible rfl)
  simp only[Act.put,zs1,zs2,zs3]
  refine zh (i:=9) (v:=_) rfl rfl (by kernel_rfl) (by kernel_rfl) (fun _ _ _ h=>h) (by rfl) ?_ (fun w' hq=>HS2.out w') ?_
  ·(intro w' hq;go_simp;try with_reducible rfl)
  simp only[Act.put,zs1,zs2,zs3]
  refine zi (by kernel_rfl) (fun w4 hq3=>?_)
  simp only[List.drop_succ_cons]
  have hq4:Q w3 w4:=Q.trans (Below.drew (Q.refl w3)) hq3
  replace hQW:=Q.trans hQW hq4
  replace BU:=BU.keep hq4 BU.lt
  replace BV:=BV.keep hq4 BV.lt
  replace BP:=BP.keep hq4 BP.lt
  replace hc:=hc.keep hq4
  clear hq3 hq4 hEd hcd u0 u1 u2 v0 v1 v2 lBU lBV HUV HCO HS1 HS2
  have hQ0:=Q.refl w4
  replace u0:=BU.cell 0
  replace u1:=BU.cell 1
  replace u2:=BU.cell 2
  simp only[zs4,zs5]at u0 u1 u2
  replace lBU:=BU.lt
  replace v0:=BV.cell 0
  replace v1:=BV.cell 1
  replace v2:=BV.cell 2
  simp only[zs4,zs5]at v0 v1 v2
  replace lBV:=BV.lt
  have BC:=hc
  unfold zaA at BC
  replace c0:=BC.cell
  replace lBC:=BC.lt
  go_wp2_with fail
  refine cx (HUU.out _ _ (hE.ofQ hQW) hc) fun w5 hq5=>?_
  replace hQW:=Q.trans hQW hq5
  replace BV:=BV.keep hq5 BV.lt
  replace BP:=BP.keep hq5 BP.lt
  replace hc:=hc.keep hq5
  clear hq5 u0 u1 u2 v0 v1 v2 lBU BU lBV HUU BC c0 lBC
  replace v0:=BV.cell 0
  replace v1:=BV.cell 1
  replace v2:=BV.cell 2
  simp only[zs4,zs5]at v0 v1 v2
  replace lBV:=BV.lt
  have BC:=hc
  unfold zaA at BC
  replace c0:=BC.cell
  replace lBC:=BC.lt
  go_wp2_with fail
  refine cx (HVV.out _ _ (hE.ofQ hQW) hc) fun w6 hq5=>?_
  replace hQW:=Q.trans hQW hq5
  replace BP:=BP.keep hq5 BP.lt
  replace hc:=hc.keep hq5
  clear hq5 v0 v1 v2 lBV BV HVV BC c0 lBC
  have hQ0:=Q.refl w6
  replace p0:=BP.cell 0
  replace p1:=BP.cell 1
  replace p2:=BP.cell 2
  simp only[zs4,zs5]at p0 p1 p2
  replace lBP:=BP.lt
  go_wp2_with fail
  have hEd:Env w6.drew:=hE.ofQ (Q.trans hQW (Below.drew (Q.refl w6)))
  have hcd:zaA w6.drew gc:=hc.keep (Below.drew (Q.refl w6))
  refine zm 16 rfl (by kernel_rfl) rfl ?_
  refine svp 0 ?_
  refine svp 1 ?_
  refine svp 2 ?_
  refine svp 3 ?_
  refine svq 4 rfl (by intro w' hq;have hc0:=za hq p0;go_simp;try with_reducible rfl) ?_
  refine svp 5 ?_
  refine svq 6 rfl (by intro w' hq;have hc0:=za hq p0;go_simp;try with_reducible rfl) ?_
  refine zh (i:=7) (v:=_) rfl rfl (by kernel_rfl) (by kernel_rfl) (fun _ _ _ h=>h) (by rfl) ?_ (fun w' hq=>HAA.out _ w' (hEd.ofQ hq) (hcd.keep hq)) ?_
  ·(intro w' hq;go_simp;try with_reducible rfl)
  simp only[Act.put,zs1,zs2,zs3]
  refine svp 8 ?_
  refine svp 9 ?_
  refine svq 10 rfl (by intro w' hq;have hc0:=za hq p1;go_simp;try with_reducible rfl) ?_
  refine svp 11 ?_
  refine svq 12 rfl (by intro w' hq;have hc0:=za hq p1;go_simp;try with_reducible rfl) ?_
  refine zh (i:=13) (v:=_) rfl rfl (by kernel_rfl) (by kernel_rfl) (fun _ _ _ h=>h) (by rfl) ?_ (fun w' hq=>HBB.out _ w' (hEd.ofQ hq) (hcd.keep hq)) ?_
  ·(intro w' hq;go_simp;try with_reducible rfl)
  simp only[Act.put,zs1,zs2,zs3]
  refine zh (i:=14) (v:=_) rfl rfl (by kernel_rfl) (by kernel_rfl) (fun _ _ _ h=>h) (by rfl) ?_ (fun w' hq=>HAB.out _ w' (hEd.ofQ hq) (hcd.keep hq)) ?_
  ·(intro w' hq;go_simp;try with_reducible rfl)
  simp only[Act.put,zs1,zs2,zs3]
  refine zh (i:=15) (v:=_) rfl rfl (by kernel_rfl) (by kernel_rfl) (fun _ _ _ h=>h) (by rfl) ?_ (fun w' hq=>H1.out _ w' (hEd.ofQ hq) (hcd.keep hq)) ?_
  ·(intro w' hq;go_simp;try with_reducible rfl)
  simp only[Act.put,zs1,zs2,zs3]
  refine zi (by kernel_rfl) (fun w7 hq3=>?_)
  simp only[List.drop_succ_cons]
  have hq4:Q w6 w7:=Q.trans (Below.drew (Q.refl w6)) hq3
  replace hQW:=Q.trans hQW hq4
  replace hc:=hc.keep hq4
  clear hq3 hq4 hEd hcd p0 p1 p2 lBP BP HAA HBB HAB H1
  go_wp2_with fail
  refine cx (HV.out _ _ (hE.ofQ hQW) hc) fun w8 hq6=>?_
  have hc6:=hc.keep hq6
  have hQ6:=Q.trans hQW hq6
  have BT:=Blk.new w8 [.string ⟨SH.toArray⟩,.string ⟨SQ.toArray⟩] 47
  go_wp2_with fail
  refine(HM.out _ _ _ (hE.ofQ (Q.trans hQ6 bt)) (hc6.keep bt) (TSl.one BT 1)).mono ?_
  intro e y h
  obtain⟨v,E,rfl,hq5,h⟩:=h.lift (Q.trans hQ6 bt)
  have H5':=LH h
  clear h
  go_wp2
  go_ret2
  exact⟨_,_,rfl,hq5,H5'.out⟩
theorem zjN{w:World}{b g:Nat}(h:b≠g)(i:Nat)(v:Value):(w.setCell ⟨g,i,none⟩ v).heap[b]? = w.heap[b]?:=by
 have:=h.symm
 simp[World.setCell,Array.getElem?_modify,this]
theorem zkg(k F O W D:Int)(X1 X2 X3 X4 X5 X6:Str)(a:Option Addr)(nn cp:Nat)(ob:Nat)(c0 c1 c2 c3 c4:Value)(L1 L2:List (Rat × Nat))(w:World)(hE:Env w)(hob:ng≤ob)(hb:Blk w ob [c0,c1,c2,c3,c4] 85)
  (H1:Hid (∀ W',Env W'→Below ob w W'→Calls Tryz.prog 9 #[.agg #[.slice a nn cp],.agg #[.int .i64 k,.int .i64 F,.int .i64 O,.string ⟨X1.toArray⟩,.string ⟨X2.toArray⟩,.string ⟨X3.toArray⟩,.string ⟨X4.toArray⟩,.string ⟨X5.toArray⟩,.string ⟨X6.toArray⟩,.int .i64 W,.int .i64 D],.int .i64 F] W' (zm3 W' L1)))
  (H2:Hid (∀ W',Env W'→Below ob w W'→Calls Tryz.prog 9 #[.agg #[.slice a nn cp],.agg #[.int .i64 k,.int .i64 F,.int .i64 O,.string ⟨X1.toArray⟩,.string ⟨X2.toArray⟩,.string ⟨X3.toArray⟩,.string ⟨X4.toArray⟩,.string ⟨X5.toArray⟩,.string ⟨X6.toArray⟩,.int .i64 W,.int .i64 D],.int .i64 O] W' (zm3 W' L2))) :
  Calls Tryz.prog 345 #[.agg #[.slice a nn cp,.slice none 0 0,.slice none 0 0,.slice none 0 0],.agg #[.int .i64 k,.int .i64 F,.int .i64 O,.string ⟨X1.toArray⟩,.string ⟨X2.toArray⟩,.string ⟨X3.toArray⟩,.string ⟨X4.toArray⟩,.string ⟨X5.toArray⟩,.string ⟨X6.toArray⟩,.int .i64 W,.int .i64 D],.pointer (some ⟨ob,0,none⟩)] w
   fun e w'=>∃ v3 v4,e=.returned (.int .i64 0)∧Below ob w w'∧(∀ b,b<w.heap.size→b≠ob→w'.heap[b]? = w.heap[b]?)∧Blk w' ob [c0,c1,c2,v3,v4] 85∧zH w' w.heap.size v3 L1∧zH w' w.heap.size v4 L2:=by
 have hlt:=hb.lt
 obtain⟨W0,hW0⟩:∃ W0,(w.alloc (.cells #[.slice a nn cp,.slice none 0 0,.slice none 0 0,.slice none 0 0] 92)).alloc (.cells #[.int .i64 k,.int .i64 F,.int .i64 O,.string ⟨X1.toArray⟩,.string ⟨X2.toArray⟩,.string ⟨X3.toArray⟩,.string ⟨X4.toArray⟩,.string ⟨X5.toArray⟩,.string ⟨X6.toArray⟩,.int .i64 W,.int .i64 D] 37)=W0:=⟨_,rfl⟩
 have hq0:Q w W0:=by rw[← hW0];exact bt
 have BR:Blk W0 w.heap.size [.slice a nn cp,.slice none 0 0,.slice none 0 0,.slice none 0 0] 92:=by rw[← hW0];exact(Blk.new w _ _).alloc _
 have BM:Blk W0 (w.heap.size+1) [.int .i64 k,.int .i64 F,.int .i64 O,.string ⟨X1.toArray⟩,.string ⟨X2.toArray⟩,.string ⟨X3.toArray⟩,.string ⟨X4.toArray⟩,.string ⟨X5.toArray⟩,.string ⟨X6.toArray⟩,.int .i64 W,.int .i64 D] 37:=by rw[← hW0];exact Blk.new1 w _ _ _
 go_enter Tryz.func345,Tryz.ntmps345
 have hQ0:=Q.refl W0
 replace r0:=BR.cell
 replace lBR:=BR.lt
 replace m0:=BM.cell 0
 replace m1:=BM.cell 1
 replace m2:=BM.cell 2
 replace m3:=BM.cell 3
 replace m4:=BM.cell 4
 replace m5:=BM.cell 5
 replace m6:=BM.cell 6
 replace m7:=BM.cell 7
 replace m8:=BM.cell 8
 replace m9:=BM.cell 9
 replace m10:=BM.cell 10
 simp only[zs4,zs5]at m0 m1 m2 m3 m4 m5 m6 m7 m8 m9 m10
 replace lBM:=BM.lt
 go_wp2_with fail
 refine zm 15 rfl (by kernel_rfl) rfl ?_
 refine svp 0 ?_
 refine svq 1 rfl (by intro w' hq;have hc0:=za hq m1;go_simp;try with_reducible rfl) ?_
 refine svp 2 ?_
 refine svp 3 ?_
 refine svp 4 ?_
 refine svp 5 ?_
 refine svp 6 ?_
 refine svq 7 rfl (by intro w' hq;have hc0:=za hq m2;go_simp;try with_reducible rfl) ?_
 refine svp 8 ?_
 refine svp 9 ?_
 refine svp 10 ?_
 refine svp 11 ?_
 refine svp 14 ?_
 refine za9 (i:=12) (fun w'=>.slice (some ⟨w'.heap.size,0,none⟩) 2 2) (.cells #[.int .i64 F,.pointer (some ⟨ob,3,none⟩),.int .i64 O,.pointer (some ⟨ob,4,none⟩)] 416) rfl rfl (by kernel_rfl) (by rfl) (fun w' hq=>by go_simp;try with_reducible rfl) (fun w2 hq2=>?_)
 simp only[Act.put,zs1,zs2,zs3]
 have BT:=Blk.new w2 [.int .i64 F,.pointer (some ⟨ob,3,none⟩),.int .i64 O,.pointer (some ⟨ob,4,none⟩)] 416
 refine svp 13 ?_
 refine zi (by kernel_rfl) (fun w3 hq3=>?_)
 simp only[List.drop_succ_cons,List.drop_nil]
 have hq03:Q W0 w3:=Q.trans (Below.drew (Q.refl W0)) (Q.trans hq2 (Q.trans ((Below.refl _ w2).alloc (Nat.le_refl _) _) hq3))
 have hgt:w.heap.size+1<w2.heap.size:=Nat.lt_of_lt_of_le BM.lt (Q.trans (Below.drew (Q.refl W0)) hq2).size
 replace BT:=BT.keep hq3 (by simp)
 replace BR:=BR.keep hq03 BR.lt
 replace BM:=BM.keep hq03 BM.lt
 have BB:=hb.keep (Q.trans hq0 hq03) hb.lt
 have hQ:Q w w3:=Q.trans hq0 hq03
 generalize w2.heap.size=tb at *
 clear hq2 hq3 hq03 hq0 hQ0 hb r0 lBR m0 m1 m2 m3 m4 m5 m6 m7 m8 m9 m10 lBM hW0
 have hQ0:=Q.refl w3
 replace r0:=BR.cell
 replace lBR:=BR.lt
 replace m0:=BM.cell 0
 replace m1:=BM.cell 1
 replace m2:=BM.cell 2
 replace m3:=BM.cell 3
 replace m4:=BM.cell 4
 replace m5:=BM.cell 5
 replace m6:=BM.cell 6
 replace m7:=BM.cell 7
 replace m8:=BM.cell 8
 replace m9:=BM.cell 9
 replace m10:=BM.cell 10
 simp only[zs4,zs5]at m0 m1 m2 m3 m4 m5 m6 m7 m8 m9 m10
 replace lBM:=BM.lt
 replace t0:=BT.cell
 replace lBT:=BT.lt
 replace b0:=BB.cell
 replace lBB:=BB.lt
 go_wp2
 refine wp_loop_rounds 3 ?_
 rw[rounds_succ]
 go_wp2_with fail
 obtain⟨W4,hW4⟩:∃ W4,w3.alloc (.cells #[.int .i64 F,.pointer (some ⟨ob,3,none⟩)] 416)=W4:=⟨_,rfl⟩
 have BX:Blk W4 w3.heap.size [.int .i64 F,.pointer (some ⟨ob,3,none⟩)] 416:=by rw[← hW4];exact Blk.new w3 _ _
 have hq34:Q w3 W4:=by rw[← hW4];exact bt
 rw[hW4]
 have hwW:w.heap.size≤W4.heap.size:=(Q.trans hQ hq34).size
 have hB4lt:ob≤W4.heap.size:=Nat.le_trans (Nat.le_of_lt hlt) hwW
 have hB4:Below ob w W4:=(Q.trans hQ hq34).mono (Nat.le_of_lt hlt)
 refine(H1.out W4 (hE.below hob hB4) hB4).mono ?_
 rintro e V1⟨v3,rfl,hv1,hs3⟩
 obtain⟨g3,cap3,rfl,-⟩:=hs3.form
 have hq3v:Q w3 V1:=Q.trans hq34 hv1
 replace BX:=BX.keep hv1 BX.lt
 replace BR:=BR.keep hq3v BR.lt
 replace BM:=BM.keep hq3v BM.lt
 replace BT:=BT.keep hq3v BT.lt
 replace BB:=BB.keep hq3v BB.lt
 have hxb:w3.heap.size≠ob:=by have:=hQ.size;omega
 clear hW4 r0 lBR m0 m1 m2 m3 m4 m5 m6 m7 m8 m9 m10 lBM t0 lBT b0 lBB
 have hQ0:=Q.refl V1
 replace x0:=BX.cell
 replace lBX:=BX.lt
 replace b0:=BB.cell
 replace lBB:=BB.lt
 have fb:=BB.frozen
 go_wp2
 obtain⟨X,hX⟩:∃ X,V1.setCell ⟨ob,3,none⟩ (.slice g3 L1.length cap3)=X:=⟨_,rfl⟩
 have h1b:ob≠w.heap.size:=by omega
 have h2b:ob≠w.heap.size+1:=by omega
 have h3b:ob≠tb:=by omega
 have BBX:=BB.set 3 (.slice g3 L1.length cap3)
 simp only[List.set_cons_zero,List.set_cons_succ]at BBX
 replace BR:=BR.setOther h1b 3 (.slice g3 L1.length cap3)
 replace BM:=BM.setOther h2b 3 (.slice g3 L1.length cap3)
 replace BT:=BT.setOther h3b 3 (.slice g3 L1.length cap3)
 have hBX:Below ob w (V1.setCell ⟨ob,3,none⟩ (.slice g3 L1.length cap3)):=Below.setCell (p:=⟨ob,3,none⟩) (Below.trans hB4 (hv1.mono hB4lt)) (Nat.le_refl _) _
 have hs3X:zH (V1.setCell ⟨ob,3,none⟩ (.slice g3 L1.length cap3)) w.heap.size (.slice g3 L1.length cap3) L1:=zaM (Joins.ownsRow_le hs3 hwW) (g:=ob) (by omega) 3 _
 have hK1:∀ b,b<w.heap.size→b≠ob→(V1.setCell ⟨ob,3,none⟩ (.slice g3 L1.length cap3)).heap[b]? = w.heap[b]?:=fun b h1 h2=>by
  rw[zjN h2,(Q.trans hQ hq3v).block b h1]
 rw[hX]at BBX BR BM BT hBX hs3X hK1 ⊢
 have hszX:w.heap.size≤X.heap.size:=by rw[← hX];simp;exact Nat.le_trans hwW hv1.size
 clear hX fb BB b0 lBB BX x0 lBX hs3 hv1 hB4 hQ0
 have hQ0:=Q.refl X
 replace r0:=BR.cell
 replace lBR:=BR.lt
 replace m0:=BM.cell 0
 replace m1:=BM.cell 1
 replace m2:=BM.cell 2
 replace m3:=BM.cell 3
 replace m4:=BM.cell 4
 replace m5:=BM.cell 5
 replace m6:=BM.cell 6
 replace m7:=BM.cell 7
 replace m8:=BM.cell 8
 replace m9:=BM.cell 9
 replace m10:=BM.cell 10
 simp only[zs4,zs5]at m0 m1 m2 m3 m4 m5 m6 m7 m8 m9 m10
 replace lBM:=BM.lt
 replace t0:=BT.cell
 replace lBT:=BT.lt
 rw[rounds_succ]
 go_wp2_with fail
 obtain⟨W5,hW5⟩:∃ W5,X.alloc (.cells #[.int .i64 O,.pointer (some ⟨ob,4,none⟩)] 416)=W5:=⟨_,rfl⟩
 have BX:Blk W5 X.heap.size [.int .i64 O,.pointer (some ⟨ob,4,none⟩)] 416:=by rw[← hW5];exact Blk.new X _ _
 have hq5:Q X W5:=by rw[← hW5];exact bt
 rw[hW5]
 have hwW5:w.heap.size≤W5.heap.size:=Nat.le_trans hszX hq5.size
 have hB5:Below ob w W5:=Below.trans hBX (hq5.mono (by omega))
 refine(H2.out W5 (hE.below hob hB5) hB5).mono ?_
 rintro e V2⟨v4,rfl,hv2,hs4⟩
 obtain⟨g4,cap4,rfl,-⟩:=hs4.form
 have hqv:Q X V2:=Q.trans hq5 hv2
 have hs3':=zH.keep hs3X hqv
 replace BX:=BX.keep hv2 BX.lt
 replace BB:=BBX.keep hqv BBX.lt
 clear hW5 BR BM BT r0 lBR m0 m1 m2 m3 m4 m5 m6 m7 m8 m9 m10 lBM t0 lBT BBX hs3X H1 H2
 have hQ0:=Q.refl V2
 replace x0:=BX.cell
 replace lBX:=BX.lt
 replace b0:=BB.cell
 replace lBB:=BB.lt
 have fb:=BB.frozen
 have hBe:Below ob w (V2.setCell ⟨ob,4,none⟩ (.slice g4 L2.length cap4)):=Below.setCell (p:=⟨ob,4,none⟩) (Below.trans hB5 (hv2.mono (by omega))) (Nat.le_refl _) _
 have BBe:=BB.set 4 (.slice g4 L2.length cap4)
 simp only[List.set_cons_zero,List.set_cons_succ]at BBe
 have e3:zH (V2.setCell ⟨ob,4,none⟩ (.slice g4 L2.length cap4)) w.heap.size (.slice g3 L1.length cap3) L1:=zaM hs3' (g:=ob) (by omega) 4 _
 have e4:zH (V2.setCell ⟨ob,4,none⟩ (.slice g4 L2.length cap4)) w.heap.size (.slice g4 L2.length cap4) L2:=zaM (Joins.ownsRow_le hs4 hwW5) (g:=ob) (by omega) 4 _
 have hK:∀ b,b<w.heap.size→b≠ob→(V2.setCell ⟨ob,4,none⟩ (.slice g4 L2.length cap4)).heap[b]? = w.heap[b]?:=fun b h1 h2=>by
  rw[zjN h2,hqv.block b (by omega),hK1 b h1 h2]
 clear hs3' hs4 hK1
 go_wp2
 rw[rounds_succ]
 go_wp2
 go_ret
 exact⟨_,_,rfl,hBe,hK,BBe,e3,e4⟩
end
end Go.Proofs.YthdpnkkddhcacaaGreatDoor
