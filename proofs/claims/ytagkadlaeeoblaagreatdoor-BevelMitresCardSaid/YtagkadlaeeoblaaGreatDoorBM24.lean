/-
  Walks of package bevel: the backing of a member against a face.; Walks of package bevel: the side cut of a rafter along another member.
-/
import Derived.Test.YtagkadlaeeoblaaGreatDoorBM23
set_option maxRecDepth 100000
set_option maxHeartbeats 8000000
namespace Go.Proofs.YtagkadlaeeoblaaGreatDoor
section
open Go.RowKit Go.Shelf Kp
open Go.Lib (decDigits)
attribute [local go_sem] Oper.semAt_some
def zlC(A B:Rat)(d:P3):List (Rat × Rat):=[(zbE (A*d.y - B*d.x),1 / (flR d d+d.z*d.z))]
theorem zlA(m:Vm)(hm:VmOk m)(A B C:Rat)(bA:Bd 10 A)(bB:Bd 10 B)(hr:A*(m.t.sub m.f).x+B*(m.t.sub m.f).y=(m.t.sub m.f).z)(hl0:0<flR (m.t.sub m.f) (m.t.sub m.f)+(m.t.sub m.f).z*(m.t.sub m.f).z)(a:Option Addr)(nn cp:Nat)(i:Nat)(w:World)(hE:Env w)
  (HCP:Hid (∀ b cap ty W,Env W→Q w W→Blk W b m.c ty→CR 40 #[.agg #[.slice a nn cp],.slice (some ⟨b,0,none⟩) 1 cap] W (.int .i64 0)))
  (HFA:Hid (∀ W,Env W→Q w W→CR 41 #[.agg #[.slice a nn cp],.int .i64 i] W (.tuple #[.agg #[.string ⟨(zh A).toArray⟩,.string ⟨(zh B).toArray⟩,.string ⟨(zh C).toArray⟩],.int .i64 0]))) :
  Calls Tryz.prog 329 #[.agg #[.slice a nn cp],.agg m.c.toArray,.int .i64 i] w (MkP w (zlC A B (m.t.sub m.f))):=by
 have bd:B3 25 (m.t.sub m.f):=⟨zbm hm.t.1 hm.f.1,zbm hm.t.2.1 hm.f.2.1,zbm hm.t.2.2 hm.f.2.2⟩
 have HD:=LH (fun b w hw hb=>za3 m.k m.F m.O m.W m.D m.f m.t hm.f hm.t (by decide) b w hw hb)
 generalize hdd:m.t.sub m.f=d at *
 clear hdd hm
 have H1:=LH (fun b w hw hb=>zbD A d.x bA bd.1 (by decide) b w hw hb)
 have H2:=LH (fun b w hw hb=>zbD B d.y bB bd.2.1 (by decide) b w hw hb)
 have h3:=fun b w hw hb=>zgT (A*d.x) (B*d.y) (bA.mul bd.1) (bB.mul bd.2.1) (by decide) b w hw hb
 rw[hr]at h3
 have H3:=LH h3
 have H4:=LH (fun b w hw hb=>zbD A d.y bA bd.2.1 (by decide) b w hw hb)
 have H5:=LH (fun b w hw hb=>zbD B d.x bB bd.1 (by decide) b w hw hb)
 have H6:=LH (fun b w hw hb=>zoj (A*d.y) (B*d.x) (bA.mul bd.2.1) (bB.mul bd.1) (by decide) b w hw hb)
 have H7:=LH (fun w=>(zc3 (A*d.y - B*d.x) w).mono fun e w' h=>(show e=_∧Q w w' from⟨h.1,by rw[h.2];exact Q.refl _⟩))
 have H8:=LH (fun b w hw hb=>zcn d d bd bd (by decide) b w hw hb)
 have H9:=LH (fun b w hw hb=>zbD d.z d.z bd.2.2 bd.2.2 (by decide) b w hw hb)
 have bf:Bd 101 (flR d d):=((bd.1.mul bd.1).add (bd.2.1.mul bd.2.1)).mono (by decide)
 have bs:Bd 152 (flR d d+d.z*d.z):=(bf.add (bd.2.2.mul bd.2.2)).mono (by decide)
 have bt:Bd 71 (A*d.y - B*d.x):=zbm (bA.mul bd.2.1) (bB.mul bd.1)
 have HA:=LH (fun b w hw hb=>zgT (flR d d) (d.z*d.z) bf (bd.2.2.mul bd.2.2) (by decide) b w hw hb)
 have hv:=fun b w hw hb=>zgS 1 (flR d d+d.z*d.z) zco bs (by have:=npos hl0;omega) (by decide) b w hw hb
 rw[zb0]at hv
 have HV:=LH hv
 have htw:∀ t∈zlC A B d,TW t:=fun t ht=>by
  obtain rfl:=List.mem_singleton.1 ht
  exact⟨(ze8 bt).zaj (by decide),(zco.quot bs (npos hl0)).zaj (by decide),zea (by decide) (npos hl0)⟩
 have hmk:=fun b v w hw hb hv=>ze4 (zlC A B d) htw (by unfold zlC;simp) b v w hw hb hv
 rw[show (zlC A B d).map ofT=[(zh (zbE (A*d.y - B*d.x)),zh (1 / (flR d d+d.z*d.z)))]from rfl]at hmk
 have HM:=LH hmk
 clear hmk htw hv bf bs bt bA bB bd hr hl0 h3
 generalize zlC A B d=T at *
 generalize zh (1 / (flR d d+d.z*d.z))=RT at *
 generalize zh (flR d d+d.z*d.z)=LS at *
 generalize zh (flR d d)=FS at *
 generalize zh (d.z*d.z)=ZS at *
 generalize zh (zbE (A*d.y - B*d.x))=AF at *
 generalize zh (A*d.y - B*d.x)=FF at *
 generalize zh (A*d.y)=P1 at *
 generalize zh (B*d.x)=P2 at *
 generalize zh (A*d.x)=Q1 at *
 generalize zh (B*d.y)=Q2 at *
 generalize zh A=SA at *
 generalize zh B=SB at *
 generalize zh C=SC at *
 obtain⟨ki,F,O,f,t,W,D⟩:=m
 unfold Vm.c at *
 unfold VN V3 at HD
 unfold V3 at H8
 simp only at *
 generalize zh d.x=DX at *
 generalize zh d.y=DY at *
 generalize zh d.z=DZ at *
 generalize zh f.x=X1 at *
 generalize zh f.y=X2 at *
 generalize zh f.z=X3 at *
 generalize zh t.x=X4 at *
 generalize zh t.y=X5 at *
 generalize zh t.z=X6 at *
 obtain⟨W0,hW0⟩:∃ W0,(w.alloc (.cells #[.slice a nn cp] 53)).alloc (.cells #[.int .i64 ki,.int .i64 F,.int .i64 O,.string ⟨X1.toArray⟩,.string ⟨X2.toArray⟩,.string ⟨X3.toArray⟩,.string ⟨X4.toArray⟩,.string ⟨X5.toArray⟩,.string ⟨X6.toArray⟩,.int .i64 W,.int .i64 D] 33)=W0:=⟨_,rfl⟩
 have hq0:Q w W0:=by rw[← hW0];exact bt
 have BR:Blk W0 w.heap.size [.slice a nn cp] 53:=by rw[← hW0];exact(Blk.new w _ _).alloc _
 have BM:Blk W0 (w.heap.size+1) [.int .i64 ki,.int .i64 F,.int .i64 O,.string ⟨X1.toArray⟩,.string ⟨X2.toArray⟩,.string ⟨X3.toArray⟩,.string ⟨X4.toArray⟩,.string ⟨X5.toArray⟩,.string ⟨X6.toArray⟩,.int .i64 W,.int .i64 D] 33:=by rw[← hW0];exact Blk.new1 w _ _ _
 have hQ0:=Q.refl W0
 replace r0:=BR.cell
 replace lBR:=BR.lt
 replace m0:=BM.cell
 replace lBM:=BM.lt
 go_enter Tryz.func329,Tryz.ntmps329
 have BS:=Blk.new W0 [.int .i64 ki,.int .i64 F,.int .i64 O,.string ⟨X1.toArray⟩,.string ⟨X2.toArray⟩,.string ⟨X3.toArray⟩,.string ⟨X4.toArray⟩,.string ⟨X5.toArray⟩,.string ⟨X6.toArray⟩,.int .i64 W,.int .i64 D] 33
 go_wp2_with fail
 refine cx (HCP.out _ _ _ _ (hE.ofQ (Q.trans hq0 bt)) (Q.trans hq0 bt) BS) fun G1 hq1=>?_
 have hs1:Q W0 G1:=Q.trans bt hq1
 have hQ1:Q W0 G1:=Q.trans hQ0 hs1
 replace BR:=BR.keep hs1 BR.lt
 replace r0:=BR.cell
 replace lBR:=BR.lt
 replace BM:=BM.keep hs1 BM.lt
 replace m0:=BM.cell
 replace lBM:=BM.lt
 clear hW0 HCP BS
 go_wp2_with fail
 refine cx (HFA.out _ (hE.ofQ (Q.trans hq0 hQ1)) (Q.trans hq0 hQ1)) fun G2 hq2=>?_
 have hs2:Q G1 G2:=Q.trans bt hq2
 have hQ2:Q W0 G2:=Q.trans hQ1 hs2
 replace BR:=BR.keep hs2 BR.lt
 replace r0:=BR.cell
 replace lBR:=BR.lt
 replace BM:=BM.keep hs2 BM.lt
 replace m0:=BM.cell
 replace lBM:=BM.lt
 clear HFA
 have BP0:=(Blk.new G2 [.string ⟨SA.toArray⟩,.string ⟨SB.toArray⟩,.string ⟨SC.toArray⟩] 86).alloc (.cells [.int .i64 0].toArray 68)
 have C0:zac _ (G2.heap.size+1):=Blk.new1 G2 (.cells ([.string ⟨SA.toArray⟩,.string ⟨SB.toArray⟩,.string ⟨SC.toArray⟩]:List Value).toArray 86) [.int .i64 0] 68
 go_wp2_with fail
 refine cx (HD.out _ _ (hE.ofQ (Q.trans hq0 (Q.trans hQ2 bt))) C0) fun G3 hq3=>?_
 have hs3:Q G2 G3:=Q.trans bt hq3
 have hQ3:Q W0 G3:=Q.trans hQ2 hs3
 replace BR:=BR.keep hs3 BR.lt
 replace r0:=BR.cell
 replace lBR:=BR.lt
 replace BM:=BM.keep hs3 BM.lt
 replace m0:=BM.cell
 replace lBM:=BM.lt
 have C1:zac G3 (G2.heap.size+1):=Blk.keep C0 hq3 (Blk.lt C0)
 have BP:=BP0.keep hq3 BP0.lt
 clear HD C0 BP0
 clear BR lBR r0
 clear BM lBM m0
 obtain⟨W2,hW2⟩:∃ W2,G3.alloc (.cells #[.string ⟨DX.toArray⟩,.string ⟨DY.toArray⟩,.string ⟨DZ.toArray⟩] 29)=W2:=⟨_,rfl⟩
 have BU:Blk W2 G3.heap.size [.string ⟨DX.toArray⟩,.string ⟨DY.toArray⟩,.string ⟨DZ.toArray⟩] 29:=by rw[← hW2];exact Blk.new G3 _ _
 have hq2w:Q G3 W2:=by rw[← hW2];exact bt
 have hQW:Q w W2:=Q.trans hq0 (Q.trans hQ3 hq2w)
 have hc:=C1.keep hq2w
 replace BP:=BP.keep hq2w BP.lt
 clear C1 hq0 hq1 hq2 hq3 hs1 hs2 hs3 hQ0 hQ1 hQ2 hQ3 hq2w
 go_wp2_with fail
 clear hW2
 generalize G2.heap.size+1=gc at *
 generalize G2.heap.size=gp at *
 generalize G3.heap.size=gu at *
 have hQ0:=Q.refl W2
 replace u0:=BU.cell 0
 replace u1:=BU.cell 1
 replace u2:=BU.cell 2
 simp only[zs4,zs5]at u0 u1 u2
 replace lBU:=BU.lt
 replace p0:=BP.cell 0
 replace p1:=BP.cell 1
 replace p2:=BP.cell 2
 simp only[zs4,zs5]at p0 p1 p2
 replace lBP:=BP.lt
 have BC:=hc
 unfold zac at BC
 replace c0:=BC.cell
 replace lBC:=BC.lt
 have hEd:Env W2.drew:=hE.ofQ (Q.trans hQW (Below.drew (Q.refl W2)))
 have hcd:zac W2.drew gc:=hc.keep (Below.drew (Q.refl W2))
 refine zm 14 rfl (by kernel_rfl) rfl ?_
 refine svp 0 ?_
 refine svp 1 ?_
 refine svp 2 ?_
 refine svq 3 rfl (by intro w' hq;have hc0:=za hq p0;go_simp;try with_reducible rfl) ?_
 refine svp 4 ?_
 refine svq 5 rfl (by intro w' hq;have hc0:=za hq u0;go_simp;try with_reducible rfl) ?_
 refine ze (i:=6) (v:=_) rfl rfl (by kernel_rfl) (by kernel_rfl) (fun _ _ _ h=>h) (by rfl) ?_ (fun w' hq=>H1.out _ w' (hEd.ofQ hq) (hcd.keep hq)) ?_
 ·(intro w' hq;go_simp;try with_reducible rfl)
 simp only[Act.put,zs1,zs2,zs3]
 refine svp 7 ?_
 refine svp 8 ?_
 refine svq 9 rfl (by intro w' hq;have hc0:=za hq p1;go_simp;try with_reducible rfl) ?_
 refine svp 10 ?_
 refine svq 11 rfl (by intro w' hq;have hc0:=za hq u1;go_simp;try with_reducible rfl) ?_
 refine ze (i:=12) (v:=_) rfl rfl (by kernel_rfl) (by kernel_rfl) (fun _ _ _ h=>h) (by rfl) ?_ (fun w' hq=>H2.out _ w' (hEd.ofQ hq) (hcd.keep hq)) ?_
 ·(intro w' hq;go_simp;try with_reducible rfl)
 simp only[Act.put,zs1,zs2,zs3]
 refine ze (i:=13) (v:=_) rfl rfl (by kernel_rfl) (by kernel_rfl) (fun _ _ _ h=>h) (by rfl) ?_ (fun w' hq=>H3.out _ w' (hEd.ofQ hq) (hcd.keep hq)) ?_
 ·(intro w' hq;go_simp;try with_reducible rfl)
 simp only[Act.put,zs1,zs2,zs3]
 refine zi (by kernel_rfl) (fun w3 hq3=>?_)
 simp only[List.drop_succ_cons]
 have hq4:Q W2 w3:=Q.trans (Below.drew (Q.refl W2)) hq3
 replace hQW:=Q.trans hQW hq4
 replace BU:=BU.keep hq4 BU.lt
 replace BP:=BP.keep hq4 BP.lt
 replace hc:=hc.keep hq4
 clear hq3 hq4 hEd hcd u0 u1 u2 p0 p1 p2 lBU lBP c0 lBC BC
 have hQ0:=Q.refl w3
 replace u0:=BU.cell 0
 replace u1:=BU.cell 1
 replace u2:=BU.cell 2
 simp only[zs4,zs5]at u0 u1 u2
 replace lBU:=BU.lt
 replace p0:=BP.cell 0
 replace p1:=BP.cell 1
 replace p2:=BP.cell 2
 simp only[zs4,zs5]at p0 p1 p2
 replace lBP:=BP.lt
 have BC:=hc
 unfold zac at BC
 replace c0:=BC.cell
 replace lBC:=BC.lt
 go_wp2_with fail
 have hEd:Env w3.drew:=hE.ofQ (Q.trans hQW (Below.drew (Q.refl w3)))
 have hcd:zac w3.drew gc:=hc.keep (Below.drew (Q.refl w3))
 refine zm 15 rfl (by kernel_rfl) rfl ?_
 refine svp 0 ?_
 refine svp 1 ?_
 refine svp 2 ?_
 refine svq 3 rfl (by intro w' hq;have hc0:=za hq p0;go_simp;try with_reducible rfl) ?_
 refine svp 4 ?_
 refine svq 5 rfl (by intro w' hq;have hc0:=za hq u1;go_simp;try with_reducible rfl) ?_
 refine ze (i:=6) (v:=_) rfl rfl (by kernel_rfl) (by kernel_rfl) (fun _ _ _ h=>h) (by rfl) ?_ (fun w' hq=>H4.out _ w' (hEd.ofQ hq) (hcd.keep hq)) ?_
 ·(intro w' hq;go_simp;try with_reducible rfl)
 simp only[Act.put,zs1,zs2,zs3]
 refine svp 7 ?_
 refine svp 8 ?_
 refine svq 9 rfl (by intro w' hq;have hc0:=za hq p1;go_simp;try with_reducible rfl) ?_
 refine svp 10 ?_
 refine svq 11 rfl (by intro w' hq;have hc0:=za hq u0;go_simp;try with_reducible rfl) ?_
 refine ze (i:=12) (v:=_) rfl rfl (by kernel_rfl) (by kernel_rfl) (fun _ _ _ h=>h) (by rfl) ?_ (fun w' hq=>H5.out _ w' (hEd.ofQ hq) (hcd.keep hq)) ?_
 ·(intro w' hq;go_simp;try with_reducible rfl)
 simp only[Act.put,zs1,zs2,zs3]
 refine ze (i:=13) (v:=_) rfl rfl (by kernel_rfl) (by kernel_rfl) (fun _ _ _ h=>h) (by rfl) ?_ (fun w' hq=>H6.out _ w' (hEd.ofQ hq) (hcd.keep hq)) ?_
 ·(intro w' hq;go_simp;try with_reducible rfl)
 simp only[Act.put,zs1,zs2,zs3]
 refine ze (i:=14) (v:=_) rfl rfl (by kernel_rfl) (by kernel_rfl) (fun _ _ _ h=>h) (by rfl) ?_ (fun w' hq=>H7.out w') ?_
 ·(intro w' hq;go_simp;try with_reducible rfl)
 simp only[Act.put,zs1,zs2,zs3]
 refine zi (by kernel_rfl) (fun w4 hq3=>?_)
 simp only[List.drop_succ_cons]
 have hq4:Q w3 w4:=Q.trans (Below.drew (Q.refl w3)) hq3
 replace hQW:=Q.trans hQW hq4
 replace BU:=BU.keep hq4 BU.lt
 replace BP:=BP.keep hq4 BP.lt
 replace hc:=hc.keep hq4
 clear hq3 hq4 hEd hcd u0 u1 u2 p0 p1 p2 lBU lBP c0 lBC BC
 have hQ0:=Q.refl w4
 replace u0:=BU.cell 0
 replace u1:=BU.cell 1
 replace u2:=BU.cell 2
 simp only[zs4,zs5]at u0 u1 u2
 replace lBU:=BU.lt
 replace p0:=BP.cell 0
 replace p1:=BP.cell 1
 replace p2:=BP.cell 2
 simp only[zs4,zs5]at p0 p1 p2
 replace lBP:=BP.lt
 have BC:=hc
 unfold zac at BC
 replace c0:=BC.cell
 replace lBC:=BC.lt
 go_wp2_with fail
 have hEd:Env w4.drew:=hE.ofQ (Q.trans hQW (Below.drew (Q.refl w4)))
 have hcd:zac w4.drew gc:=hc.keep (Below.drew (Q.refl w4))
 refine zm 12 rfl (by kernel_rfl) rfl ?_
 refine svp 0 ?_
 refine svp 1 ?_
 refine svq 2 rfl (by intro w' hq;have hc0:=za hq u0;have hc1:=za hq u1;have hc2:=za hq u2;go_simp;try with_reducible rfl) ?_
 refine svq 3 rfl (by intro w' hq;have hc0:=za hq u0;have hc1:=za hq u1;have hc2:=za hq u2;go_simp;try with_reducible rfl) ?_
 refine ze (i:=4) (v:=_) rfl rfl (by kernel_rfl) (by kernel_rfl) (fun _ _ _ h=>h) (by rfl) ?_ (fun w' hq=>H8.out _ w' (hEd.ofQ hq) (hcd.keep hq)) ?_
 ·(intro w' hq;go_simp;try with_reducible rfl)
 simp only[Act.put,zs1,zs2,zs3]
 refine svp 5 ?_
 refine svp 6 ?_
 refine svq 7 rfl (by intro w' hq;have hc0:=za hq u2;go_simp;try with_reducible rfl) ?_
 refine svp 8 ?_
 refine svq 9 rfl (by intro w' hq;have hc0:=za hq u2;go_simp;try with_reducible rfl) ?_
 refine ze (i:=10) (v:=_) rfl rfl (by kernel_rfl) (by kernel_rfl) (fun _ _ _ h=>h) (by rfl) ?_ (fun w' hq=>H9.out _ w' (hEd.ofQ hq) (hcd.keep hq)) ?_
 ·(intro w' hq;go_simp;try with_reducible rfl)
 simp only[Act.put,zs1,zs2,zs3]
 refine ze (i:=11) (v:=_) rfl rfl (by kernel_rfl) (by kernel_rfl) (fun _ _ _ h=>h) (by rfl) ?_ (fun w' hq=>HA.out _ w' (hEd.ofQ hq) (hcd.keep hq)) ?_
 ·(intro w' hq;go_simp;try with_reducible rfl)
 simp only[Act.put,zs1,zs2,zs3]
 refine zi (by kernel_rfl) (fun w5 hq3=>?_)
 simp only[List.drop_succ_cons]
 have hq4:Q w4 w5:=Q.trans (Below.drew (Q.refl w4)) hq3
 replace hQW:=Q.trans hQW hq4
 replace BU:=BU.keep hq4 BU.lt
 replace BP:=BP.keep hq4 BP.lt
 replace hc:=hc.keep hq4
 clear hq3 hq4 hEd hcd u0 u1 u2 p0 p1 p2 lBU lBP c0 lBC BC
 have hQ0:=Q.refl w5
 replace u0:=BU.cell 0
 replace u1:=BU.cell 1
 replace u2:=BU.cell 2
 simp only[zs4,zs5]at u0 u1 u2
 replace lBU:=BU.lt
 replace p0:=BP.cell 0
 replace p1:=BP.cell 1
 replace p2:=BP.cell 2
 simp only[zs4,zs5]at p0 p1 p2
 replace lBP:=BP.lt
 have BC:=hc
 unfold zac at BC
 replace c0:=BC.cell
 replace lBC:=BC.lt
 go_wp2_with fail
 refine cx (HV.out _ _ (hE.ofQ hQW) hc) fun w6 hq6=>?_
 have hc6:=hc.keep hq6
 have hQ6:=Q.trans hQW hq6
 have BT:=Blk.new w6 [.string ⟨AF.toArray⟩,.string ⟨RT.toArray⟩] 42
 go_wp2_with fail
 refine(HM.out _ _ _ (hE.ofQ (Q.trans hQ6 bt)) (hc6.keep bt) (TSl.one BT 1)).mono ?_
 intro e y h
 obtain⟨v,E,rfl,hq5,h⟩:=h.lift (Q.trans hQ6 bt)
 have H5':=LH h
 clear h
 go_wp2
 go_ret2
 exact⟨_,_,rfl,hq5,H5'.out⟩
end
section
open Go.RowKit Go.Shelf Kp
open Go.Lib (decDigits)
attribute [local go_sem] Oper.semAt_some
def zjB(A B:Rat)(d v:P3):List (Rat × Rat):=[(zbE (flR d v) / zbE (coR d v),1+(A*A+B*B))]
theorem znJ(m n:Vm)(hm:VmOk m)(hn:VmOk n)(hk:1≤m.k)(hk5:m.k≤5)(A B C:Rat)(bA:Bd 10 A)(bB:Bd 10 B)(hc0:coR (m.t.sub m.f) (n.t.sub n.f)≠0)(hd0:flR (m.t.sub m.f) (m.t.sub m.f)≠0)(hv0:flR (n.t.sub n.f) (n.t.sub n.f)≠0)(a:Option Addr)(nn cp:Nat)(w:World)(hE:Env w)
  (HCP:Hid (∀ b cap ty W,Env W→Q w W→Blk W b (m.c++n.c) ty→CR 40 #[.agg #[.slice a nn cp],.slice (some ⟨b,0,none⟩) 2 cap] W (.int .i64 0)))
  (HFA:Hid (∀ W,Env W→Q w W→CR 41 #[.agg #[.slice a nn cp],.int .i64 m.F] W (.tuple #[.agg #[.string ⟨(zh A).toArray⟩,.string ⟨(zh B).toArray⟩,.string ⟨(zh C).toArray⟩],.int .i64 0]))) :
  Calls Tryz.prog 19 #[.agg #[.slice a nn cp],.agg m.c.toArray,.agg n.c.toArray] w (MkP w (zjB A B (m.t.sub m.f) (n.t.sub n.f))):=by
 have HD:=LH (fun b w hw hb=>za3 m.k m.F m.O m.W m.D m.f m.t hm.f hm.t (by decide) b w hw hb)
 have HD2:=LH (fun b w hw hb=>za3 n.k n.F n.O n.W n.D n.f n.t hn.f hn.t (by decide) b w hw hb)
 have bu:B3 25 (m.t.sub m.f):=⟨zbm hm.t.1 hm.f.1,zbm hm.t.2.1 hm.f.2.1,zbm hm.t.2.2 hm.f.2.2⟩
 have bv:B3 25 (n.t.sub n.f):=⟨zbm hn.t.1 hn.f.1,zbm hn.t.2.1 hn.f.2.1,zbm hn.t.2.2 hn.f.2.2⟩
 generalize m.t.sub m.f=u at *
 generalize n.t.sub n.f=v at *
 clear hm hn
 have HUV:=LH (fun b w hw hb=>zcn u v bu bv (by decide) b w hw hb)
 have HCO:=LH (fun b w hw hb=>zkA u v bu bv (by decide) b w hw hb)
 have HUU:=LH (fun b w hw hb=>zcn u u bu bu (by decide) b w hw hb)
 have HVV:=LH (fun b w hw hb=>zcn v v bv bv (by decide) b w hw hb)
 have HS1:=LH (fun w=>(zc3 (flR u v) w).mono fun e w' h=>(show e=_∧Q w w' from⟨h.1,by rw[h.2];exact Q.refl _⟩))
 have HS2:=LH (fun w=>(zc3 (coR u v) w).mono fun e w' h=>(show e=_∧Q w w' from⟨h.1,by rw[h.2];exact Q.refl _⟩))
 have bco:Bd 101 (zbE (coR u v)):=ze8 ((zbm (bu.1.mul bv.2.1) (bu.2.1.mul bv.1)).mono (by decide))
 have buv:Bd 101 (zbE (flR u v)):=ze8 (((bu.1.mul bv.1).add (bu.2.1.mul bv.2.1)).mono (by decide))
 have bab:Bd 50 (A*A+B*B):=((bA.mul bA).add (bB.mul bB)).mono (by decide)
 have bsq:Bd 60 (1+(A*A+B*B)):=(zco.add bab).mono (by decide)
 have HAA:=LH (fun b w hw hb=>zbD A A bA bA (by decide) b w hw hb)
 have HBB:=LH (fun b w hw hb=>zbD B B bB bB (by decide) b w hw hb)
 have HAB:=LH (fun b w hw hb=>zgT (A*A) (B*B) (bA.mul bA) (bB.mul bB) (by decide) b w hw hb)
 have h1:=fun b w hw hb=>zgT 1 (A*A+B*B) zco bab (by decide) b w hw hb
 rw[zb0]at h1
 have H1:=LH h1
 have pco:=npos (zb3 hc0)
 have HV:=LH (fun b w hw hb=>zgS (zbE (flR u v)) (zbE (coR u v)) buv bco (by omega) (by decide) b w hw hb)
 have nz:∀ {q:Rat},q≠0→(zh q == [48])=false:=fun {q} h=>by
  rw[beq_eq_false_iff_ne,← zaN];exact fun e=>h (zaY e)
 have z1:=nz (zaw (zb3 hc0))
 have z2:=nz hd0
 have z3:=nz hv0
 have htw:∀ t∈zjB A B u v,TW t:=fun t ht=>by
  obtain rfl:=List.mem_singleton.1 ht
  refine⟨(buv.quot bco pco).zaj (by decide),bsq.zaj (by decide),Rat.num_nonneg.2 ?_⟩
  exact Rat.add_nonneg (by decide) (Rat.add_nonneg (sq_nonneg _) (sq_nonneg _))
 have hmk:=fun b v' w hw hb hv=>ze4 (zjB A B u v) htw (by unfold zjB;simp) b v' w hw hb hv
 rw[show (zjB A B u v).map ofT=[(zh (zbE (flR u v) / zbE (coR u v)),zh (1+(A*A+B*B)))]from rfl]at hmk
 have HM:=LH hmk
 clear hmk htw h1 bco buv bab bsq bu bv bA bB hc0 hd0 hv0 nz pco
 generalize zjB A B u v=T at *
 generalize zh (zbE (flR u v) / zbE (coR u v))=SH at *
 generalize zh (1+(A*A+B*B))=SQ at *
 generalize zh (A*A+B*B)=AB at *
 generalize zh (A*A)=AA at *
 generalize zh (B*B)=BB at *
 generalize zh (zbE (flR u v))=AF at *
 generalize zh (zbE (coR u v))=AC at *
 generalize zh (flR u v)=UV at *
 generalize zh (coR u v)=CO at *
 generalize zh (flR u u)=UU at *
 generalize zh (flR v v)=VV at *
 generalize zh A=SA at *
 generalize zh B=SB at *
 generalize zh C=SC at *
 obtain⟨k,F,O,f,t,W,D⟩:=m
 obtain⟨k',F',O',f',t',W',D'⟩:=n
 unfold Vm.c at *
 unfold VN V3 at HD HD2
 unfold V3 at HUV HCO HUU HVV
 simp only[List.cons_append,List.nil_append]at *
 generalize zh u.x=UX at *
 generalize zh u.y=UY at *
 generalize zh u.z=UZ at *
 generalize zh v.x=VX at *
 generalize zh v.y=VY at *
 generalize zh v.z=VZ at *
 generalize zh f.x=P1 at *
 generalize zh f.y=P2 at *
 generalize zh f.z=P3 at *
 generalize zh t.x=Q1 at *
 generalize zh t.y=Q2 at *
 generalize zh t.z=Q3 at *
 generalize zh f'.x=R1 at *
 generalize zh f'.y=R2 at *
 generalize zh f'.z=R3 at *
 generalize zh t'.x=S1 at *
 generalize zh t'.y=S2 at *
 generalize zh t'.z=S3 at *
 obtain⟨W0,hW0⟩:∃ W0,((w.alloc (.cells #[.slice a nn cp] 53)).alloc (.cells #[.int .i64 k,.int .i64 F,.int .i64 O,.string ⟨P1.toArray⟩,.string ⟨P2.toArray⟩,.string ⟨P3.toArray⟩,.string ⟨Q1.toArray⟩,.string ⟨Q2.toArray⟩,.string ⟨Q3.toArray⟩,.int .i64 W,.int .i64 D] 33)).alloc (.cells #[.int .i64 k',.int .i64 F',.int .i64 O',.string ⟨R1.toArray⟩,.string ⟨R2.toArray⟩,.string ⟨R3.toArray⟩,.string ⟨S1.toArray⟩,.string ⟨S2.toArray⟩,.string ⟨S3.toArray⟩,.int .i64 W',.int .i64 D'] 33)=W0:=⟨_,rfl⟩
 have hq0:Q w W0:=by rw[← hW0];exact bt
 have BR:Blk W0 w.heap.size [.slice a nn cp] 53:=by rw[← hW0];exact((Blk.new w _ _).alloc _).alloc _
 have BM:Blk W0 (w.heap.size+1) [.int .i64 k,.int .i64 F,.int .i64 O,.string ⟨P1.toArray⟩,.string ⟨P2.toArray⟩,.string ⟨P3.toArray⟩,.string ⟨Q1.toArray⟩,.string ⟨Q2.toArray⟩,.string ⟨Q3.toArray⟩,.int .i64 W,.int .i64 D] 33:=by rw[← hW0];exact(Blk.new1 w _ _ _).alloc _
 have BN:Blk W0 (w.heap.size+2) [.int .i64 k',.int .i64 F',.int .i64 O',.string ⟨R1.toArray⟩,.string ⟨R2.toArray⟩,.string ⟨R3.toArray⟩,.string ⟨S1.toArray⟩,.string ⟨S2.toArray⟩,.string ⟨S3.toArray⟩,.int .i64 W',.int .i64 D'] 33:=by rw[← hW0];exact Blk.new2 w _ _ _ _
 have k1:¬ k<1:=by omega
 have k2:¬ 5<k:=by omega
 have hQ0:=Q.refl W0
 replace r0:=BR.cell
 replace lBR:=BR.lt
 replace m0:=BM.cell
 replace lBM:=BM.lt
 replace n0:=BN.cell
 replace lBN:=BN.lt
 go_enter Tryz.func19,Tryz.ntmps19
 have BS:=Blk.new W0 [.int .i64 k,.int .i64 F,.int .i64 O,.string ⟨P1.toArray⟩,.string ⟨P2.toArray⟩,.string ⟨P3.toArray⟩,.string ⟨Q1.toArray⟩,.string ⟨Q2.toArray⟩,.string ⟨Q3.toArray⟩,.int .i64 W,.int .i64 D,.int .i64 k',.int .i64 F',.int .i64 O',.string ⟨R1.toArray⟩,.string ⟨R2.toArray⟩,.string ⟨R3.toArray⟩,.string ⟨S1.toArray⟩,.string ⟨S2.toArray⟩,.string ⟨S3.toArray⟩,.int .i64 W',.int .i64 D'] 33
 go_wp2_with fail
 refine cx (HCP.out _ _ _ _ (hE.ofQ (Q.trans hq0 bt)) (Q.trans hq0 bt) BS) fun G1 hq1=>?_
 have hs1:Q W0 G1:=Q.trans bt hq1
 have hQ1:Q W0 G1:=Q.trans hQ0 hs1
 replace BR:=BR.keep hs1 BR.lt
 replace r0:=BR.cell
 replace lBR:=BR.lt
 replace BM:=BM.keep hs1 BM.lt
 replace m0:=BM.cell
 replace lBM:=BM.lt
 replace BN:=BN.keep hs1 BN.lt
 replace n0:=BN.cell
 replace lBN:=BN.lt
 clear hW0 HCP BS
 go_wp2_with fail
 refine cx (HFA.out _ (hE.ofQ (Q.trans hq0 hQ1)) (Q.trans hq0 hQ1)) fun G2 hq2=>?_
 have hs2:Q G1 G2:=Q.trans bt hq2
 have hQ2:Q W0 G2:=Q.trans hQ1 hs2
 replace BR:=BR.keep hs2 BR.lt
 replace r0:=BR.cell
 replace lBR:=BR.lt
 replace BM:=BM.keep hs2 BM.lt
 replace m0:=BM.cell
 replace lBM:=BM.lt
 replace BN:=BN.keep hs2 BN.lt
 replace n0:=BN.cell
 replace lBN:=BN.lt
 clear HFA
 have BP0:=(Blk.new G2 [.string ⟨SA.toArray⟩,.string ⟨SB.toArray⟩,.string ⟨SC.toArray⟩] 86).alloc (.cells [.int .i64 0].toArray 68)
 have C0:zac _ (G2.heap.size+1):=Blk.new1 G2 (.cells ([.string ⟨SA.toArray⟩,.string ⟨SB.toArray⟩,.string ⟨SC.toArray⟩]:List Value).toArray 86) [.int .i64 0] 68
 clear BR lBR r0
 go_wp2_with fail
 obtain⟨W1,hW1⟩:∃ W1,(G2.alloc (.cells #[.string ⟨SA.toArray⟩,.string ⟨SB.toArray⟩,.string ⟨SC.toArray⟩] 86)).alloc (.cells #[.int .i64 0] 68)=W1:=⟨_,rfl⟩
 have hqW:Q G2 W1:=by rw[← hW1];exact bt
 have BP:Blk W1.drew G2.heap.size [.string ⟨SA.toArray⟩,.string ⟨SB.toArray⟩,.string ⟨SC.toArray⟩] 86:=by rw[← hW1];exact BP0.drew
 have hcd:zac W1.drew (G2.heap.size+1):=by rw[← hW1];exact C0.keep bt
 rw[hW1]
 clear hW1 BP0 C0
 have hwd:Q w W1.drew:=Q.trans hq0 (Q.trans hQ2 (Q.trans hqW bt))
 have hEd:Env W1.drew:=hE.ofQ hwd
 replace BM:=BM.keep (Q.trans hqW (Below.drew (Q.refl W1))) BM.lt
 replace BN:=BN.keep (Q.trans hqW (Below.drew (Q.refl W1))) BN.lt
 clear hq0 hq1 hq2 hs1 hs2 hQ0 hQ1 hQ2 hqW m0 lBM n0 lBN
 replace d0:=BM.cell 0
 replace d1:=BM.cell 1
 replace d2:=BM.cell 2
 replace d3:=BM.cell 3
 replace d4:=BM.cell 4
 replace d5:=BM.cell 5
 replace d6:=BM.cell 6
 replace d7:=BM.cell 7
 replace d8:=BM.cell 8
 replace d9:=BM.cell 9
 replace d10:=BM.cell 10
 simp only[zs4,zs5]at d0 d1 d2 d3 d4 d5 d6 d7 d8 d9 d10
 replace lBM:=BM.lt
 replace e0:=BN.cell 0
 replace e1:=BN.cell 1
 replace e2:=BN.cell 2
 replace e3:=BN.cell 3
 replace e4:=BN.cell 4
 replace e5:=BN.cell 5
 replace e6:=BN.cell 6
 replace e7:=BN.cell 7
 replace e8:=BN.cell 8
 replace e9:=BN.cell 9
 replace e10:=BN.cell 10
 simp only[zs4,zs5]at e0 e1 e2 e3 e4 e5 e6 e7 e8 e9 e10
 replace lBN:=BN.lt
 generalize G2.heap.size+1=gc at *
 generalize G2.heap.size=gp at *
 refine RF.zm (ρ:=zph W1.drew.heap.size) 10 (by kernel_rfl) (by kernel_rfl) rfl ?_
 refine RF.svp 0 ?_
 refine RF.svq 1 rfl (by intro w' hq;have hc0:=za (hq (Nat.le_refl _)) d0;have hc1:=za (hq (Nat.le_refl _)) d1;have hc2:=za (hq (Nat.le_refl _)) d2;have hc3:=za (hq (Nat.le_refl _)) d3;have hc4:=za (hq (Nat.le_refl _)) d4;have hc5:=za (hq (Nat.le_refl _)) d5;have hc6:=za (hq (Nat.le_refl _)) d6;have hc7:=za (hq (Nat.le_refl _)) d7;have hc8:=za (hq (Nat.le_refl _)) d8;have hc9:=za (hq (Nat.le_refl _)) d9;have hc10:=za (hq (Nat.le_refl _)) d10;go_simp;try with_reducible rfl) ?_
 refine RF.ze (i:=2) (v:=_) rfl rfl (by kernel_rfl) (by kernel_rfl) (fun _ _ _ h=>h) (by rfl) ?_ (fun w' hq=>HD.out _ w' (hEd.ofQ (hq (Nat.le_refl _))) (hcd.keep (hq (Nat.le_refl _)))) ?_
 ·(intro w' hq;go_simp;try with_reducible rfl)
 simp only[Act.put,zs1,zs2,zs3]
 refine RF.svp 3 ?_
 refine RF.svq 4 rfl (by intro w' hq;have hc0:=za (hq (Nat.le_refl _)) e0;have hc1:=za (hq (Nat.le_refl _)) e1;have hc2:=za (hq (Nat.le_refl _)) e2;have hc3:=za (hq (Nat.le_refl _)) e3;have hc4:=za (hq (Nat.le_refl _)) e4;have hc5:=za (hq (Nat.le_refl _)) e5;have hc6:=za (hq (Nat.le_refl _)) e6;have hc7:=za (hq (Nat.le_refl _)) e7;have hc8:=za (hq (Nat.le_refl _)) e8;have hc9:=za (hq (Nat.le_refl _)) e9;have hc10:=za (hq (Nat.le_refl _)) e10;go_simp;try with_reducible rfl) ?_
 refine RF.ze (i:=5) (v:=_) rfl rfl (by kernel_rfl) (by kernel_rfl) (fun _ _ _ h=>h) (by rfl) ?_ (fun w' hq=>HD2.out _ w' (hEd.ofQ (hq (Nat.le_refl _))) (hcd.keep (hq (Nat.le_refl _)))) ?_
 ·(intro w' hq;go_simp;try with_reducible rfl)
 simp only[Act.put,zs1,zs2,zs3]
 refine RF.zdn (i:=6) (j:=7) (.cells #[.string ⟨#[]⟩,.string ⟨#[]⟩,.string ⟨#[]⟩] 29) (.cells #[.string ⟨#[]⟩,.string ⟨#[]⟩,.string ⟨#[]⟩] 29) rfl rfl rfl rfl (by kernel_rfl) (by rfl) (by rfl) (fun w' hq=>?_) (fun w' hq=>?_) (fun w1 hq1=>?_) (fun w1 hq1=>?_)
 ·go_simp;try with_reducible rfl
 ·go_simp;try with_reducible rfl
 case' _ =>
  simp only[Act.put,zs1,zs2,zs3]
  refine RF.zae (i:=7) (.cells #[.string ⟨#[]⟩,.string ⟨#[]⟩,.string ⟨#[]⟩] 29) rfl rfl (by kernel_rfl) (by rfl) (fun w' hq=>by go_simp;try with_reducible rfl) (fun w2 hq2=>?_)
  simp only[Act.put,zs1,zs2,zs3]
  have hT:=((Blk.new w1 [.string ⟨#[]⟩,.string ⟨#[]⟩,.string ⟨#[]⟩] 29).keep hq2 (by simp)).alloc (.cells #[.string ⟨#[]⟩,.string ⟨#[]⟩,.string ⟨#[]⟩] 29)
  have hU:=Blk.new w2 [.string ⟨#[]⟩,.string ⟨#[]⟩,.string ⟨#[]⟩] 29
  have hq6:Q W1.drew (w2.alloc (.cells #[.string ⟨#[]⟩,.string ⟨#[]⟩,.string ⟨#[]⟩] 29)):=Q.trans hq1 (Q.trans ((Below.refl _ w1).alloc (Nat.le_refl _) (.cells #[.string ⟨#[]⟩,.string ⟨#[]⟩,.string ⟨#[]⟩] 29)) (Q.trans hq2 ((Below.refl _ w2).alloc (Nat.le_refl _) (.cells #[.string ⟨#[]⟩,.string ⟨#[]⟩,.string ⟨#[]⟩] 29))))
  have hz:=hq2.size
  rw[World.size_alloc]at hz
  have hbp:W1.drew.heap.size≤w1.heap.size:=by have:=hq1.size;omega
  have hbq:W1.drew.heap.size≤w2.heap.size:=by have:=hq1.size;omega
  have hpq:w1.heap.size≠w2.heap.size:=by omega
  generalize w2.alloc _=W6 at *
  generalize w1.heap.size=p at *
  generalize w2.heap.size=q at *
  clear hz hq1 hq2
 rotate_left
 case' _ =>
  simp only[Act.put,zs1,zs2,zs3]
  refine RF.zae (i:=6) (.cells #[.string ⟨#[]⟩,.string ⟨#[]⟩,.string ⟨#[]⟩] 29) rfl rfl (by kernel_rfl) (by rfl) (fun w' hq=>by go_simp;try with_reducible rfl) (fun w2 hq2=>?_)
  simp only[Act.put,zs1,zs2,zs3]
  have hU:=((Blk.new w1 [.string ⟨#[]⟩,.string ⟨#[]⟩,.string ⟨#[]⟩] 29).keep hq2 (by simp)).alloc (.cells #[.string ⟨#[]⟩,.string ⟨#[]⟩,.string ⟨#[]⟩] 29)
  have hT:=Blk.new w2 [.string ⟨#[]⟩,.string ⟨#[]⟩,.string ⟨#[]⟩] 29
  have hq6:Q W1.drew (w2.alloc (.cells #[.string ⟨#[]⟩,.string ⟨#[]⟩,.string ⟨#[]⟩] 29)):=Q.trans hq1 (Q.trans ((Below.refl _ w1).alloc (Nat.le_refl _) (.cells #[.string ⟨#[]⟩,.string ⟨#[]⟩,.string ⟨#[]⟩] 29)) (Q.trans hq2 ((Below.refl _ w2).alloc (Nat.le_refl _) (.cells #[.string ⟨#[]⟩,.string ⟨#[]⟩,.string ⟨#[]⟩] 29))))
  have hz:=hq2.size
  rw[World.size_alloc]at hz
  have hbp:W1.drew.heap.size≤w2.heap.size:=by have:=hq1.size;omega
  have hbq:W1.drew.heap.size≤w1.heap.size:=by have:=hq1.size;omega
  have hpq:w2.heap.size≠w1.heap.size:=by omega
  generalize w2.alloc _=W6 at *
  generalize w2.heap.size=p at *
  generalize w1.heap.size=q at *
  clear hz hq1 hq2
 all_goals
  refine RF.zan (i:=8) (fun w'=>((w'.setCell ⟨p,0,none⟩ (.string ⟨UX.toArray⟩)).setCell ⟨p,1,none⟩ (.string ⟨UY.toArray⟩)).setCell ⟨p,2,none⟩ (.string ⟨UZ.toArray⟩)) rfl rfl (by kernel_rfl) (by rfl) (fun w' hq=>?_) (fun w'=>zim hbp w') (fun w7 hq7=>?_)
  ·have hc:=hT.keep hq hT.lt
   have e0:=hc.cell
   have f0:=hc.frozen
   go_simp;try with_reducible rfl
  simp only[Act.put]
  have hT7:=(((hT.keep hq7 hT.lt).set 0 (.string ⟨UX.toArray⟩)).set 1 (.string ⟨UY.toArray⟩)).set 2 (.string ⟨UZ.toArray⟩)
  have hU7:=(((hU.keep hq7 hU.lt).setOther hpq 0 (.string ⟨UX.toArray⟩)).setOther hpq 1 (.string ⟨UY.toArray⟩)).setOther hpq 2 (.string ⟨UZ.toArray⟩)
  simp only[List.set_cons_zero,List.set_cons_succ]at hT7
  have hl7:Below W1.drew.heap.size W1.drew (((w7.setCell ⟨p,0,none⟩ (.string ⟨UX.toArray⟩)).setCell ⟨p,1,none⟩ (.string ⟨UY.toArray⟩)).setCell ⟨p,2,none⟩ (.string ⟨UZ.toArray⟩)):=(((Q.trans hq6 hq7).setCell (p:=⟨p,0,none⟩) hbp _).setCell (p:=⟨p,1,none⟩) hbp _).setCell (p:=⟨p,2,none⟩) hbp _
  clear hT hU hq6 hq7
  generalize ((w7.setCell ⟨p,0,none⟩ (.string ⟨UX.toArray⟩)).setCell ⟨p,1,none⟩ (.string ⟨UY.toArray⟩)).setCell ⟨p,2,none⟩ (.string ⟨UZ.toArray⟩)=w8 at *
  refine RF.zan (i:=9) (fun w'=>((w'.setCell ⟨q,0,none⟩ (.string ⟨VX.toArray⟩)).setCell ⟨q,1,none⟩ (.string ⟨VY.toArray⟩)).setCell ⟨q,2,none⟩ (.string ⟨VZ.toArray⟩)) rfl rfl (by kernel_rfl) (by rfl) (fun w' hq=>?_) (fun w'=>zim hbq w') (fun w9 hq9=>?_)
  ·have hc:=hU7.keep hq hU7.lt
   have e0:=hc.cell
   have f0:=hc.frozen
   go_simp;try with_reducible rfl
  simp only[Act.put]
  have hT9:=(((hT7.keep hq9 hT7.lt).setOther (Ne.symm hpq) 0 (.string ⟨VX.toArray⟩)).setOther (Ne.symm hpq) 1 (.string ⟨VY.toArray⟩)).setOther (Ne.symm hpq) 2 (.string ⟨VZ.toArray⟩)
  have hU9:=(((hU7.keep hq9 hU7.lt).set 0 (.string ⟨VX.toArray⟩)).set 1 (.string ⟨VY.toArray⟩)).set 2 (.string ⟨VZ.toArray⟩)
  simp only[List.set_cons_zero,List.set_cons_succ]at hU9
  have hl9:Below W1.drew.heap.size W1.drew (((w9.setCell ⟨q,0,none⟩ (.string ⟨VX.toArray⟩)).setCell ⟨q,1,none⟩ (.string ⟨VY.toArray⟩)).setCell ⟨q,2,none⟩ (.string ⟨VZ.toArray⟩)):=(((Below.trans hl7 (hq9.mono hl7.size)).setCell (p:=⟨q,0,none⟩) hbq _).setCell (p:=⟨q,1,none⟩) hbq _).setCell (p:=⟨q,2,none⟩) hbq _
  clear hT7 hU7 hl7 hq9
  generalize ((w9.setCell ⟨q,0,none⟩ (.string ⟨VX.toArray⟩)).setCell ⟨q,1,none⟩ (.string ⟨VY.toArray⟩)).setCell ⟨q,2,none⟩ (.string ⟨VZ.toArray⟩)=w10 at *
  refine RF.zi (by kernel_rfl) (fun w3 hq3=>?_)
  simp only[List.drop_succ_cons,List.drop_nil]
  have hqq:Q W1.drew w3:=Below.trans hl9 (hq3.mono hl9.size)
  have BU:=hT9.keep hq3 hT9.lt
  have BV:=hU9.keep hq3 hU9.lt
  replace BP:=BP.keep hqq BP.lt
  have hQW:Q w w3:=Q.trans hwd hqq
  have hc:=hcd.keep hqq
  clear hT9 hU9 hl9 hq3 hqq hcd hEd hwd BM BN d0 d1 d2 d3 d4 d5 d6 d7 d8 d9 d10 e0 e1 e2 e3 e4 e5 e6 e7 e8 e9 e10 lBM lBN HD HD2 hbp hbq hpq
  have hQ0:=Q.refl w3
  replace u0:=BU.cell 0
  replace u1:=BU.cell 1
  replace u2:=BU.cell 2
  simp only[zs4,zs5]at u0 u1 u2
  replace lBU:=BU.lt
  replace v0:=BV.cell 0
  replace v1:=BV.cell 1
  replace v2:=BV.cell 2
  simp only[zs4,zs5]at v0 v1 v2
  replace lBV:=BV.lt
  go_wp2_with fail
  have hEd:Env w3.drew:=hE.ofQ (Q.trans hQW (Below.drew (Q.refl w3)))
  have hcd:zac w3.drew gc:=hc.keep (Below.drew (Q.refl w3))
  refine zm 10 rfl (by kernel_rfl) rfl ?_
  refine svp 0 ?_
  refine svq 1 rfl (by intro w' hq;have hc0:=za hq u0;have hc1:=za hq u1;have hc2:=za hq u2;go_simp;try with_reducible rfl) ?_
  refine svq 2 rfl (by intro w' hq;have hc0:=za hq v0;have hc1:=za hq v1;have hc2:=za hq v2;go_simp;try with_reducible rfl) ?_
  refine ze (i:=3) (v:=_) rfl rfl (by kernel_rfl) (by kernel_rfl) (fun _ _ _ h=>h) (by rfl) ?_ (fun w' hq=>HUV.out _ w' (hEd.ofQ hq) (hcd.keep hq)) ?_
  ·(intro w' hq;go_simp;try with_reducible rfl)
  simp only[Act.put,zs1,zs2,zs3]
  refine ze (i:=4) (v:=_) rfl rfl (by kernel_rfl) (by kernel_rfl) (fun _ _ _ h=>h) (by rfl) ?_ (fun w' hq=>HS1.out w') ?_
  ·(intro w' hq;go_simp;try with_reducible rfl)
  simp only[Act.put,zs1,zs2,zs3]
  refine svp 5 ?_
  refine svq 6 rfl (by intro w' hq;have hc0:=za hq u0;have hc1:=za hq u1;have hc2:=za hq u2;go_simp;try with_reducible rfl) ?_
  refine svq 7 rfl (by intro w' hq;have hc0:=za hq v0;have hc1:=za hq v1;have hc2:=za hq v2;go_simp;try with_reducible rfl) ?_
  refine ze (i:=8) (v:=_) rfl rfl (by kernel_rfl) (by kernel_rfl) (fun _ _ _ h=>h) (by rfl) ?_ (fun w' hq=>HCO.out _ w' (hEd.ofQ hq) (hcd.keep hq)) ?_
  ·(intro w' hq;go_simp;try with_reducible rfl)
  simp only[Act.put,zs1,zs2,zs3]
  refine ze (i:=9) (v:=_) rfl rfl (by kernel_rfl) (by kernel_rfl) (fun _ _ _ h=>h) (by rfl) ?_ (fun w' hq=>HS2.out w') ?_
  ·(intro w' hq;go_simp;try with_reducible rfl)
  simp only[Act.put,zs1,zs2,zs3]
  refine zi (by kernel_rfl) (fun w4 hq3=>?_)
  simp only[List.drop_succ_cons]
  have hq4:Q w3 w4:=Q.trans (Below.drew (Q.refl w3)) hq3
  replace hQW:=Q.trans hQW hq4
  replace BU:=BU.keep hq4 BU.lt
  replace BV:=BV.keep hq4 BV.lt
  replace BP:=BP.keep hq4 BP.lt
  replace hc:=hc.keep hq4
  clear hq3 hq4 hEd hcd u0 u1 u2 v0 v1 v2 lBU lBV HUV HCO HS1 HS2
  have hQ0:=Q.refl w4
  replace u0:=BU.cell 0
  replace u1:=BU.cell 1
  replace u2:=BU.cell 2
  simp only[zs4,zs5]at u0 u1 u2
  replace lBU:=BU.lt
  replace v0:=BV.cell 0
  replace v1:=BV.cell 1
  replace v2:=BV.cell 2
  simp only[zs4,zs5]at v0 v1 v2
  replace lBV:=BV.lt
  have BC:=hc
  unfold zac at BC
  replace c0:=BC.cell
  replace lBC:=BC.lt
  go_wp2_with fail
  refine cx (HUU.out _ _ (hE.ofQ hQW) hc) fun w5 hq5=>?_
  replace hQW:=Q.trans hQW hq5
  replace BV:=BV.keep hq5 BV.lt
  replace BP:=BP.keep hq5 BP.lt
  replace hc:=hc.keep hq5
  clear hq5 u0 u1 u2 v0 v1 v2 lBU BU lBV HUU BC c0 lBC
  replace v0:=BV.cell 0
  replace v1:=BV.cell 1
  replace v2:=BV.cell 2
  simp only[zs4,zs5]at v0 v1 v2
  replace lBV:=BV.lt
  have BC:=hc
  unfold zac at BC
  replace c0:=BC.cell
  replace lBC:=BC.lt
  go_wp2_with fail
  refine cx (HVV.out _ _ (hE.ofQ hQW) hc) fun w6 hq5=>?_
  replace hQW:=Q.trans hQW hq5
  replace BP:=BP.keep hq5 BP.lt
  replace hc:=hc.keep hq5
  clear hq5 v0 v1 v2 lBV BV HVV BC c0 lBC
  have hQ0:=Q.refl w6
  replace p0:=BP.cell 0
  replace p1:=BP.cell 1
  replace p2:=BP.cell 2
  simp only[zs4,zs5]at p0 p1 p2
  replace lBP:=BP.lt
  go_wp2_with fail
  have hEd:Env w6.drew:=hE.ofQ (Q.trans hQW (Below.drew (Q.refl w6)))
  have hcd:zac w6.drew gc:=hc.keep (Below.drew (Q.refl w6))
  refine zm 16 rfl (by kernel_rfl) rfl ?_
  refine svp 0 ?_
  refine svp 1 ?_
  refine svp 2 ?_
  refine svp 3 ?_
  refine svq 4 rfl (by intro w' hq;have hc0:=za hq p0;go_simp;try with_reducible rfl) ?_
  refine svp 5 ?_
  refine svq 6 rfl (by intro w' hq;have hc0:=za hq p0;go_simp;try with_reducible rfl) ?_
  refine ze (i:=7) (v:=_) rfl rfl (by kernel_rfl) (by kernel_rfl) (fun _ _ _ h=>h) (by rfl) ?_ (fun w' hq=>HAA.out _ w' (hEd.ofQ hq) (hcd.keep hq)) ?_
  ·(intro w' hq;go_simp;try with_reducible rfl)
  simp only[Act.put,zs1,zs2,zs3]
  refine svp 8 ?_
  refine svp 9 ?_
  refine svq 10 rfl (by intro w' hq;have hc0:=za hq p1;go_simp;try with_reducible rfl) ?_
  refine svp 11 ?_
  refine svq 12 rfl (by intro w' hq;have hc0:=za hq p1;go_simp;try with_reducible rfl) ?_
  refine ze (i:=13) (v:=_) rfl rfl (by kernel_rfl) (by kernel_rfl) (fun _ _ _ h=>h) (by rfl) ?_ (fun w' hq=>HBB.out _ w' (hEd.ofQ hq) (hcd.keep hq)) ?_
  ·(intro w' hq;go_simp;try with_reducible rfl)
  simp only[Act.put,zs1,zs2,zs3]
  refine ze (i:=14) (v:=_) rfl rfl (by kernel_rfl) (by kernel_rfl) (fun _ _ _ h=>h) (by rfl) ?_ (fun w' hq=>HAB.out _ w' (hEd.ofQ hq) (hcd.keep hq)) ?_
  ·(intro w' hq;go_simp;try with_reducible rfl)
  simp only[Act.put,zs1,zs2,zs3]
  refine ze (i:=15) (v:=_) rfl rfl (by kernel_rfl) (by kernel_rfl) (fun _ _ _ h=>h) (by rfl) ?_ (fun w' hq=>H1.out _ w' (hEd.ofQ hq) (hcd.keep hq)) ?_
  ·(intro w' hq;go_simp;try with_reducible rfl)
  simp only[Act.put,zs1,zs2,zs3]
  refine zi (by kernel_rfl) (fun w7 hq3=>?_)
  simp only[List.drop_succ_cons]
  have hq4:Q w6 w7:=Q.trans (Below.drew (Q.refl w6)) hq3
  replace hQW:=Q.trans hQW hq4
  replace hc:=hc.keep hq4
  clear hq3 hq4 hEd hcd p0 p1 p2 lBP BP HAA HBB HAB H1
  go_wp2_with fail
  refine cx (HV.out _ _ (hE.ofQ hQW) hc) fun w8 hq6=>?_
  have hc6:=hc.keep hq6
  have hQ6:=Q.trans hQW hq6
  have BT:=Blk.new w8 [.string ⟨SH.toArray⟩,.string ⟨SQ.toArray⟩] 42
  go_wp2_with fail
  refine(HM.out _ _ _ (hE.ofQ (Q.trans hQ6 bt)) (hc6.keep bt) (TSl.one BT 1)).mono ?_
  intro e y h
  obtain⟨v,E,rfl,hq5,h⟩:=h.lift (Q.trans hQ6 bt)
  have H5':=LH h
  clear h
  go_wp2
  go_ret2
  exact⟨_,_,rfl,hq5,H5'.out⟩
end
end Go.Proofs.YtagkadlaeeoblaaGreatDoor
