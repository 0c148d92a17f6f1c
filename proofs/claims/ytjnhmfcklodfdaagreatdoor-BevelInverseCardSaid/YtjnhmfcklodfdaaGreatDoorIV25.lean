/-
  Walks of package bevel: the plane of a side's front.; Walks of package bevel: the backing of a member against a face.
-/
import Derived.Test.YtjnhmfcklodfdaaGreatDoorIV24
import Derived.Test.YtjnhmfcklodfdaaGreatDoorIV15
import Derived.Laws.CopyRow
import Derived.Laws.CopyOwn
set_option maxRecDepth 100000
set_option maxHeartbeats 8000000
namespace Go.Proofs.YtjnhmfcklodfdaaGreatDoor
section
open Go.RowKit Go.Shelf Kp
attribute [local go_sem] Oper.semAt_some
theorem zp1(R:List (List Sd))(hp:zdR R=0)(hlen:R.length≤1000)(a:Option Addr)(nn cp:Nat)(i:Nat)(hi:i<R.flatten.length)(hg:(zcN R.flatten i).gable=false)(F:Fr)(hF:(zb9 R)[i]? = some F)(hs:F.speed≠0)(w:World)(hE:Env w)(hv:zj0 w (.slice a nn cp) R) :
  CR 43 #[.agg #[.slice a nn cp],.int .i64 i] w (.tuple #[.agg (zrL F).toArray,.int .i64 0]):=by
 have ok:=zls hp
 have HV:=LH hv
 have HS1:Hid (∀ W,Q w W→Calls Tryz.prog 86 #[.agg #[.slice a nn cp]] W fun e w'=>∃ v',e=.returned (.tuple #[v',.int .i64 0])∧Q W w'∧zdc 7 sdC w' v' R.flatten):=LH (fun W hq=>zpm R hp hlen _ W (HV.out.keep hq))
 have HA:Hid (∀ W,Env W→Q w W→Calls Tryz.prog 87 #[.agg #[.slice a nn cp]] W fun e w'=>∃ v',e=.returned (.tuple #[v',.int .i64 0])∧w'.ownsRow W.heap.size 150 5 v' R.flatten.length (rowOf frC (zb9 R))∧Q W w'):=LH (fun W hW hq=>zrn R hp hlen _ W hW (HV.out.keep hq))
 have hrl:0<R.flatten.length:=by omega
 have h24:R.flatten.length≤24:=by rw[count_flatten];exact ok.le
 have hfl:i<(zb9 R).length:=(List.getElem?_eq_some_iff.1 hF).1
 have hFe:(zb9 R)[i]=F:=(List.getElem?_eq_some_iff.1 hF).2
 have okF:=zpO ok.rg _ (List.getElem_mem hfl)
 rw[hFe]at okF
 have hpf:=fun w hw=>zn0 F okF hs w hw
 obtain⟨X,Y,Z,hpl⟩:∃ X Y Z:Str,zrL F=[.string ⟨X.toArray⟩,.string ⟨Y.toArray⟩,.string ⟨Z.toArray⟩]:=by
  unfold zrL
  split
  ·exact⟨_,[48],_,rfl⟩
  ·exact⟨[48],_,_,rfl⟩
 rw[hpl]at hpf ⊢
 have HP:=LH hpf
 clear hpf hpl
 obtain⟨W0,hW0⟩:∃ W0,(w.alloc (.cells #[.slice a nn cp] 49)).alloc (.cells #[.string ⟨#[]⟩,.string ⟨#[]⟩,.string ⟨#[]⟩] 89)=W0:=⟨_,rfl⟩
 have hq0:Q w W0:=by rw[← hW0];exact bt
 have BR:Blk W0 w.heap.size [.slice a nn cp] 49:=by rw[← hW0];exact(Blk.new w _ _).alloc _
 have BZ:Blk W0 (w.heap.size+1) [.string ⟨#[]⟩,.string ⟨#[]⟩,.string ⟨#[]⟩] 89:=by rw[← hW0];exact Blk.new1 w _ _ _
 have hE0:=hE.ofQ hq0
 clear hv HV hp ok hF hE hs okF
 generalize hS:R.flatten=S at *
 have hQ0:=Q.refl W0
 replace r0:=BR.cell
 replace lBR:=BR.lt
 replace z0:=BZ.cell 0
 replace z1:=BZ.cell 1
 replace z2:=BZ.cell 2
 simp only[zs4,zs5]at z0 z1 z2
 replace lBZ:=BZ.lt
 go_enter Tryz.func43,Tryz.ntmps43
 go_wp2_with fail
 refine(HS1.out _ hq0).mono ?_
 rintro e U1⟨vs,rfl,hq1,hrow⟩
 have hs1:Q W0 U1:=Q.trans bt hq1
 have hQ1:Q W0 U1:=Q.trans hQ0 hs1
 replace BR:=BR.keep hs1 BR.lt
 replace r0:=BR.cell
 replace lBR:=BR.lt
 replace BZ:=BZ.keep hs1 BZ.lt
 replace z0:=BZ.cell 0
 replace z1:=BZ.cell 1
 replace z2:=BZ.cell 2
 simp only[zs4,zs5]at z0 z1 z2
 replace lBZ:=BZ.lt
 obtain⟨ra,rcap,rfl,-⟩:=id hrow
 clear HS1 hW0
 have hln:(i:Int)<S.length:=by omega
 have hn0:(0:Int)≤i:=by omega
 obtain⟨-,hrw,-⟩:=zdc.at hrow
 obtain⟨b,o,rfl,hd⟩:=hrw i hi
 have d4:U1.cell? ⟨b,o+i*7+4,none⟩=some (.bool (zcN S i).gable):=hd 4 _ rfl
 rw[hg]at d4
 clear hd hrw
 go_wp2_with fail
 refine(HA.out _ (hE0.ofQ bt) (Q.trans hq0 hQ1)).mono ?_
 rintro e U2⟨vf,rfl,hown,hq2⟩
 have hs2:Q U1 U2:=Q.trans bt hq2
 have hQ2:Q W0 U2:=Q.trans hQ1 hs2
 replace BR:=BR.keep hs2 BR.lt
 replace r0:=BR.cell
 replace lBR:=BR.lt
 replace BZ:=BZ.keep hs2 BZ.lt
 replace z0:=BZ.cell 0
 replace z1:=BZ.cell 1
 replace z2:=BZ.cell 2
 simp only[zs4,zs5]at z0 z1 z2
 replace lBZ:=BZ.lt
 clear HA d4
 obtain⟨fg,fcap,rfl⟩:=znw hown hrl
 have hfc:∀ j u,j<5→(frC F)[j]? = some u→U2.cell? ⟨fg,i*5+j,none⟩=some u:=fun j u hj hu=>by
  have:=hown.cells rfl (i*5+j) u (by rw[zdl ztL _ i hfl j hj,hFe];exact hu)
  rw[Addr.add_lit,Nat.zero_add]at this
  exact this
 clear hown hrow
 unfold frC at hfc HP
 have f0:=hfc 0 _ (by decide) rfl
 have f1:=hfc 1 _ (by decide) rfl
 have f2:=hfc 2 _ (by decide) rfl
 have f3:=hfc 3 _ (by decide) rfl
 have f4:=hfc 4 _ (by decide) rfl
 rw[Nat.add_zero]at f0
 clear hfc
 generalize hl:S.length=rl at *
 go_wp2_with fail
 refine cx (HP.out _ (hE0.ofQ hQ2)) fun U3 hq3=>?_
 have B3:=BZ.keep hq3 BZ.lt
 have z3:=B3.cell
 have zf:=B3.frozen
 have hw3:Q w U3:=Q.trans hq0 (Q.trans hQ2 hq3)
 have R3:=((B3.set 0 (.string ⟨X.toArray⟩)).set 1 (.string ⟨Y.toArray⟩)).set 2 (.string ⟨Z.toArray⟩)
 simp only[List.set_cons_zero,List.set_cons_succ]at R3
 have hQ:=((hw3.setCell (p:=⟨w.heap.size+1,0,none⟩) (by simp) (.string ⟨X.toArray⟩)).setCell (p:=⟨w.heap.size+1,1,none⟩) (by simp) (.string ⟨Y.toArray⟩)).setCell (p:=⟨w.heap.size+1,2,none⟩) (by simp) (.string ⟨Z.toArray⟩)
 clear f0 f1 f2 f3 f4 hq3
 go_wp2
 refine bodyPost_ret (zfW R3 Tryz.f43 4 5 rfl _ _ rfl rfl) rfl ⟨rfl,hQ⟩
theorem zjU(R:List (List Sd))(hp:zdR R=0)(hlen:R.length≤1000)(hcn:zaF R≤1000)(a:Option Addr)(nn cp:Nat)(l:List Vm)(hl:∀ m∈l,VmOk m)(h2:l.length≤2)(b cap:Nat)(ty:TypeId)(w:World)(hE:Env w)(hv:zj0 w (.slice a nn cp) R)(hb:Blk w b (l.flatMap Vm.c) ty) :
  CR 42 #[.agg #[.slice a nn cp],.slice (some ⟨b,0,none⟩) l.length cap] w (.int .i64 0):=by
 have HC:=LH (fun W hW (hq:Q w W)=>zdu l hl h2 b cap ty W hW (hb.keep hq hb.lt))
 have hpc:=fun W (hq:Q w W)=>zhs R hlen hcn _ W (hv.keep hq)
 rw[hp]at hpc
 have HP:=LH hpc
 clear hpc hv hb hl h2 hp hlen hcn
 generalize l.length=n at *
 obtain⟨W0,hW0⟩:∃ W0,w.alloc (.cells #[.slice a nn cp] 49)=W0:=⟨_,rfl⟩
 have hq0:Q w W0:=by rw[← hW0];exact bt
 have BR:Blk W0 w.heap.size [.slice a nn cp] 49:=by rw[← hW0];exact Blk.new w _ _
 have hE0:=hE.ofQ hq0
 have hQ0:=Q.refl W0
 replace r0:=BR.cell
 replace lBR:=BR.lt
 go_enter Tryz.func42,Tryz.ntmps42
 go_wp2_with fail
 refine cx (HC.out _ hE0 hq0) fun U1 hq1=>?_
 have hs1:Q W0 U1:=Q.trans bt hq1
 have hQ1:Q W0 U1:=Q.trans hQ0 hs1
 replace BR:=BR.keep hs1 BR.lt
 replace r0:=BR.cell
 replace lBR:=BR.lt
 clear hW0 HC
 go_wp2_with fail
 refine cx (HP.out _ (Q.trans hq0 hQ1)) fun U2 hq2=>?_
 have hs2:Q U1 U2:=Q.trans bt hq2
 have hQ2:Q W0 U2:=Q.trans hQ1 hs2
 replace BR:=BR.keep hs2 BR.lt
 replace r0:=BR.cell
 replace lBR:=BR.lt
 have hQe:=Q.trans hq0 hQ2
 go_wp2
 go_ret
 exact⟨rfl,hQe⟩
def zl2(A B:Rat)(d:P3):List (Rat × Rat):=[(zc4 (A*d.y - B*d.x),1 / (flR d d+d.z*d.z))]
theorem zl0(m:Vm)(hm:VmOk m)(A B C:Rat)(bA:Bd 10 A)(bB:Bd 10 B)(hr:A*(m.t.sub m.f).x+B*(m.t.sub m.f).y=(m.t.sub m.f).z)(hl0:0<flR (m.t.sub m.f) (m.t.sub m.f)+(m.t.sub m.f).z*(m.t.sub m.f).z)(a:Option Addr)(nn cp:Nat)(i:Nat)(w:World)(hE:Env w)
  (HCP:Hid (∀ b cap ty W,Env W→Q w W→Blk W b m.c ty→CR 42 #[.agg #[.slice a nn cp],.slice (some ⟨b,0,none⟩) 1 cap] W (.int .i64 0)))
  (HFA:Hid (∀ W,Env W→Q w W→CR 43 #[.agg #[.slice a nn cp],.int .i64 i] W (.tuple #[.agg #[.string ⟨(ze A).toArray⟩,.string ⟨(ze B).toArray⟩,.string ⟨(ze C).toArray⟩],.int .i64 0]))) :
  Calls Tryz.prog 337 #[.agg #[.slice a nn cp],.agg m.c.toArray,.int .i64 i] w (MkP w (zl2 A B (m.t.sub m.f))):=by
 have bd:B3 25 (m.t.sub m.f):=⟨zbP hm.t.1 hm.f.1,zbP hm.t.2.1 hm.f.2.1,zbP hm.t.2.2 hm.f.2.2⟩
 have HD:=LH (fun b w hw hb=>zbk m.k m.F m.O m.W m.D m.f m.t hm.f hm.t (by decide) b w hw hb)
 generalize hdd:m.t.sub m.f=d at *
 clear hdd hm
 have H1:=LH (fun b w hw hb=>zcu A d.x bA bd.1 (by decide) b w hw hb)
 have H2:=LH (fun b w hw hb=>zcu B d.y bB bd.2.1 (by decide) b w hw hb)
 have h3:=fun b w hw hb=>zhb (A*d.x) (B*d.y) (bA.mul bd.1) (bB.mul bd.2.1) (by decide) b w hw hb
 rw[hr]at h3
 have H3:=LH h3
 have H4:=LH (fun b w hw hb=>zcu A d.y bA bd.2.1 (by decide) b w hw hb)
 have H5:=LH (fun b w hw hb=>zcu B d.x bB bd.1 (by decide) b w hw hb)
 have H6:=LH (fun b w hw hb=>zoL (A*d.y) (B*d.x) (bA.mul bd.2.1) (bB.mul bd.1) (by decide) b w hw hb)
 have H7:=LH (fun w=>(zei (A*d.y - B*d.x) w).mono fun e w' h=>(show e=_∧Q w w' from⟨h.1,by rw[h.2];exact Q.refl _⟩))
 have H8:=LH (fun b w hw hb=>zds d d bd bd (by decide) b w hw hb)
 have H9:=LH (fun b w hw hb=>zcu d.z d.z bd.2.2 bd.2.2 (by decide) b w hw hb)
 have bf:Bd 101 (flR d d):=((bd.1.mul bd.1).add (bd.2.1.mul bd.2.1)).mono (by decide)
 have bs:Bd 152 (flR d d+d.z*d.z):=(bf.add (bd.2.2.mul bd.2.2)).mono (by decide)
 have bt:Bd 71 (A*d.y - B*d.x):=zbP (bA.mul bd.2.1) (bB.mul bd.1)
 have HA:=LH (fun b w hw hb=>zhb (flR d d) (d.z*d.z) bf (bd.2.2.mul bd.2.2) (by decide) b w hw hb)
 have hv:=fun b w hw hb=>ziI 1 (flR d d+d.z*d.z) zfM bs (by have:=npos hl0;omega) (by decide) b w hw hb
 rw[zci]at hv
 have HV:=LH hv
 have htw:∀ t∈zl2 A B d,TW t:=fun t ht=>by
  obtain rfl:=List.mem_singleton.1 ht
  exact⟨(zhM bt).zah (by decide),(zfM.quot bs (npos hl0)).zah (by decide),zer (by decide) (npos hl0)⟩
 have hmk:=fun b v w hw hb hv=>zha (zl2 A B d) htw (by unfold zl2;simp) b v w hw hb hv
 rw[show (zl2 A B d).map ofT=[(ze (zc4 (A*d.y - B*d.x)),ze (1 / (flR d d+d.z*d.z)))]from rfl]at hmk
 have HM:=LH hmk
 clear hmk htw hv bf bs bt bA bB bd hr hl0 h3
 generalize zl2 A B d=T at *
 generalize ze (1 / (flR d d+d.z*d.z))=RT at *
 generalize ze (flR d d+d.z*d.z)=LS at *
 generalize ze (flR d d)=FS at *
 generalize ze (d.z*d.z)=ZS at *
 generalize ze (zc4 (A*d.y - B*d.x))=AF at *
 generalize ze (A*d.y - B*d.x)=FF at *
 generalize ze (A*d.y)=P1 at *
 generalize ze (B*d.x)=P2 at *
 generalize ze (A*d.x)=Q1 at *
 generalize ze (B*d.y)=Q2 at *
 generalize ze A=SA at *
 generalize ze B=SB at *
 generalize ze C=SC at *
 obtain⟨ki,F,O,f,t,W,D⟩:=m
 unfold Vm.c at *
 unfold VN V3 at HD
 unfold V3 at H8
 simp only at *
 generalize ze d.x=DX at *
 generalize ze d.y=DY at *
 generalize ze d.z=DZ at *
 generalize ze f.x=X1 at *
 generalize ze f.y=X2 at *
 generalize ze f.z=X3 at *
 generalize ze t.x=X4 at *
 generalize ze t.y=X5 at *
 generalize ze t.z=X6 at *
 obtain⟨W0,hW0⟩:∃ W0,(w.alloc (.cells #[.slice a nn cp] 49)).alloc (.cells #[.int .i64 ki,.int .i64 F,.int .i64 O,.string ⟨X1.toArray⟩,.string ⟨X2.toArray⟩,.string ⟨X3.toArray⟩,.string ⟨X4.toArray⟩,.string ⟨X5.toArray⟩,.string ⟨X6.toArray⟩,.int .i64 W,.int .i64 D] 26)=W0:=⟨_,rfl⟩
 have hq0:Q w W0:=by rw[← hW0];exact bt
 have BR:Blk W0 w.heap.size [.slice a nn cp] 49:=by rw[← hW0];exact(Blk.new w _ _).alloc _
 have BM:Blk W0 (w.heap.size+1) [.int .i64 ki,.int .i64 F,.int .i64 O,.string ⟨X1.toArray⟩,.string ⟨X2.toArray⟩,.string ⟨X3.toArray⟩,.string ⟨X4.toArray⟩,.string ⟨X5.toArray⟩,.string ⟨X6.toArray⟩,.int .i64 W,.int .i64 D] 26:=by rw[← hW0];exact Blk.new1 w _ _ _
 have hQ0:=Q.refl W0
 replace r0:=BR.cell
 replace lBR:=BR.lt
 replace m0:=BM.cell
 replace lBM:=BM.lt
 go_enter Tryz.func337,Tryz.ntmps337
 have BS:=Blk.new W0 [.int .i64 ki,.int .i64 F,.int .i64 O,.string ⟨X1.toArray⟩,.string ⟨X2.toArray⟩,.string ⟨X3.toArray⟩,.string ⟨X4.toArray⟩,.string ⟨X5.toArray⟩,.string ⟨X6.toArray⟩,.int .i64 W,.int .i64 D] 26
 go_wp2_with fail
 refine cx (HCP.out _ _ _ _ (hE.ofQ (Q.trans hq0 bt)) (Q.trans hq0 bt) BS) fun G1 hq1=>?_
 have hs1:Q W0 G1:=Q.trans bt hq1
 have hQ1:Q W0 G1:=Q.trans hQ0 hs1
 replace BR:=BR.keep hs1 BR.lt
 replace r0:=BR.cell
 replace lBR:=BR.lt
 replace BM:=BM.keep hs1 BM.lt
 replace m0:=BM.cell
 replace lBM:=BM.lt
 clear hW0 HCP BS
 go_wp2_with fail
 refine cx (HFA.out _ (hE.ofQ (Q.trans hq0 hQ1)) (Q.trans hq0 hQ1)) fun G2 hq2=>?_
 have hs2:Q G1 G2:=Q.trans bt hq2
 have hQ2:Q W0 G2:=Q.trans hQ1 hs2
 replace BR:=BR.keep hs2 BR.lt
 replace r0:=BR.cell
 replace lBR:=BR.lt
 replace BM:=BM.keep hs2 BM.lt
 replace m0:=BM.cell
 replace lBM:=BM.lt
 clear HFA
 have BP0:=(Blk.new G2 [.string ⟨SA.toArray⟩,.string ⟨SB.toArray⟩,.string ⟨SC.toArray⟩] 89).alloc (.cells [.int .i64 0].toArray 63)
 have C0:zal _ (G2.heap.size+1):=Blk.new1 G2 (.cells ([.string ⟨SA.toArray⟩,.string ⟨SB.toArray⟩,.string ⟨SC.toArray⟩]:List Value).toArray 89) [.int .i64 0] 63
 go_wp2_with fail
 refine cx (HD.out _ _ (hE.ofQ (Q.trans hq0 (Q.trans hQ2 bt))) C0) fun G3 hq3=>?_
 have hs3:Q G2 G3:=Q.trans bt hq3
 have hQ3:Q W0 G3:=Q.trans hQ2 hs3
 replace BR:=BR.keep hs3 BR.lt
 replace r0:=BR.cell
 replace lBR:=BR.lt
 replace BM:=BM.keep hs3 BM.lt
 replace m0:=BM.cell
 replace lBM:=BM.lt
 have C1:zal G3 (G2.heap.size+1):=Blk.keep C0 hq3 (Blk.lt C0)
 have BP:=BP0.keep hq3 BP0.lt
 clear HD C0 BP0
 clear BR lBR r0
 clear BM lBM m0
 obtain⟨W2,hW2⟩:∃ W2,G3.alloc (.cells #[.string ⟨DX.toArray⟩,.string ⟨DY.toArray⟩,.string ⟨DZ.toArray⟩] 24)=W2:=⟨_,rfl⟩
 have BU:Blk W2 G3.heap.size [.string ⟨DX.toArray⟩,.string ⟨DY.toArray⟩,.string ⟨DZ.toArray⟩] 24:=by rw[← hW2];exact Blk.new G3 _ _
 have hq2w:Q G3 W2:=by rw[← hW2];exact bt
 have hQW:Q w W2:=Q.trans hq0 (Q.trans hQ3 hq2w)
 have hc:=C1.keep hq2w
 replace BP:=BP.keep hq2w BP.lt
 clear C1 hq0 hq1 hq2 hq3 hs1 hs2 hs3 hQ0 hQ1 hQ2 hQ3 hq2w
 go_wp2_with fail
 clear hW2
 generalize G2.heap.size+1=gc at *
 generalize G2.heap.size=gp at *
 generalize G3.heap.size=gu at *
 have hQ0:=Q.refl W2
 replace u0:=BU.cell 0
 replace u1:=BU.cell 1
 replace u2:=BU.cell 2
 simp only[zs4,zs5]at u0 u1 u2
 replace lBU:=BU.lt
 replace p0:=BP.cell 0
 replace p1:=BP.cell 1
 replace p2:=BP.cell 2
 simp only[zs4,zs5]at p0 p1 p2
 replace lBP:=BP.lt
 have BC:=hc
 unfold zal at BC
 replace c0:=BC.cell
 replace lBC:=BC.lt
 have hEd:Env W2.drew:=hE.ofQ (Q.trans hQW (Below.drew (Q.refl W2)))
 have hcd:zal W2.drew gc:=hc.keep (Below.drew (Q.refl W2))
 refine zm 14 rfl (by kernel_rfl) rfl ?_
 refine svp 0 ?_
 refine svp 1 ?_
 refine svp 2 ?_
 refine svq 3 rfl (by intro w' hq;have hc0:=za hq p0;go_simp;try with_reducible rfl) ?_
 refine svp 4 ?_
 refine svq 5 rfl (by intro w' hq;have hc0:=za hq u0;go_simp;try with_reducible rfl) ?_
 refine zh (i:=6) (v:=_) rfl rfl (by kernel_rfl) (by kernel_rfl) (fun _ _ _ h=>h) (by rfl) ?_ (fun w' hq=>H1.out _ w' (hEd.ofQ hq) (hcd.keep hq)) ?_
 ·(intro w' hq;go_simp;try with_reducible rfl)
 simp only[Act.put,zs1,zs2,zs3]
 refine svp 7 ?_
 refine svp 8 ?_
 refine svq 9 rfl (by intro w' hq;have hc0:=za hq p1;go_simp;try with_reducible rfl) ?_
 refine svp 10 ?_
 refine svq 11 rfl (by intro w' hq;have hc0:=za hq u1;go_simp;try with_reducible rfl) ?_
 refine zh (i:=12) (v:=_) rfl rfl (by kernel_rfl) (by kernel_rfl) (fun _ _ _ h=>h) (by rfl) ?_ (fun w' hq=>H2.out _ w' (hEd.ofQ hq) (hcd.keep hq)) ?_
 ·(intro w' hq;go_simp;try with_reducible rfl)
 simp only[Act.put,zs1,zs2,zs3]
 refine zh (i:=13) (v:=_) rfl rfl (by kernel_rfl) (by kernel_rfl) (fun _ _ _ h=>h) (by rfl) ?_ (fun w' hq=>H3.out _ w' (hEd.ofQ hq) (hcd.keep hq)) ?_
 ·(intro w' hq;go_simp;try with_reducible rfl)
 simp only[Act.put,zs1,zs2,zs3]
 refine zi (by kernel_rfl) (fun w3 hq3=>?_)
 simp only[List.drop_succ_cons]
 have hq4:Q W2 w3:=Q.trans (Below.drew (Q.refl W2)) hq3
 replace hQW:=Q.trans hQW hq4
 replace BU:=BU.keep hq4 BU.lt
 replace BP:=BP.keep hq4 BP.lt
 replace hc:=hc.keep hq4
 clear hq3 hq4 hEd hcd u0 u1 u2 p0 p1 p2 lBU lBP c0 lBC BC
 have hQ0:=Q.refl w3
 replace u0:=BU.cell 0
 replace u1:=BU.cell 1
 replace u2:=BU.cell 2
 simp only[zs4,zs5]at u0 u1 u2
 replace lBU:=BU.lt
 replace p0:=BP.cell 0
 replace p1:=BP.cell 1
 replace p2:=BP.cell 2
 simp only[zs4,zs5]at p0 p1 p2
 replace lBP:=BP.lt
 have BC:=hc
 unfold zal at BC
 replace c0:=BC.cell
 replace lBC:=BC.lt
 go_wp2_with fail
 have hEd:Env w3.drew:=hE.ofQ (Q.trans hQW (Below.drew (Q.refl w3)))
 have hcd:zal w3.drew gc:=hc.keep (Below.drew (Q.refl w3))
 refine zm 15 rfl (by kernel_rfl) rfl ?_
 refine svp 0 ?_
 refine svp 1 ?_
 refine svp 2 ?_
 refine svq 3 rfl (by intro w' hq;have hc0:=za hq p0;go_simp;try with_reducible rfl) ?_
 refine svp 4 ?_
 refine svq 5 rfl (by intro w' hq;have hc0:=za hq u1;go_simp;try with_reducible rfl) ?_
 refine zh (i:=6) (v:=_) rfl rfl (by kernel_rfl) (by kernel_rfl) (fun _ _ _ h=>h) (by rfl) ?_ (fun w' hq=>H4.out _ w' (hEd.ofQ hq) (hcd.keep hq)) ?_
 ·(intro w' hq;go_simp;try with_reducible rfl)
 simp only[Act.put,zs1,zs2,zs3]
 refine svp 7 ?_
 refine svp 8 ?_
 refine svq 9 rfl (by intro w' hq;have hc0:=za hq p1;go_simp;try with_reducible rfl) ?_
 refine svp 10 ?_
 refine svq 11 rfl (by intro w' hq;have hc0:=za hq u0;go_simp;try with_reducible rfl) ?_
 refine zh (i:=12) (v:=_) rfl rfl (by kernel_rfl) (by kernel_rfl) (fun _ _ _ h=>h) (by rfl) ?_ (fun w' hq=>H5.out _ w' (hEd.ofQ hq) (hcd.keep hq)) ?_
 ·(intro w' hq;go_simp;try with_reducible rfl)
 simp only[Act.put,zs1,zs2,zs3]
 refine zh (i:=13) (v:=_) rfl rfl (by kernel_rfl) (by kernel_rfl) (fun _ _ _ h=>h) (by rfl) ?_ (fun w' hq=>H6.out _ w' (hEd.ofQ hq) (hcd.keep hq)) ?_
 ·(intro w' hq;go_simp;try with_reducible rfl)
 simp only[Act.put,zs1,zs2,zs3]
 refine zh (i:=14) (v:=_) rfl rfl (by kernel_rfl) (by kernel_rfl) (fun _ _ _ h=>h) (by rfl) ?_ (fun w' hq=>H7.out w') ?_
 ·(intro w' hq;go_simp;try with_reducible rfl)
 simp only[Act.put,zs1,zs2,zs3]
 refine zi (by kernel_rfl) (fun w4 hq3=>?_)
 simp only[List.drop_succ_cons]
 have hq4:Q w3 w4:=Q.trans (Below.drew (Q.refl w3)) hq3
 replace hQW:=Q.trans hQW hq4
 replace BU:=BU.keep hq4 BU.lt
 replace BP:=BP.keep hq4 BP.lt
 replace hc:=hc.keep hq4
 clear hq3 hq4 hEd hcd u0 u1 u2 p0 p1 p2 lBU lBP c0 lBC BC
 have hQ0:=Q.refl w4
 replace u0:=BU.cell 0
 replace u1:=BU.cell 1
 replace u2:=BU.cell 2
 simp only[zs4,zs5]at u0 u1 u2
 replace lBU:=BU.lt
 replace p0:=BP.cell 0
 replace p1:=BP.cell 1
 replace p2:=BP.cell 2
 simp only[zs4,zs5]at p0 p1 p2
 replace lBP:=BP.lt
 have BC:=hc
 unfold zal at BC
 replace c0:=BC.cell
 replace lBC:=BC.lt
 go_wp2_with fail
 have hEd:Env w4.drew:=hE.ofQ (Q.trans hQW (Below.drew (Q.refl w4)))
 have hcd:zal w4.drew gc:=hc.keep (Below.drew (Q.refl w4))
 refine zm 12 rfl (by kernel_rfl) rfl ?_
 refine svp 0 ?_
 refine svp 1 ?_
 refine svq 2 rfl (by intro w' hq;have hc0:=za hq u0;have hc1:=za hq u1;have hc2:=za hq u2;go_simp;try with_reducible rfl) ?_
 refine svq 3 rfl (by intro w' hq;have hc0:=za hq u0;have hc1:=za hq u1;have hc2:=za hq u2;go_simp;try with_reducible rfl) ?_
 refine zh (i:=4) (v:=_) rfl rfl (by kernel_rfl) (by kernel_rfl) (fun _ _ _ h=>h) (by rfl) ?_ (fun w' hq=>H8.out _ w' (hEd.ofQ hq) (hcd.keep hq)) ?_
 ·(intro w' hq;go_simp;try with_reducible rfl)
 simp only[Act.put,zs1,zs2,zs3]
 refine svp 5 ?_
 refine svp 6 ?_
 refine svq 7 rfl (by intro w' hq;have hc0:=za hq u2;go_simp;try with_reducible rfl) ?_
 refine svp 8 ?_
 refine svq 9 rfl (by intro w' hq;have hc0:=za hq u2;go_simp;try with_reducible rfl) ?_
 refine zh (i:=10) (v:=_) rfl rfl (by kernel_rfl) (by kernel_rfl) (fun _ _ _ h=>h) (by rfl) ?_ (fun w' hq=>H9.out _ w' (hEd.ofQ hq) (hcd.keep hq)) ?_
 ·(intro w' hq;go_simp;try with_reducible rfl)
 simp only[Act.put,zs1,zs2,zs3]
 refine zh (i:=11) (v:=_) rfl rfl (by kernel_rfl) (by kernel_rfl) (fun _ _ _ h=>h) (by rfl) ?_ (fun w' hq=>HA.out _ w' (hEd.ofQ hq) (hcd.keep hq)) ?_
 ·(intro w' hq;go_simp;try with_reducible rfl)
 simp only[Act.put,zs1,zs2,zs3]
 refine zi (by kernel_rfl) (fun w5 hq3=>?_)
 simp only[List.drop_succ_cons]
 have hq4:Q w4 w5:=Q.trans (Below.drew (Q.refl w4)) hq3
 replace hQW:=Q.trans hQW hq4
 replace BU:=BU.keep hq4 BU.lt
 replace BP:=BP.keep hq4 BP.lt
 replace hc:=hc.keep hq4
 clear hq3 hq4 hEd hcd u0 u1 u2 p0 p1 p2 lBU lBP c0 lBC BC
 have hQ0:=Q.refl w5
 replace u0:=BU.cell 0
 replace u1:=BU.cell 1
 replace u2:=BU.cell 2
 simp only[zs4,zs5]at u0 u1 u2
 replace lBU:=BU.lt
 replace p0:=BP.cell 0
 replace p1:=BP.cell 1
 replace p2:=BP.cell 2
 simp only[zs4,zs5]at p0 p1 p2
 replace lBP:=BP.lt
 have BC:=hc
 unfold zal at BC
 replace c0:=BC.cell
 replace lBC:=BC.lt
 go_wp2_with fail
 refine cx (HV.out _ _ (hE.ofQ hQW) hc) fun w6 hq6=>?_
 have hc6:=hc.keep hq6
 have hQ6:=Q.trans hQW hq6
 have BT:=Blk.new w6 [.string ⟨AF.toArray⟩,.string ⟨RT.toArray⟩] 37
 go_wp2_with fail
 refine(HM.out _ _ _ (hE.ofQ (Q.trans hQ6 bt)) (hc6.keep bt) (TSl.one BT 1)).mono ?_
 intro e y h
 obtain⟨v,E,rfl,hq5,h⟩:=h.lift (Q.trans hQ6 bt)
 have H5':=LH h
 clear h
 go_wp2
 go_ret2
 exact⟨_,_,rfl,hq5,H5'.out⟩
end
end Go.Proofs.YtjnhmfcklodfdaaGreatDoor
