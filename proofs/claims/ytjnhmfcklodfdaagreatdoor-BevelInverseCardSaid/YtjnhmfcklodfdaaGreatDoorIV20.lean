/-
  Walks of package bevel: whether members are right; seat and plumb bevels.; Walks of package bevel: seat and plumb bevels where there is no run, or no rise.; The mathematics of the law JointHousings.; Walks of package bevel: the mitre of two level members.
-/
import Derived.Test.YtjnhmfcklodfdaaGreatDoorIV19
import Derived.Test.YtjnhmfcklodfdaaGreatDoorIV12
set_option maxRecDepth 100000
set_option maxHeartbeats 4000000
namespace Go.Proofs.YtjnhmfcklodfdaaGreatDoor
section
open Go.RowKit Go.Shelf Kp
attribute [local go_sem] Oper.semAt_some
theorem znV(l:List Rat)(hl:∀ q∈l,Bd 12 q)(hn:l.length≤100)(v:Value)(w:World)(hE:Env w)(hv:zcY w v (l.map ze)) :
  CR 97 #[v,.func (.func 53) #[] #[]] w (.int .i64 (-1)):=by
 obtain⟨b,o,cap,rfl,hb,hc⟩:=hv
 rw[List.length_map]at hc
 rw[List.length_map]
 have HL:=LH hl
 clear hl
 go_enter Tryz.func97,Tryz.ntmps97
 go_wp2
 go_loopw [8] (fun i wr=>∃ k:Nat,k≤l.length∧i=.int .i64 k∧Q w wr) (fun i _=>l.length - (intOf i).toNat)
 case atStart=>exact⟨0,by omega,rfl,Below.refl _ _⟩
 case round =>
  obtain⟨k,hk,rfl,hQ⟩:=hrel
  by_cases hlt:k<l.length
  ·have hcell:=hc k hlt
   have hcell':wr.cell? ⟨b,o+k,none⟩=some (.string ⟨((l.map ze).getD k []).toArray⟩):=by rw[hQ.cell (p:=⟨b,o+k,none⟩) hb];exact hcell
   have hq:(l.map ze).getD k []=ze l[k]:=by rw[List.getD_eq_getElem?_getD,List.getElem?_map,List.getElem?_eq_getElem hlt];rfl
   rw[hq]at hcell'
   have HG:=LH (fun w hw=>zp0 l[k] (HL.out _ (List.getElem_mem hlt)) w hw)
   clear hcell hc hq HL
   generalize ze l[k]=S at *
   go_wp2_with fail
   refine cx (HG.out _ (hE.q hQ)) fun w2 hq2=>?_
   have hQ2:Q w w2:=Q.trans hQ hq2
   go_wp2
   go_roundw
   case rel=>exact⟨k+1,by omega,by go_num,hQ2⟩
   case measure=>simp[intOf];omega
  ·obtain rfl:k=l.length:=by omega
   go_wp2
   go_ret
   exact⟨rfl,hQ⟩
theorem zkm(l:List Rat)(hl:∀ q∈l,Bd 12 q)(hn:l.length≤100)(v:Value)(w:World)(hE:Env w)(hv:zcY w v (l.map ze)) :
  CR 52 #[v,.func (.func 53) #[] #[]] w (.bool false):=by
 have HI:=LH (znV l hl hn v w hE hv)
 clear hl hv
 go_enter Tryz.func52,Tryz.ntmps52
 go_wp2_with fail
 refine HI.out.mono ?_
 rintro e w1⟨rfl,hq1⟩
 go_wp2
 go_ret
 exact⟨rfl,hq1⟩
theorem zcY.of{w:World}{b:Nat}{l:List Str}{t:TypeId}(h:Blk w b (l.map fun s=>(.string ⟨s.toArray⟩:Value)) t)(cap:Nat):zcY w (.slice (some ⟨b,0,none⟩) l.length cap) l:=by
 refine⟨b,0,cap,rfl,h.lt,fun i hi=>?_⟩
 rw[Nat.zero_add,h.cell,List.getElem?_map,List.getElem?_eq_getElem hi,List.getD_eq_getElem?_getD,List.getElem?_eq_getElem hi]
 rfl
structure Vm where
 k:Int
 F:Int
 O:Int
 f:P3
 t:P3
 W:Int
 D:Int
def Vm.c(m:Vm):List Value:=[.int .i64 m.k,.int .i64 m.F,.int .i64 m.O,.string ⟨(ze m.f.x).toArray⟩,.string ⟨(ze m.f.y).toArray⟩,.string ⟨(ze m.f.z).toArray⟩,.string ⟨(ze m.t.x).toArray⟩,.string ⟨(ze m.t.y).toArray⟩,.string ⟨(ze m.t.z).toArray⟩,.int .i64 m.W,.int .i64 m.D]
structure VmOk (x:Vm):Prop where
 m:MOk x.k x.W x.D
 o:FOk x.F x.O
 f:B3 12 x.f
 t:B3 12 x.t
 ne:x.f≠x.t
theorem Vm.cell{w:World}{b:Nat}{ty:TypeId}{l:List Vm}(hl:l.length≤2)(hb:Blk w b (l.flatMap Vm.c) ty)(k:Nat)(hk:k<l.length)(i:Nat)(hi:i<11):w.cell? ⟨b,k*11+i,none⟩=(l[k].c)[i]?:=by
 rw[hb.cell]
 cases l with
 | nil=>exact absurd hk (by simp)
 | cons m r =>
  have hm:m.c.length=11:=rfl
  cases r with
  | nil =>
   obtain rfl:k=0:=by simp at hk;omega
   rw[List.flatMap_cons,List.flatMap_nil,List.append_nil,show 0*11+i=i by omega]
   rfl
  | cons n r =>
   obtain rfl:r=[]:=List.length_eq_zero_iff.1 (by rw[List.length_cons,List.length_cons]at hl;omega)
   rw[List.flatMap_cons,List.flatMap_cons,List.flatMap_nil,List.append_nil]
   rcases(show k=0∨k=1 by rw[List.length_cons,List.length_cons,List.length_nil]at hk;omega)with rfl | rfl
   ·rw[show 0*11+i=i by omega,List.getElem?_append_left (by omega)]
    rfl
   ·rw[List.getElem?_append_right (by omega),hm,show 1*11+i - 11=i by omega]
    rfl
theorem zdu(l:List Vm)(hl:∀ m∈l,VmOk m)(h2:l.length≤2)(b cap:Nat)(ty:TypeId)(w:World)(hE:Env w)(hb:Blk w b (l.flatMap Vm.c) ty) :
  CR 20 #[.slice (some ⟨b,0,none⟩) l.length cap] w (.int .i64 0):=by
 have HL:=LH hl
 have HB:=LH hb
 have HC:=LH (fun k (hk:k<l.length) (W:World) (hq:Q w W)=>Vm.cell h2 (hb.keep hq hb.lt) k hk)
 have hn:(l.length:Int)≤2:=by omega
 clear hl hb
 go_enter Tryz.func20,Tryz.ntmps20
 go_wp2
 go_loopw [9] (fun i wr=>∃ k:Nat,k≤l.length∧i=.int .i64 k∧Q w wr) (fun i _=>l.length - (intOf i).toNat)
 case atStart=>exact⟨0,by omega,rfl,Below.refl _ _⟩
 case round =>
  obtain⟨k,hk,rfl,hQ⟩:=hrel
  by_cases hlt:k<l.length
  ·have hc:=HC.out k hlt wr hQ
   have ok:=HL.out _ (List.getElem_mem hlt)
   have HI:=LH (fun w hw=>zgh l[k].k l[k].F l[k].O l[k].W l[k].D ok.m ok.o l[k].f l[k].t ok.f ok.t (by decide) (zoz ok.f (by decide)) ok.ne w hw)
   rw[zoz ok.t (by decide),if_neg (by decide)]at HI
   clear ok HL HC
   have c0:=hc 0 (by decide)
   simp only[Vm.c,List.getElem?_cons_zero,Nat.add_zero]at c0 hc
   generalize l[k]=m at *
   obtain⟨ki,F,O,f,t,W,D⟩:=m
   unfold VN at HI
   simp only at *
   generalize ze f.x=X1 at *
   generalize ze f.y=X2 at *
   generalize ze f.z=X3 at *
   generalize ze t.x=X4 at *
   generalize ze t.y=X5 at *
   generalize ze t.z=X6 at *
   have BT:=Blk.new wr [.int .i64 ki,.int .i64 F,.int .i64 O,.string ⟨X1.toArray⟩,.string ⟨X2.toArray⟩,.string ⟨X3.toArray⟩,.string ⟨X4.toArray⟩,.string ⟨X5.toArray⟩,.string ⟨X6.toArray⟩,.int .i64 W,.int .i64 D] 26
   go_wp2_with fail
   refine cx (HI.out _ (hE.q (Q.trans hQ bt))) fun w2 hq2=>?_
   have hQ2:Q w w2:=Q.trans hQ (Q.trans bt hq2)
   clear hc c0 BT
   go_wp2
   go_roundw
   case rel=>exact⟨k+1,by omega,by go_num,hQ2⟩
   case measure=>simp[intOf];omega
  ·obtain rfl:k=l.length:=by omega
   go_wp2
   go_loopw [19] (fun i wr=>∃ k:Nat,k≤l.length∧i=.int .i64 k∧Q w wr) (fun i _=>l.length - (intOf i).toNat)
   case atStart=>exact⟨0,by omega,rfl,hQ⟩
   case round =>
    clear hQ
    obtain⟨k,hk,rfl,hQ⟩:=hrel
    by_cases hlt:k<l.length
    ·have hc:=HC.out k hlt _ hQ
     have ok:=HL.out _ (List.getElem_mem hlt)
     generalize l[k]=m at *
     have HS:=LH (fun v w hw hv=>zkm [m.f.x,m.f.y,m.f.z,m.t.x,m.t.y,m.t.z] (by
      intro q hq
      simp only[List.mem_cons,List.not_mem_nil,or_false]at hq
      rcases hq with rfl | rfl | rfl | rfl | rfl | rfl
      ·exact ok.f.1
      ·exact ok.f.2.1
      ·exact ok.f.2.2
      ·exact ok.t.1
      ·exact ok.t.2.1
      ·exact ok.t.2.2) (by simp) v w hw hv)
     clear ok HL HC
     have c0:=hc 0 (by decide)
     simp only[Vm.c,List.getElem?_cons_zero,Nat.add_zero]at c0 hc
     obtain⟨ki,F,O,f,t,W,D⟩:=m
     simp only[List.map_cons,List.map_nil]at *
     generalize ze f.x=X1 at *
     generalize ze f.y=X2 at *
     generalize ze f.z=X3 at *
     generalize ze t.x=X4 at *
     generalize ze t.y=X5 at *
     generalize ze t.z=X6 at *
     go_wp2_with fail
     refine cx (HS.out _ _ (hE.q (Q.trans hQ bt)) (zcY.of (l:=[X1,X2,X3,X4,X5,X6]) (Blk.new1 wr _ _ 22) 6)) fun w2 hq2=>?_
     have hQ2:Q w w2:=Q.trans hQ (Q.trans bt hq2)
     clear hc c0
     go_wp2
     go_roundw
     case rel=>exact⟨k+1,by omega,by go_num,hQ2⟩
     case measure=>simp[intOf];omega
    ·obtain rfl:k=l.length:=by omega
     go_wp2
     go_ret
     exact⟨rfl,hQ⟩
theorem TSl.one{w:World}{b:Nat}{s1 s2:Str}{t:TypeId}(h:Blk w b [.string ⟨s1.toArray⟩,.string ⟨s2.toArray⟩] t)(cap:Nat):TSl w w.heap.size (.slice (some ⟨b,0,none⟩) 1 cap) [(s1,s2)]:=by
 refine⟨_,cap,rfl,Nat.le_refl _,fun i hi=>⟨b,0,rfl,h.lt,?_⟩⟩
 obtain rfl:i=0:=by simp at hi;omega
 exact⟨h.cell 0,h.cell 1⟩
theorem zn2{d:P3}(h:flR d d≠0):0<(flR d d).num:=by
 have h0:0≤flR d d:=Rat.add_nonneg (sq_nonneg _) (sq_nonneg _)
 have:=Rat.num_nonneg.2 h0
 have h1:(flR d d).num≠0:=fun e=>h (Rat.num_eq_zero.1 e)
 omega
def zd4(d:P3):List (Rat × Rat):=[(zc4 d.z,1 / flR d d)]
theorem zhL(m:Vm)(hm:VmOk m)(hr:flR (m.t.sub m.f) (m.t.sub m.f)≠0)(w:World)(hE:Env w) :
  Calls Tryz.prog 6 #[.agg m.c.toArray] w (MkP w (zd4 (m.t.sub m.f))):=by
 have HC:=LH (fun b cap ty w hw hb=>zdu [m] (by intro x hx;rw[List.mem_singleton]at hx;rw[hx];exact hm) (by simp) b cap ty w hw hb)
 simp only[List.flatMap_cons,List.flatMap_nil,List.append_nil,List.length_cons,List.length_nil]at HC
 have bd:B3 25 (m.t.sub m.f):=⟨zbP hm.t.1 hm.f.1,zbP hm.t.2.1 hm.f.2.1,zbP hm.t.2.2 hm.f.2.2⟩
 have bf:Bd 101 (flR (m.t.sub m.f) (m.t.sub m.f)):=((bd.1.mul bd.1).add (bd.2.1.mul bd.2.1)).mono (by decide)
 have HD:=LH (fun b w hw hb=>zbk m.k m.F m.O m.W m.D m.f m.t hm.f hm.t (by decide) b w hw hb)
 have HF:=LH (fun b w hw hb=>zds (m.t.sub m.f) (m.t.sub m.f) bd bd (by decide) b w hw hb)
 have HS:=LH (fun w=>zei (m.t.sub m.f).z w)
 have hv:=fun b w hw hb=>ziI 1 (flR (m.t.sub m.f) (m.t.sub m.f)) zfM bf (fun e=>hr (Rat.num_eq_zero.1 e)) (by decide) b w hw hb
 rw[zci]at hv
 have HV:=LH hv
 have htw:∀ t∈zd4 (m.t.sub m.f),TW t:=fun t ht=>by
  obtain rfl:=List.mem_singleton.1 ht
  exact⟨(zhM bd.2.2).zah (by decide),(zfM.quot bf (zn2 hr)).zah (by decide),zer (by decide) (zn2 hr)⟩
 have HM:=LH (fun b v w hw hb hv=>zha (zd4 (m.t.sub m.f)) htw (by unfold zd4;simp) b v w hw hb hv)
 have hof:(zd4 (m.t.sub m.f)).map ofT=[(ze (zc4 (m.t.sub m.f).z),ze (1 / flR (m.t.sub m.f) (m.t.sub m.f)))]:=rfl
 rw[hof]at HM
 have hz:(ze (flR (m.t.sub m.f) (m.t.sub m.f)) == [48])=false:=by
  rw[beq_eq_false_iff_ne,← zaS];exact fun h=>hr (zaB h)
 clear hof htw hv bf bd hr hm
 generalize zd4 (m.t.sub m.f)=T at *
 generalize ze (1 / flR (m.t.sub m.f) (m.t.sub m.f))=RT at *
 generalize ze (flR (m.t.sub m.f) (m.t.sub m.f))=RN at *
 generalize ze (zc4 (m.t.sub m.f).z)=ZA at *
 obtain⟨ki,F,O,f,t,W,D⟩:=m
 unfold Vm.c VN V3 at *
 simp only at *
 generalize ze (t.sub f).x=DX at *
 generalize ze (t.sub f).y=DY at *
 generalize ze (t.sub f).z=DZ at *
 generalize ze f.x=X1 at *
 generalize ze f.y=X2 at *
 generalize ze f.z=X3 at *
 generalize ze t.x=X4 at *
 generalize ze t.y=X5 at *
 generalize ze t.z=X6 at *
 go_enter Tryz.func6,Tryz.ntmps6
 obtain⟨W0,hW0⟩:∃ W0,w.alloc (.cells #[.int .i64 ki,.int .i64 F,.int .i64 O,.string ⟨X1.toArray⟩,.string ⟨X2.toArray⟩,.string ⟨X3.toArray⟩,.string ⟨X4.toArray⟩,.string ⟨X5.toArray⟩,.string ⟨X6.toArray⟩,.int .i64 W,.int .i64 D] 26)=W0:=⟨_,rfl⟩
 have hq0:Q w W0:=by rw[← hW0];exact bt
 have BM:Blk W0 w.heap.size [.int .i64 ki,.int .i64 F,.int .i64 O,.string ⟨X1.toArray⟩,.string ⟨X2.toArray⟩,.string ⟨X3.toArray⟩,.string ⟨X4.toArray⟩,.string ⟨X5.toArray⟩,.string ⟨X6.toArray⟩,.int .i64 W,.int .i64 D] 26:=by rw[← hW0];exact Blk.new w _ _
 have hE0:=hE.ofQ hq0
 clear hE
 have hE:=hE0
 clear hE0
 have hQ0:=Q.refl W0
 replace m0:=BM.cell
 replace lBM:=BM.lt
 have BC:=Blk.new W0 [.int .i64 ki,.int .i64 F,.int .i64 O,.string ⟨X1.toArray⟩,.string ⟨X2.toArray⟩,.string ⟨X3.toArray⟩,.string ⟨X4.toArray⟩,.string ⟨X5.toArray⟩,.string ⟨X6.toArray⟩,.int .i64 W,.int .i64 D] 26
 go_wp2_with fail
 refine cx (HC.out _ _ _ _ (hE.ofQ bt) BC) fun G1 hq1=>?_
 have hs1:Q W0 G1:=Q.trans bt hq1
 have hQ1:Q W0 G1:=Q.trans hQ0 hs1
 replace BM:=BM.keep hs1 BM.lt
 replace m0:=BM.cell
 replace lBM:=BM.lt
 clear BC hW0 HC
 have C0:zal _ G1.heap.size:=Blk.new G1 [.int .i64 0] 63
 go_wp2_with fail
 refine cx (HD.out _ _ (hE.ofQ (Q.trans hQ1 bt)) C0) fun G2 hq2=>?_
 have hs2:Q G1 G2:=Q.trans bt hq2
 have hQ2:Q W0 G2:=Q.trans hQ1 hs2
 replace BM:=BM.keep hs2 BM.lt
 replace m0:=BM.cell
 replace lBM:=BM.lt
 have C1:zal G2 G1.heap.size:=Blk.keep C0 hq2 (Blk.lt C0)
 have BU0:=Blk.new G2 [.string ⟨DX.toArray⟩,.string ⟨DY.toArray⟩,.string ⟨DZ.toArray⟩] 24
 go_wp2_with fail
 refine cx (HF.out _ _ (hE.ofQ (Q.trans hQ2 bt)) (C1.keep bt)) fun G3 hq3=>?_
 have hs3:Q G2 G3:=Q.trans bt hq3
 have hQ3:Q W0 G3:=Q.trans hQ2 hs3
 replace BM:=BM.keep hs3 BM.lt
 replace m0:=BM.cell
 replace lBM:=BM.lt
 clear BM lBM m0
 have C2:=C1.keep hs3
 have BC:=C2
 unfold zal at BC
 have BU:=BU0.keep hq3 BU0.lt
 replace c0:=BC.cell
 replace lBC:=BC.lt
 replace u0:=BU.cell
 replace lBU:=BU.lt
 clear C0 BU0
 go_wp2_with fail
 refine(HS.out _).mono ?_
 rintro e y⟨rfl,rfl⟩
 go_wp2_with fail
 refine cx (HV.out _ _ (hE.ofQ hQ3) C2) fun G4 hq4=>?_
 have hs4:Q G3 G4:=Q.trans bt hq4
 have hQ4:Q W0 G4:=Q.trans hQ3 hs4
 replace BC:=BC.keep hs4 BC.lt
 replace c0:=BC.cell
 replace lBC:=BC.lt
 replace BU:=BU.keep hs4 BU.lt
 replace u0:=BU.cell
 replace lBU:=BU.lt
 have C3:=C2.keep hs4
 have BT:=Blk.new G4 [.string ⟨ZA.toArray⟩,.string ⟨RT.toArray⟩] 37
 clear C1 C2
 go_wp2_with fail
 refine(HM.out _ _ _ (hE.ofQ (Q.trans hQ4 bt)) (C3.keep bt) (TSl.one BT 1)).mono ?_
 intro e y h
 obtain⟨v,E,rfl,hq5,h⟩:=h.lift (Q.trans hq0 (Q.trans hQ4 bt))
 have H5:=LH h
 clear h
 go_wp2
 go_ret2
 exact⟨_,_,rfl,hq5,H5.out⟩
def zc2(d:P3):List (Rat × Rat):=[(1 / zc4 d.z,flR d d)]
theorem zjV(m:Vm)(hm:VmOk m)(hr:(m.t.sub m.f).z≠0)(w:World)(hE:Env w) :
  Calls Tryz.prog 7 #[.agg m.c.toArray] w (MkP w (zc2 (m.t.sub m.f))):=by
 have HC:=LH (fun b cap ty w hw hb=>zdu [m] (by intro x hx;rw[List.mem_singleton]at hx;rw[hx];exact hm) (by simp) b cap ty w hw hb)
 simp only[List.flatMap_cons,List.flatMap_nil,List.append_nil,List.length_cons,List.length_nil]at HC
 have bd:B3 25 (m.t.sub m.f):=⟨zbP hm.t.1 hm.f.1,zbP hm.t.2.1 hm.f.2.1,zbP hm.t.2.2 hm.f.2.2⟩
 have bf:Bd 101 (flR (m.t.sub m.f) (m.t.sub m.f)):=((bd.1.mul bd.1).add (bd.2.1.mul bd.2.1)).mono (by decide)
 have HD:=LH (fun b w hw hb=>zbk m.k m.F m.O m.W m.D m.f m.t hm.f hm.t (by decide) b w hw hb)
 have HF:=LH (fun b w hw hb=>zds (m.t.sub m.f) (m.t.sub m.f) bd bd (by decide) b w hw hb)
 have HS:=LH (fun w=>(zei (m.t.sub m.f).z w).mono fun e w' h=>(show e=_∧Q w w' from⟨h.1,by rw[h.2];exact Q.refl _⟩))
 have az:=npos (zcK hr)
 have hv:=fun b w hw hb=>ziI 1 (zc4 (m.t.sub m.f).z) zfM (zhM bd.2.2) (by omega) (by decide) b w hw hb
 rw[zci]at hv
 have HV:=LH hv
 have htw:∀ t∈zc2 (m.t.sub m.f),TW t:=fun t ht=>by
  obtain rfl:=List.mem_singleton.1 ht
  exact⟨(zfM.quot (zhM bd.2.2) az).zah (by decide),bf.zah (by decide),Rat.num_nonneg.2 (Rat.add_nonneg (sq_nonneg _) (sq_nonneg _))⟩
 have HM:=LH (fun b v w hw hb hv=>zha (zc2 (m.t.sub m.f)) htw (by unfold zc2;simp) b v w hw hb hv)
 have hof:(zc2 (m.t.sub m.f)).map ofT=[(ze (1 / zc4 (m.t.sub m.f).z),ze (flR (m.t.sub m.f) (m.t.sub m.f)))]:=rfl
 rw[hof]at HM
 have hz:(ze (m.t.sub m.f).z == [48])=false:=by
  rw[beq_eq_false_iff_ne,← zaS];exact fun h=>hr (zaB h)
 clear hof htw hv bf bd hr hm az
 generalize zc2 (m.t.sub m.f)=T at *
 generalize ze (1 / zc4 (m.t.sub m.f).z)=RT at *
 generalize ze (flR (m.t.sub m.f) (m.t.sub m.f))=RN at *
 generalize ze (zc4 (m.t.sub m.f).z)=ZA at *
 obtain⟨ki,F,O,f,t,W,D⟩:=m
 unfold Vm.c VN V3 at *
 simp only at *
 generalize ze (t.sub f).x=DX at *
 generalize ze (t.sub f).y=DY at *
 generalize ze (t.sub f).z=DZ at *
 generalize ze f.x=X1 at *
 generalize ze f.y=X2 at *
 generalize ze f.z=X3 at *
 generalize ze t.x=X4 at *
 generalize ze t.y=X5 at *
 generalize ze t.z=X6 at *
 go_enter Tryz.func7,Tryz.ntmps7
 obtain⟨W0,hW0⟩:∃ W0,w.alloc (.cells #[.int .i64 ki,.int .i64 F,.int .i64 O,.string ⟨X1.toArray⟩,.string ⟨X2.toArray⟩,.string ⟨X3.toArray⟩,.string ⟨X4.toArray⟩,.string ⟨X5.toArray⟩,.string ⟨X6.toArray⟩,.int .i64 W,.int .i64 D] 26)=W0:=⟨_,rfl⟩
 have hq0:Q w W0:=by rw[← hW0];exact bt
 have BM:Blk W0 w.heap.size [.int .i64 ki,.int .i64 F,.int .i64 O,.string ⟨X1.toArray⟩,.string ⟨X2.toArray⟩,.string ⟨X3.toArray⟩,.string ⟨X4.toArray⟩,.string ⟨X5.toArray⟩,.string ⟨X6.toArray⟩,.int .i64 W,.int .i64 D] 26:=by rw[← hW0];exact Blk.new w _ _
 have hE0:=hE.ofQ hq0
 clear hE
 have hE:=hE0
 clear hE0
 have hQ0:=Q.refl W0
 replace m0:=BM.cell
 replace lBM:=BM.lt
 have BC:=Blk.new W0 [.int .i64 ki,.int .i64 F,.int .i64 O,.string ⟨X1.toArray⟩,.string ⟨X2.toArray⟩,.string ⟨X3.toArray⟩,.string ⟨X4.toArray⟩,.string ⟨X5.toArray⟩,.string ⟨X6.toArray⟩,.int .i64 W,.int .i64 D] 26
 go_wp2_with fail
 refine cx (HC.out _ _ _ _ (hE.ofQ bt) BC) fun G1 hq1=>?_
 have hs1:Q W0 G1:=Q.trans bt hq1
 have hQ1:Q W0 G1:=Q.trans hQ0 hs1
 replace BM:=BM.keep hs1 BM.lt
 replace m0:=BM.cell
 replace lBM:=BM.lt
 clear BC hW0 HC
 have C0:zal _ G1.heap.size:=Blk.new G1 [.int .i64 0] 63
 go_wp2_with fail
 refine cx (HD.out _ _ (hE.ofQ (Q.trans hQ1 bt)) C0) fun G2 hq2=>?_
 have hs2:Q G1 G2:=Q.trans bt hq2
 have hQ2:Q W0 G2:=Q.trans hQ1 hs2
 replace BM:=BM.keep hs2 BM.lt
 replace m0:=BM.cell
 replace lBM:=BM.lt
 have C1:zal G2 G1.heap.size:=Blk.keep C0 hq2 (Blk.lt C0)
 have BU0:=Blk.new G2 [.string ⟨DX.toArray⟩,.string ⟨DY.toArray⟩,.string ⟨DZ.toArray⟩] 24
 clear BM lBM m0
 have BC:=C1
 unfold zal at BC
 replace c0:=BC.cell
 replace lBC:=BC.lt
 go_wp2_with fail
 obtain⟨W2,hW2⟩:∃ W2,G2.alloc (.cells #[.string ⟨DX.toArray⟩,.string ⟨DY.toArray⟩,.string ⟨DZ.toArray⟩] 24)=W2:=⟨_,rfl⟩
 have BU:Blk W2 G2.heap.size [.string ⟨DX.toArray⟩,.string ⟨DY.toArray⟩,.string ⟨DZ.toArray⟩] 24:=by rw[← hW2];exact BU0
 have hq2w:Q G2 W2:=by rw[← hW2];exact bt
 have hQ3:Q W0 W2.drew:=Q.trans hQ2 (Q.trans hq2w (Below.drew (Q.refl W2)))
 have hEd:Env W2.drew:=hE.ofQ hQ3
 have hcd:zal W2.drew G1.heap.size:=C1.keep (Q.trans hq2w (Below.drew (Q.refl W2)))
 rw[hW2]
 clear hW2 BU0 BC c0 lBC C0 C1
 have hQ0:=Q.refl W2
 replace u0:=BU.cell 0
 replace u1:=BU.cell 1
 replace u2:=BU.cell 2
 simp only[zs4,zs5]at u0 u1 u2
 replace lBU:=BU.lt
 refine zm 15 rfl (by kernel_rfl) rfl ?_
 refine svp 0 ?_
 refine svp 1 ?_
 refine svp 2 ?_
 refine svq 3 rfl (by intro w' hq;have hc0:=za hq u2;go_simp;try with_reducible rfl) ?_
 refine zh (i:=4) (v:=_) rfl rfl (by kernel_rfl) (by kernel_rfl) (fun _ _ _ h=>h) (by rfl) ?_ (fun w' hq=>HS.out w') ?_
 ·(intro w' hq;go_simp;try with_reducible rfl)
 simp only[Act.put,zs1,zs2,zs3]
 refine zh (i:=5) (v:=_) rfl rfl (by kernel_rfl) (by kernel_rfl) (fun _ _ _ h=>h) (by rfl) ?_ (fun w' hq=>HV.out _ w' (hEd.ofQ hq) (hcd.keep hq)) ?_
 ·(intro w' hq;go_simp;try with_reducible rfl)
 simp only[Act.put,zs1,zs2,zs3]
 refine svp 6 ?_
 refine svq 7 rfl (by intro w' hq;have hc0:=za hq u0;have hc1:=za hq u1;have hc2:=za hq u2;go_simp;try with_reducible rfl) ?_
 refine svq 8 rfl (by intro w' hq;have hc0:=za hq u0;have hc1:=za hq u1;have hc2:=za hq u2;go_simp;try with_reducible rfl) ?_
 refine zh (i:=9) (v:=_) rfl rfl (by kernel_rfl) (by kernel_rfl) (fun _ _ _ h=>h) (by rfl) ?_ (fun w' hq=>HF.out _ w' (hEd.ofQ hq) (hcd.keep hq)) ?_
 ·(intro w' hq;go_simp;try with_reducible rfl)
 simp only[Act.put,zs1,zs2,zs3]
 refine svp 10 ?_
 refine zbe (i:=11) (fun w'=>.slice (some ⟨w'.heap.size,0,none⟩) 1 1) (.cells #[.string ⟨RT.toArray⟩,.string ⟨RN.toArray⟩] 37) rfl rfl (by kernel_rfl) (by rfl) (fun w' hq=>by go_simp;try with_reducible rfl) (fun w2 hq2=>?_)
 simp only[Act.put,zs1,zs2,zs3]
 have BT2:=Blk.new w2 [.string ⟨RT.toArray⟩,.string ⟨RN.toArray⟩] 37
 have hQ4:Q W0 (w2.alloc (.cells [.string ⟨RT.toArray⟩,.string ⟨RN.toArray⟩].toArray 37)):=Q.trans hQ3 (Q.trans hq2 bt)
 have hcm:=hcd.keep (Q.trans hq2 (show Q w2 (w2.alloc (.cells [.string ⟨RT.toArray⟩,.string ⟨RN.toArray⟩].toArray 37))from bt))
 clear HS HV HF BU u0 u1 u2 lBU hcd hEd
 refine zY (i:=12) rfl rfl (by kernel_rfl) (by rfl) (fun w' hq=>by go_simp;try with_reducible rfl) (fun w3 hq3=>(HM.out _ _ w3 (hE.ofQ (Q.trans hQ4 hq3)) (hcm.keep hq3) (TSl.one (BT2.keep hq3 BT2.lt) 1)).mono ?_)
 intro e y h
 have hQ5:=Q.trans hQ4 hq3
 obtain⟨v,E,rfl,hq5,h⟩:=h
 have hQ6:=Q.trans hq0 (Q.trans hQ5 hq5)
 have H5:=LH h
 have hsz:=hQ5.size
 have hsz0:=hq0.size
 clear h HM
 refine⟨_,rfl,hq5,?_⟩
 simp only[Act.put,zs1,zs2,zs3]
 refine svp 13 ?_
 refine svp 14 ?_
 refine zi (by kernel_rfl) (fun w6 hq6=>?_)
 simp only[List.drop_succ_cons,List.drop_zero]
 have hQ7:=Q.trans hQ6 hq6
 go_wp2
 go_ret2
 refine⟨_,_,rfl,hQ7,?_⟩
 rcases H5.out with h | ⟨h1,C,h2,h3⟩
 ·exact .inl h
 ·exact .inr ⟨h1,C,h2,Joins.ownsRow_le (h3.keep hq6) (by omega)⟩
theorem zfq(m:Vm)(hm:VmOk m)(hr:flR (m.t.sub m.f) (m.t.sub m.f)=0)(w:World)(hE:Env w) :
  CR 6 #[.agg m.c.toArray] w (.tuple #[.slice none 0 0,.int .i64 12]):=by
 have HC:=LH (fun b cap ty w hw hb=>zdu [m] (by intro x hx;rw[List.mem_singleton]at hx;rw[hx];exact hm) (by simp) b cap ty w hw hb)
 simp only[List.flatMap_cons,List.flatMap_nil,List.append_nil,List.length_cons,List.length_nil]at HC
 have bd:B3 25 (m.t.sub m.f):=⟨zbP hm.t.1 hm.f.1,zbP hm.t.2.1 hm.f.2.1,zbP hm.t.2.2 hm.f.2.2⟩
 have HD:=LH (fun b w hw hb=>zbk m.k m.F m.O m.W m.D m.f m.t hm.f hm.t (by decide) b w hw hb)
 have HF:=LH (fun b w hw hb=>zds (m.t.sub m.f) (m.t.sub m.f) bd bd (by decide) b w hw hb)
 rw[hr,zaS]at HF
 clear bd hr hm
 obtain⟨ki,F,O,f,t,W,D⟩:=m
 unfold Vm.c VN V3 at *
 simp only at *
 generalize ze (t.sub f).x=DX at *
 generalize ze (t.sub f).y=DY at *
 generalize ze (t.sub f).z=DZ at *
 generalize ze f.x=X1 at *
 generalize ze f.y=X2 at *
 generalize ze f.z=X3 at *
 generalize ze t.x=X4 at *
 generalize ze t.y=X5 at *
 generalize ze t.z=X6 at *
 go_enter Tryz.func6,Tryz.ntmps6
 obtain⟨W0,hW0⟩:∃ W0,w.alloc (.cells #[.int .i64 ki,.int .i64 F,.int .i64 O,.string ⟨X1.toArray⟩,.string ⟨X2.toArray⟩,.string ⟨X3.toArray⟩,.string ⟨X4.toArray⟩,.string ⟨X5.toArray⟩,.string ⟨X6.toArray⟩,.int .i64 W,.int .i64 D] 26)=W0:=⟨_,rfl⟩
 have hq0:Q w W0:=by rw[← hW0];exact bt
 have BM:Blk W0 w.heap.size [.int .i64 ki,.int .i64 F,.int .i64 O,.string ⟨X1.toArray⟩,.string ⟨X2.toArray⟩,.string ⟨X3.toArray⟩,.string ⟨X4.toArray⟩,.string ⟨X5.toArray⟩,.string ⟨X6.toArray⟩,.int .i64 W,.int .i64 D] 26:=by rw[← hW0];exact Blk.new w _ _
 have hE0:=hE.ofQ hq0
 clear hE
 have hE:=hE0
 clear hE0
 have hQ0:=Q.refl W0
 replace m0:=BM.cell
 replace lBM:=BM.lt
 have BC:=Blk.new W0 [.int .i64 ki,.int .i64 F,.int .i64 O,.string ⟨X1.toArray⟩,.string ⟨X2.toArray⟩,.string ⟨X3.toArray⟩,.string ⟨X4.toArray⟩,.string ⟨X5.toArray⟩,.string ⟨X6.toArray⟩,.int .i64 W,.int .i64 D] 26
 go_wp2_with fail
 refine cx (HC.out _ _ _ _ (hE.ofQ bt) BC) fun G1 hq1=>?_
 have hs1:Q W0 G1:=Q.trans bt hq1
 have hQ1:Q W0 G1:=Q.trans hQ0 hs1
 replace BM:=BM.keep hs1 BM.lt
 replace m0:=BM.cell
 replace lBM:=BM.lt
 clear BC hW0 HC
 have C0:zal _ G1.heap.size:=Blk.new G1 [.int .i64 0] 63
 go_wp2_with fail
 refine cx (HD.out _ _ (hE.ofQ (Q.trans hQ1 bt)) C0) fun G2 hq2=>?_
 have hs2:Q G1 G2:=Q.trans bt hq2
 have hQ2:Q W0 G2:=Q.trans hQ1 hs2
 replace BM:=BM.keep hs2 BM.lt
 replace m0:=BM.cell
 replace lBM:=BM.lt
 have C1:zal G2 G1.heap.size:=Blk.keep C0 hq2 (Blk.lt C0)
 have BU0:=Blk.new G2 [.string ⟨DX.toArray⟩,.string ⟨DY.toArray⟩,.string ⟨DZ.toArray⟩] 24
 go_wp2_with fail
 refine cx (HF.out _ _ (hE.ofQ (Q.trans hQ2 bt)) (C1.keep bt)) fun G3 hq3=>?_
 have hs3:Q G2 G3:=Q.trans bt hq3
 have hQ3:Q W0 G3:=Q.trans hQ2 hs3
 replace BM:=BM.keep hs3 BM.lt
 replace m0:=BM.cell
 replace lBM:=BM.lt
 clear BM lBM m0
 have C2:=C1.keep hs3
 have BC:=C2
 unfold zal at BC
 have BU:=BU0.keep hq3 BU0.lt
 replace c0:=BC.cell
 replace lBC:=BC.lt
 replace u0:=BU.cell
 replace lBU:=BU.lt
 clear C0 BU0
 have hQe:=Q.trans hq0 hQ3
 go_wp2
 go_ret2
 exact⟨rfl,hQe⟩
theorem zix(m:Vm)(hm:VmOk m)(hr:(m.t.sub m.f).z=0)(w:World)(hE:Env w) :
  CR 7 #[.agg m.c.toArray] w (.tuple #[.slice none 0 0,.int .i64 12]):=by
 have HC:=LH (fun b cap ty w hw hb=>zdu [m] (by intro x hx;rw[List.mem_singleton]at hx;rw[hx];exact hm) (by simp) b cap ty w hw hb)
 simp only[List.flatMap_cons,List.flatMap_nil,List.append_nil,List.length_cons,List.length_nil]at HC
 have HD:=LH (fun b w hw hb=>zbk m.k m.F m.O m.W m.D m.f m.t hm.f hm.t (by decide) b w hw hb)
 have hz:ze (m.t.sub m.f).z=[48]:=by rw[hr,zaS]
 clear hr hm
 obtain⟨ki,F,O,f,t,W,D⟩:=m
 unfold Vm.c VN V3 at *
 simp only at *
 rw[hz]at HD
 clear hz
 generalize ze (t.sub f).x=DX at *
 generalize ze (t.sub f).y=DY at *
 generalize ze f.x=X1 at *
 generalize ze f.y=X2 at *
 generalize ze f.z=X3 at *
 generalize ze t.x=X4 at *
 generalize ze t.y=X5 at *
 generalize ze t.z=X6 at *
 go_enter Tryz.func7,Tryz.ntmps7
 obtain⟨W0,hW0⟩:∃ W0,w.alloc (.cells #[.int .i64 ki,.int .i64 F,.int .i64 O,.string ⟨X1.toArray⟩,.string ⟨X2.toArray⟩,.string ⟨X3.toArray⟩,.string ⟨X4.toArray⟩,.string ⟨X5.toArray⟩,.string ⟨X6.toArray⟩,.int .i64 W,.int .i64 D] 26)=W0:=⟨_,rfl⟩
 have hq0:Q w W0:=by rw[← hW0];exact bt
 have BM:Blk W0 w.heap.size [.int .i64 ki,.int .i64 F,.int .i64 O,.string ⟨X1.toArray⟩,.string ⟨X2.toArray⟩,.string ⟨X3.toArray⟩,.string ⟨X4.toArray⟩,.string ⟨X5.toArray⟩,.string ⟨X6.toArray⟩,.int .i64 W,.int .i64 D] 26:=by rw[← hW0];exact Blk.new w _ _
 have hE0:=hE.ofQ hq0
 clear hE
 have hE:=hE0
 clear hE0
 have hQ0:=Q.refl W0
 replace m0:=BM.cell
 replace lBM:=BM.lt
 have BC:=Blk.new W0 [.int .i64 ki,.int .i64 F,.int .i64 O,.string ⟨X1.toArray⟩,.string ⟨X2.toArray⟩,.string ⟨X3.toArray⟩,.string ⟨X4.toArray⟩,.string ⟨X5.toArray⟩,.string ⟨X6.toArray⟩,.int .i64 W,.int .i64 D] 26
 go_wp2_with fail
 refine cx (HC.out _ _ _ _ (hE.ofQ bt) BC) fun G1 hq1=>?_
 have hs1:Q W0 G1:=Q.trans bt hq1
 have hQ1:Q W0 G1:=Q.trans hQ0 hs1
 replace BM:=BM.keep hs1 BM.lt
 replace m0:=BM.cell
 replace lBM:=BM.lt
 clear BC hW0 HC
 have C0:zal _ G1.heap.size:=Blk.new G1 [.int .i64 0] 63
 go_wp2_with fail
 refine cx (HD.out _ _ (hE.ofQ (Q.trans hQ1 bt)) C0) fun G2 hq2=>?_
 have hs2:Q G1 G2:=Q.trans bt hq2
 have hQ2:Q W0 G2:=Q.trans hQ1 hs2
 replace BM:=BM.keep hs2 BM.lt
 replace m0:=BM.cell
 replace lBM:=BM.lt
 have C1:zal G2 G1.heap.size:=Blk.keep C0 hq2 (Blk.lt C0)
 clear BM lBM m0
 have BC:=C1
 unfold zal at BC
 replace c0:=BC.cell
 replace lBC:=BC.lt
 have hQe:=Q.trans hq0 (Q.trans hQ2 (show Q G2 (G2.alloc (.cells #[.string ⟨DX.toArray⟩,.string ⟨DY.toArray⟩,.string ⟨#[48]⟩] 24))from bt))
 go_wp2
 go_ret2
 exact⟨rfl,hQe⟩
end
section
open Go.RowKit Go.Shelf Kp
theorem zdb{a b:Rat}(ha:0<a)(hb:0<b):0<a / b:=by
 rw[Rat.div_def]
 exact Rat.mul_pos ha (Rat.inv_pos.2 hb)
theorem zp5{r:Rat}(hr:0<r):aOf (r*r)=r∧leftOf (r*r)=1:=by
 have hn:0<r.num:=npos hr
 obtain⟨e1,e2⟩:=zfK r
 have hk:(r*r).num.toNat*(r*r).den=(r.num.toNat*r.den)*(r.num.toNat*r.den):=by
  rw[e1,e2,Int.toNat_mul (by omega) (by omega)]
  ac_rfl
 have hp:0<r.num.toNat*r.den:=Nat.mul_pos (by omega) r.den_pos
 have hN:=zor hp
 have hl:leftOf (r*r)=1:=by unfold leftOf;rw[hk,hN]
 refine⟨?_,hl⟩
 have h1:=zl6 (s:=r*r) (npos (Rat.mul_pos hr hr))
 rw[hl,show ((1:Nat):Rat)=1 from rfl]at h1
 have h2:=zoT (s:=r*r) (npos (Rat.mul_pos hr hr))
 have a1:aOf (r*r)≤r:=zoA (Rat.le_of_lt hr) (by grind)
 have a2:r≤aOf (r*r):=zoA (Rat.le_of_lt h2) (by grind)
 grind
end
section
open Go.RowKit Go.Shelf Kp
attribute [local go_sem] Oper.semAt_some
theorem ztU(A B C A' B' C':Str)(w:World):(Op.equalIn 10000 24 (.agg #[.string ⟨A.toArray⟩,.string ⟨B.toArray⟩,.string ⟨C.toArray⟩]) (.agg #[.string ⟨A'.toArray⟩,.string ⟨B'.toArray⟩,.string ⟨C'.toArray⟩])).run Tryz.prog w=.ok (decide (A=A'∧B=B'∧C=C')) w:=by
 have u3:=Tryz.underlying22
 have a3:=Tryz.isAgg22
 have z3:=Tryz.sizeOf22
 rw[show (10000:Nat)=9999+1 from rfl,Op.equalIn]
 simp only[Sem.run_bind,run_underlying Tryz.underlying24,Result.andThen_ok]
 go_simp
 by_cases h1:A=A' <;> by_cases h2:B=B' <;> by_cases h3:C=C' <;> simp[h1,h2,h3]
theorem zoy{b g:Nat}{x y z:Value}(hg:b≤g)(w:World):(zp7 b).r w (((w.setCell ⟨g,0,none⟩ x).setCell ⟨g,1,none⟩ y).setCell ⟨g,2,none⟩ z):=fun _ =>
 (((Below.refl _ _).setCell (p:=⟨g,0,none⟩) hg _).setCell (p:=⟨g,1,none⟩) hg _).setCell (p:=⟨g,2,none⟩) hg _
theorem Blk.setRow{w:World}{b g:Nat}{cs:List Value}{t:TypeId}(h:Blk w b cs t)(hne:b≠g)(l:Array Value):Blk (w.setRow g l) b cs t:=by
 unfold Blk World.setRow at *
 rw[Array.getElem?_modify,if_neg (fun e=>hne e.symm)]
 exact h
end
end Go.Proofs.YtjnhmfcklodfdaaGreatDoor
