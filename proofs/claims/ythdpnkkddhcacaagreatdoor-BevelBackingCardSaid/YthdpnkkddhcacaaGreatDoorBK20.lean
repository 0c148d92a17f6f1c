/-
  Walks of package bevel: whether members are right; seat and plumb bevels.; Walks of package bevel: the mitre of two level members.; surd.Mul at valid lists of any numbers.; The mathematics of mitres.; The mathematics of seat and plumb bevels.
-/
import Derived.Test.YthdpnkkddhcacaaGreatDoorBK19
import Derived.Test.YthdpnkkddhcacaaGreatDoorBK12
import Derived.Test.YthdpnkkddhcacaaGreatDoorBK18
set_option maxRecDepth 100000
set_option maxHeartbeats 4000000
namespace Go.Proofs.YthdpnkkddhcacaaGreatDoor
section
open Go.RowKit Go.Shelf Kp
attribute [local go_sem] Oper.semAt_some
theorem znF(l:List Rat)(hl:∀ q∈l,Bd 12 q)(hn:l.length≤100)(v:Value)(w:World)(hE:Env w)(hv:zcR w v (l.map ze)) :
  CR 183 #[v,.func (.func 107) #[] #[]] w (.int .i64 (-1)):=by
 obtain⟨b,o,cap,rfl,hb,hc⟩:=hv
 rw[List.length_map]at hc
 rw[List.length_map]
 have HL:=LH hl
 clear hl
 go_enter Tryz.func183,Tryz.ntmps183
 go_wp2
 go_loopw [8] (fun i wr=>∃ k:Nat,k≤l.length∧i=.int .i64 k∧Q w wr) (fun i _=>l.length - (intOf i).toNat)
 case atStart=>exact⟨0,by omega,rfl,Below.refl _ _⟩
 case round =>
  obtain⟨k,hk,rfl,hQ⟩:=hrel
  by_cases hlt:k<l.length
  ·have hcell:=hc k hlt
   have hcell':wr.cell? ⟨b,o+k,none⟩=some (.string ⟨((l.map ze).getD k []).toArray⟩):=by rw[hQ.cell (p:=⟨b,o+k,none⟩) hb];exact hcell
   have hq:(l.map ze).getD k []=ze l[k]:=by rw[List.getD_eq_getElem?_getD,List.getElem?_map,List.getElem?_eq_getElem hlt];rfl
   rw[hq]at hcell'
   have HG:=LH (fun w hw=>zpZ l[k] (HL.out _ (List.getElem_mem hlt)) w hw)
   clear hcell hc hq HL
   generalize ze l[k]=S at *
   go_wp2_with fail
   refine cx (HG.out _ (hE.q hQ)) fun w2 hq2=>?_
   have hQ2:Q w w2:=Q.trans hQ hq2
   go_wp2
   go_roundw
   case rel=>exact⟨k+1,by omega,by go_num,hQ2⟩
   case measure=>simp[intOf];omega
  ·obtain rfl:k=l.length:=by omega
   go_wp2
   go_ret
   exact⟨rfl,hQ⟩
theorem zkd(l:List Rat)(hl:∀ q∈l,Bd 12 q)(hn:l.length≤100)(v:Value)(w:World)(hE:Env w)(hv:zcR w v (l.map ze)) :
  CR 106 #[v,.func (.func 107) #[] #[]] w (.bool false):=by
 have HI:=LH (znF l hl hn v w hE hv)
 clear hl hv
 go_enter Tryz.func106,Tryz.ntmps106
 go_wp2_with fail
 refine HI.out.mono ?_
 rintro e w1⟨rfl,hq1⟩
 go_wp2
 go_ret
 exact⟨rfl,hq1⟩
theorem zcR.of{w:World}{b:Nat}{l:List Str}{t:TypeId}(h:Blk w b (l.map fun s=>(.string ⟨s.toArray⟩:Value)) t)(cap:Nat):zcR w (.slice (some ⟨b,0,none⟩) l.length cap) l:=by
 refine⟨b,0,cap,rfl,h.lt,fun i hi=>?_⟩
 rw[Nat.zero_add,h.cell,List.getElem?_map,List.getElem?_eq_getElem hi,List.getD_eq_getElem?_getD,List.getElem?_eq_getElem hi]
 rfl
structure Vm where
 k:Int
 F:Int
 O:Int
 f:P3
 t:P3
 W:Int
 D:Int
def Vm.c(m:Vm):List Value:=[.int .i64 m.k,.int .i64 m.F,.int .i64 m.O,.string ⟨(ze m.f.x).toArray⟩,.string ⟨(ze m.f.y).toArray⟩,.string ⟨(ze m.f.z).toArray⟩,.string ⟨(ze m.t.x).toArray⟩,.string ⟨(ze m.t.y).toArray⟩,.string ⟨(ze m.t.z).toArray⟩,.int .i64 m.W,.int .i64 m.D]
structure VmOk (x:Vm):Prop where
 m:MOk x.k x.W x.D
 o:FOk x.F x.O
 f:B3 12 x.f
 t:B3 12 x.t
 ne:x.f≠x.t
theorem Vm.cell{w:World}{b:Nat}{ty:TypeId}{l:List Vm}(hl:l.length≤2)(hb:Blk w b (l.flatMap Vm.c) ty)(k:Nat)(hk:k<l.length)(i:Nat)(hi:i<11):w.cell? ⟨b,k*11+i,none⟩=(l[k].c)[i]?:=by
 rw[hb.cell]
 cases l with
 | nil=>exact absurd hk (by simp)
 | cons m r =>
  have hm:m.c.length=11:=rfl
  cases r with
  | nil =>
   obtain rfl:k=0:=by simp at hk;omega
   rw[List.flatMap_cons,List.flatMap_nil,List.append_nil,show 0*11+i=i by omega]
   rfl
  | cons n r =>
   obtain rfl:r=[]:=List.length_eq_zero_iff.1 (by rw[List.length_cons,List.length_cons]at hl;omega)
   rw[List.flatMap_cons,List.flatMap_cons,List.flatMap_nil,List.append_nil]
   rcases(show k=0∨k=1 by rw[List.length_cons,List.length_cons,List.length_nil]at hk;omega)with rfl | rfl
   ·rw[show 0*11+i=i by omega,List.getElem?_append_left (by omega)]
    rfl
   ·rw[List.getElem?_append_right (by omega),hm,show 1*11+i - 11=i by omega]
    rfl
theorem zf8(l:List Vm)(hl:∀ m∈l,VmOk m)(h2:l.length≤2)(b cap:Nat)(ty:TypeId)(w:World)(hE:Env w)(hb:Blk w b (l.flatMap Vm.c) ty) :
  CR 57 #[.slice (some ⟨b,0,none⟩) l.length cap] w (.int .i64 0):=by
 have HL:=LH hl
 have HB:=LH hb
 have HC:=LH (fun k (hk:k<l.length) (W:World) (hq:Q w W)=>Vm.cell h2 (hb.keep hq hb.lt) k hk)
 have hn:(l.length:Int)≤2:=by omega
 clear hl hb
 go_enter Tryz.func57,Tryz.ntmps57
 go_wp2
 go_loopw [9] (fun i wr=>∃ k:Nat,k≤l.length∧i=.int .i64 k∧Q w wr) (fun i _=>l.length - (intOf i).toNat)
 case atStart=>exact⟨0,by omega,rfl,Below.refl _ _⟩
 case round =>
  obtain⟨k,hk,rfl,hQ⟩:=hrel
  by_cases hlt:k<l.length
  ·have hc:=HC.out k hlt wr hQ
   have ok:=HL.out _ (List.getElem_mem hlt)
   have HI:=LH (fun w hw=>znI l[k].k l[k].F l[k].O l[k].W l[k].D ok.m ok.o l[k].f l[k].t ok.f ok.t (by decide) (zsL ok.f (by decide)) ok.ne w hw)
   rw[zsL ok.t (by decide),if_neg (by decide)]at HI
   clear ok HL HC
   have c0:=hc 0 (by decide)
   simp only[Vm.c,List.getElem?_cons_zero,Nat.add_zero]at c0 hc
   generalize l[k]=m at *
   obtain⟨ki,F,O,f,t,W,D⟩:=m
   unfold VN at HI
   simp only at *
   generalize ze f.x=X1 at *
   generalize ze f.y=X2 at *
   generalize ze f.z=X3 at *
   generalize ze t.x=X4 at *
   generalize ze t.y=X5 at *
   generalize ze t.z=X6 at *
   have BT:=Blk.new wr [.int .i64 ki,.int .i64 F,.int .i64 O,.string ⟨X1.toArray⟩,.string ⟨X2.toArray⟩,.string ⟨X3.toArray⟩,.string ⟨X4.toArray⟩,.string ⟨X5.toArray⟩,.string ⟨X6.toArray⟩,.int .i64 W,.int .i64 D] 37
   go_wp2_with fail
   refine cx (HI.out _ (hE.q (Q.trans hQ bt))) fun w2 hq2=>?_
   have hQ2:Q w w2:=Q.trans hQ (Q.trans bt hq2)
   clear hc c0 BT
   go_wp2
   go_roundw
   case rel=>exact⟨k+1,by omega,by go_num,hQ2⟩
   case measure=>simp[intOf];omega
  ·obtain rfl:k=l.length:=by omega
   go_wp2
   go_loopw [19] (fun i wr=>∃ k:Nat,k≤l.length∧i=.int .i64 k∧Q w wr) (fun i _=>l.length - (intOf i).toNat)
   case atStart=>exact⟨0,by omega,rfl,hQ⟩
   case round =>
    clear hQ
    obtain⟨k,hk,rfl,hQ⟩:=hrel
    by_cases hlt:k<l.length
    ·have hc:=HC.out k hlt _ hQ
     have ok:=HL.out _ (List.getElem_mem hlt)
     generalize l[k]=m at *
     have HS:=LH (fun v w hw hv=>zkd [m.f.x,m.f.y,m.f.z,m.t.x,m.t.y,m.t.z] (by
      intro q hq
      simp only[List.mem_cons,List.not_mem_nil,or_false]at hq
      rcases hq with rfl | rfl | rfl | rfl | rfl | rfl
      ·exact ok.f.1
      ·exact ok.f.2.1
      ·exact ok.f.2.2
      ·exact ok.t.1
      ·exact ok.t.2.1
      ·exact ok.t.2.2) (by simp) v w hw hv)
     clear ok HL HC
     have c0:=hc 0 (by decide)
     simp only[Vm.c,List.getElem?_cons_zero,Nat.add_zero]at c0 hc
     obtain⟨ki,F,O,f,t,W,D⟩:=m
     simp only[List.map_cons,List.map_nil]at *
     generalize ze f.x=X1 at *
     generalize ze f.y=X2 at *
     generalize ze f.z=X3 at *
     generalize ze t.x=X4 at *
     generalize ze t.y=X5 at *
     generalize ze t.z=X6 at *
     go_wp2_with fail
     refine cx (HS.out _ _ (hE.q (Q.trans hQ bt)) (zcR.of (l:=[X1,X2,X3,X4,X5,X6]) (Blk.new1 wr _ _ 29) 6)) fun w2 hq2=>?_
     have hQ2:Q w w2:=Q.trans hQ (Q.trans bt hq2)
     clear hc c0
     go_wp2
     go_roundw
     case rel=>exact⟨k+1,by omega,by go_num,hQ2⟩
     case measure=>simp[intOf];omega
    ·obtain rfl:k=l.length:=by omega
     go_wp2
     go_ret
     exact⟨rfl,hQ⟩
theorem TSl.one{w:World}{b:Nat}{s1 s2:Str}{t:TypeId}(h:Blk w b [.string ⟨s1.toArray⟩,.string ⟨s2.toArray⟩] t)(cap:Nat):TSl w w.heap.size (.slice (some ⟨b,0,none⟩) 1 cap) [(s1,s2)]:=by
 refine⟨_,cap,rfl,Nat.le_refl _,fun i hi=>⟨b,0,rfl,h.lt,?_⟩⟩
 obtain rfl:i=0:=by simp at hi;omega
 exact⟨h.cell 0,h.cell 1⟩
theorem zq5{d:P3}(h:flR d d≠0):0<(flR d d).num:=by
 have h0:0≤flR d d:=Rat.add_nonneg (sq_nonneg _) (sq_nonneg _)
 have:=Rat.num_nonneg.2 h0
 have h1:(flR d d).num≠0:=fun e=>h (Rat.num_eq_zero.1 e)
 omega
def zl3(d:P3):List (Rat × Rat):=[(zeA d.z,1 / flR d d)]
theorem zkN(m:Vm)(hm:VmOk m)(hr:flR (m.t.sub m.f) (m.t.sub m.f)≠0)(w:World)(hE:Env w) :
  Calls Tryz.prog 41 #[.agg m.c.toArray] w (MkP w (zl3 (m.t.sub m.f))):=by
 have HC:=LH (fun b cap ty w hw hb=>zf8 [m] (by intro x hx;rw[List.mem_singleton]at hx;rw[hx];exact hm) (by simp) b cap ty w hw hb)
 simp only[List.flatMap_cons,List.flatMap_nil,List.append_nil,List.length_cons,List.length_nil]at HC
 have bd:B3 25 (m.t.sub m.f):=⟨zcP hm.t.1 hm.f.1,zcP hm.t.2.1 hm.f.2.1,zcP hm.t.2.2 hm.f.2.2⟩
 have bf:Bd 101 (flR (m.t.sub m.f) (m.t.sub m.f)):=((bd.1.mul bd.1).add (bd.2.1.mul bd.2.1)).mono (by decide)
 have HD:=LH (fun b w hw hb=>zb1 m.k m.F m.O m.W m.D m.f m.t hm.f hm.t (by decide) b w hw hb)
 have HF:=LH (fun b w hw hb=>zd2 (m.t.sub m.f) (m.t.sub m.f) bd bd (by decide) b w hw hb)
 have HS:=LH (fun w=>zd3 (m.t.sub m.f).z w)
 have hv:=fun b w hw hb=>ziC 1 (flR (m.t.sub m.f) (m.t.sub m.f)) zbs bf (fun e=>hr (Rat.num_eq_zero.1 e)) (by decide) b w hw hb
 rw[zb4]at hv
 have HV:=LH hv
 have htw:∀ t∈zl3 (m.t.sub m.f),TW t:=fun t ht=>by
  obtain rfl:=List.mem_singleton.1 ht
  exact⟨(zhK bd.2.2).zah (by decide),(zbs.quot bf (zq5 hr)).zah (by decide),zeh (by decide) (zq5 hr)⟩
 have HM:=LH (fun b v w hw hb hv=>zg3 (zl3 (m.t.sub m.f)) htw (by unfold zl3;simp) b v w hw hb hv)
 have hof:(zl3 (m.t.sub m.f)).map ofT=[(ze (zeA (m.t.sub m.f).z),ze (1 / flR (m.t.sub m.f) (m.t.sub m.f)))]:=rfl
 rw[hof]at HM
 have hz:(ze (flR (m.t.sub m.f) (m.t.sub m.f)) == [48])=false:=by
  rw[beq_eq_false_iff_ne,← zaw];exact fun h=>hr (zaS h)
 clear hof htw hv bf bd hr hm
 generalize zl3 (m.t.sub m.f)=T at *
 generalize ze (1 / flR (m.t.sub m.f) (m.t.sub m.f))=RT at *
 generalize ze (flR (m.t.sub m.f) (m.t.sub m.f))=RN at *
 generalize ze (zeA (m.t.sub m.f).z)=ZA at *
 obtain⟨ki,F,O,f,t,W,D⟩:=m
 unfold Vm.c VN V3 at *
 simp only at *
 generalize ze (t.sub f).x=DX at *
 generalize ze (t.sub f).y=DY at *
 generalize ze (t.sub f).z=DZ at *
 generalize ze f.x=X1 at *
 generalize ze f.y=X2 at *
 generalize ze f.z=X3 at *
 generalize ze t.x=X4 at *
 generalize ze t.y=X5 at *
 generalize ze t.z=X6 at *
 go_enter Tryz.func41,Tryz.ntmps41
 obtain⟨W0,hW0⟩:∃ W0,w.alloc (.cells #[.int .i64 ki,.int .i64 F,.int .i64 O,.string ⟨X1.toArray⟩,.string ⟨X2.toArray⟩,.string ⟨X3.toArray⟩,.string ⟨X4.toArray⟩,.string ⟨X5.toArray⟩,.string ⟨X6.toArray⟩,.int .i64 W,.int .i64 D] 37)=W0:=⟨_,rfl⟩
 have hq0:Q w W0:=by rw[← hW0];exact bt
 have BM:Blk W0 w.heap.size [.int .i64 ki,.int .i64 F,.int .i64 O,.string ⟨X1.toArray⟩,.string ⟨X2.toArray⟩,.string ⟨X3.toArray⟩,.string ⟨X4.toArray⟩,.string ⟨X5.toArray⟩,.string ⟨X6.toArray⟩,.int .i64 W,.int .i64 D] 37:=by rw[← hW0];exact Blk.new w _ _
 have hE0:=hE.ofQ hq0
 clear hE
 have hE:=hE0
 clear hE0
 have hQ0:=Q.refl W0
 replace m0:=BM.cell
 replace lBM:=BM.lt
 have BC:=Blk.new W0 [.int .i64 ki,.int .i64 F,.int .i64 O,.string ⟨X1.toArray⟩,.string ⟨X2.toArray⟩,.string ⟨X3.toArray⟩,.string ⟨X4.toArray⟩,.string ⟨X5.toArray⟩,.string ⟨X6.toArray⟩,.int .i64 W,.int .i64 D] 37
 go_wp2_with fail
 refine cx (HC.out _ _ _ _ (hE.ofQ bt) BC) fun G1 hq1=>?_
 have hs1:Q W0 G1:=Q.trans bt hq1
 have hQ1:Q W0 G1:=Q.trans hQ0 hs1
 replace BM:=BM.keep hs1 BM.lt
 replace m0:=BM.cell
 replace lBM:=BM.lt
 clear BC hW0 HC
 have C0:zaA _ G1.heap.size:=Blk.new G1 [.int .i64 0] 67
 go_wp2_with fail
 refine cx (HD.out _ _ (hE.ofQ (Q.trans hQ1 bt)) C0) fun G2 hq2=>?_
 have hs2:Q G1 G2:=Q.trans bt hq2
 have hQ2:Q W0 G2:=Q.trans hQ1 hs2
 replace BM:=BM.keep hs2 BM.lt
 replace m0:=BM.cell
 replace lBM:=BM.lt
 have C1:zaA G2 G1.heap.size:=Blk.keep C0 hq2 (Blk.lt C0)
 have BU0:=Blk.new G2 [.string ⟨DX.toArray⟩,.string ⟨DY.toArray⟩,.string ⟨DZ.toArray⟩] 35
 go_wp2_with fail
 refine cx (HF.out _ _ (hE.ofQ (Q.trans hQ2 bt)) (C1.keep bt)) fun G3 hq3=>?_
 have hs3:Q G2 G3:=Q.trans bt hq3
 have hQ3:Q W0 G3:=Q.trans hQ2 hs3
 replace BM:=BM.keep hs3 BM.lt
 replace m0:=BM.cell
 replace lBM:=BM.lt
 clear BM lBM m0
 have C2:=C1.keep hs3
 have BC:=C2
 unfold zaA at BC
 have BU:=BU0.keep hq3 BU0.lt
 replace c0:=BC.cell
 replace lBC:=BC.lt
 replace u0:=BU.cell
 replace lBU:=BU.lt
 clear C0 BU0
 go_wp2_with fail
 refine(HS.out _).mono ?_
 rintro e y⟨rfl,rfl⟩
 go_wp2_with fail
 refine cx (HV.out _ _ (hE.ofQ hQ3) C2) fun G4 hq4=>?_
 have hs4:Q G3 G4:=Q.trans bt hq4
 have hQ4:Q W0 G4:=Q.trans hQ3 hs4
 replace BC:=BC.keep hs4 BC.lt
 replace c0:=BC.cell
 replace lBC:=BC.lt
 replace BU:=BU.keep hs4 BU.lt
 replace u0:=BU.cell
 replace lBU:=BU.lt
 have C3:=C2.keep hs4
 have BT:=Blk.new G4 [.string ⟨ZA.toArray⟩,.string ⟨RT.toArray⟩] 47
 clear C1 C2
 go_wp2_with fail
 refine(HM.out _ _ _ (hE.ofQ (Q.trans hQ4 bt)) (C3.keep bt) (TSl.one BT 1)).mono ?_
 intro e y h
 obtain⟨v,E,rfl,hq5,h⟩:=h.lift (Q.trans hq0 (Q.trans hQ4 bt))
 have H5:=LH h
 clear h
 go_wp2
 go_ret2
 exact⟨_,_,rfl,hq5,H5.out⟩
def zja(d:P3):List (Rat × Rat):=[(1 / zeA d.z,flR d d)]
theorem zn1(m:Vm)(hm:VmOk m)(hr:(m.t.sub m.f).z≠0)(w:World)(hE:Env w) :
  Calls Tryz.prog 42 #[.agg m.c.toArray] w (MkP w (zja (m.t.sub m.f))):=by
 have HC:=LH (fun b cap ty w hw hb=>zf8 [m] (by intro x hx;rw[List.mem_singleton]at hx;rw[hx];exact hm) (by simp) b cap ty w hw hb)
 simp only[List.flatMap_cons,List.flatMap_nil,List.append_nil,List.length_cons,List.length_nil]at HC
 have bd:B3 25 (m.t.sub m.f):=⟨zcP hm.t.1 hm.f.1,zcP hm.t.2.1 hm.f.2.1,zcP hm.t.2.2 hm.f.2.2⟩
 have bf:Bd 101 (flR (m.t.sub m.f) (m.t.sub m.f)):=((bd.1.mul bd.1).add (bd.2.1.mul bd.2.1)).mono (by decide)
 have HD:=LH (fun b w hw hb=>zb1 m.k m.F m.O m.W m.D m.f m.t hm.f hm.t (by decide) b w hw hb)
 have HF:=LH (fun b w hw hb=>zd2 (m.t.sub m.f) (m.t.sub m.f) bd bd (by decide) b w hw hb)
 have HS:=LH (fun w=>(zd3 (m.t.sub m.f).z w).mono fun e w' h=>(show e=_∧Q w w' from⟨h.1,by rw[h.2];exact Q.refl _⟩))
 have az:=npos (zlM hr)
 have hv:=fun b w hw hb=>ziC 1 (zeA (m.t.sub m.f).z) zbs (zhK bd.2.2) (by omega) (by decide) b w hw hb
 rw[zb4]at hv
 have HV:=LH hv
 have htw:∀ t∈zja (m.t.sub m.f),TW t:=fun t ht=>by
  obtain rfl:=List.mem_singleton.1 ht
  exact⟨(zbs.quot (zhK bd.2.2) az).zah (by decide),bf.zah (by decide),Rat.num_nonneg.2 (Rat.add_nonneg (sq_nonneg _) (sq_nonneg _))⟩
 have HM:=LH (fun b v w hw hb hv=>zg3 (zja (m.t.sub m.f)) htw (by unfold zja;simp) b v w hw hb hv)
 have hof:(zja (m.t.sub m.f)).map ofT=[(ze (1 / zeA (m.t.sub m.f).z),ze (flR (m.t.sub m.f) (m.t.sub m.f)))]:=rfl
 rw[hof]at HM
 have hz:(ze (m.t.sub m.f).z == [48])=false:=by
  rw[beq_eq_false_iff_ne,← zaw];exact fun h=>hr (zaS h)
 clear hof htw hv bf bd hr hm az
 generalize zja (m.t.sub m.f)=T at *
 generalize ze (1 / zeA (m.t.sub m.f).z)=RT at *
 generalize ze (flR (m.t.sub m.f) (m.t.sub m.f))=RN at *
 generalize ze (zeA (m.t.sub m.f).z)=ZA at *
 obtain⟨ki,F,O,f,t,W,D⟩:=m
 unfold Vm.c VN V3 at *
 simp only at *
 generalize ze (t.sub f).x=DX at *
 generalize ze (t.sub f).y=DY at *
 generalize ze (t.sub f).z=DZ at *
 generalize ze f.x=X1 at *
 generalize ze f.y=X2 at *
 generalize ze f.z=X3 at *
 generalize ze t.x=X4 at *
 generalize ze t.y=X5 at *
 generalize ze t.z=X6 at *
 go_enter Tryz.func42,Tryz.ntmps42
 obtain⟨W0,hW0⟩:∃ W0,w.alloc (.cells #[.int .i64 ki,.int .i64 F,.int .i64 O,.string ⟨X1.toArray⟩,.string ⟨X2.toArray⟩,.string ⟨X3.toArray⟩,.string ⟨X4.toArray⟩,.string ⟨X5.toArray⟩,.string ⟨X6.toArray⟩,.int .i64 W,.int .i64 D] 37)=W0:=⟨_,rfl⟩
 have hq0:Q w W0:=by rw[← hW0];exact bt
 have BM:Blk W0 w.heap.size [.int .i64 ki,.int .i64 F,.int .i64 O,.string ⟨X1.toArray⟩,.string ⟨X2.toArray⟩,.string ⟨X3.toArray⟩,.string ⟨X4.toArray⟩,.string ⟨X5.toArray⟩,.string ⟨X6.toArray⟩,.int .i64 W,.int .i64 D] 37:=by rw[← hW0];exact Blk.new w _ _
 have hE0:=hE.ofQ hq0
 clear hE
 have hE:=hE0
 clear hE0
 have hQ0:=Q.refl W0
 replace m0:=BM.cell
 replace lBM:=BM.lt
 have BC:=Blk.new W0 [.int .i64 ki,.int .i64 F,.int .i64 O,.string ⟨X1.toArray⟩,.string ⟨X2.toArray⟩,.string ⟨X3.toArray⟩,.string ⟨X4.toArray⟩,.string ⟨X5.toArray⟩,.string ⟨X6.toArray⟩,.int .i64 W,.int .i64 D] 37
 go_wp2_with fail
 refine cx (HC.out _ _ _ _ (hE.ofQ bt) BC) fun G1 hq1=>?_
 have hs1:Q W0 G1:=Q.trans bt hq1
 have hQ1:Q W0 G1:=Q.trans hQ0 hs1
 replace BM:=BM.keep hs1 BM.lt
 replace m0:=BM.cell
 replace lBM:=BM.lt
 clear BC hW0 HC
 have C0:zaA _ G1.heap.size:=Blk.new G1 [.int .i64 0] 67
 go_wp2_with fail
 refine cx (HD.out _ _ (hE.ofQ (Q.trans hQ1 bt)) C0) fun G2 hq2=>?_
 have hs2:Q G1 G2:=Q.trans bt hq2
 have hQ2:Q W0 G2:=Q.trans hQ1 hs2
 replace BM:=BM.keep hs2 BM.lt
 replace m0:=BM.cell
 replace lBM:=BM.lt
 have C1:zaA G2 G1.heap.size:=Blk.keep C0 hq2 (Blk.lt C0)
 have BU0:=Blk.new G2 [.string ⟨DX.toArray⟩,.string ⟨DY.toArray⟩,.string ⟨DZ.toArray⟩] 35
 clear BM lBM m0
 have BC:=C1
 unfold zaA at BC
 replace c0:=BC.cell
 replace lBC:=BC.lt
 go_wp2_with fail
 obtain⟨W2,hW2⟩:∃ W2,G2.alloc (.cells #[.string ⟨DX.toArray⟩,.string ⟨DY.toArray⟩,.string ⟨DZ.toArray⟩] 35)=W2:=⟨_,rfl⟩
 have BU:Blk W2 G2.heap.size [.string ⟨DX.toArray⟩,.string ⟨DY.toArray⟩,.string ⟨DZ.toArray⟩] 35:=by rw[← hW2];exact BU0
 have hq2w:Q G2 W2:=by rw[← hW2];exact bt
 have hQ3:Q W0 W2.drew:=Q.trans hQ2 (Q.trans hq2w (Below.drew (Q.refl W2)))
 have hEd:Env W2.drew:=hE.ofQ hQ3
 have hcd:zaA W2.drew G1.heap.size:=C1.keep (Q.trans hq2w (Below.drew (Q.refl W2)))
 rw[hW2]
 clear hW2 BU0 BC c0 lBC C0 C1
 have hQ0:=Q.refl W2
 replace u0:=BU.cell 0
 replace u1:=BU.cell 1
 replace u2:=BU.cell 2
 simp only[zs4,zs5]at u0 u1 u2
 replace lBU:=BU.lt
 refine zm 15 rfl (by kernel_rfl) rfl ?_
 refine svp 0 ?_
 refine svp 1 ?_
 refine svp 2 ?_
 refine svq 3 rfl (by intro w' hq;have hc0:=za hq u2;go_simp;try with_reducible rfl) ?_
 refine zh (i:=4) (v:=_) rfl rfl (by kernel_rfl) (by kernel_rfl) (fun _ _ _ h=>h) (by rfl) ?_ (fun w' hq=>HS.out w') ?_
 ·(intro w' hq;go_simp;try with_reducible rfl)
 simp only[Act.put,zs1,zs2,zs3]
 refine zh (i:=5) (v:=_) rfl rfl (by kernel_rfl) (by kernel_rfl) (fun _ _ _ h=>h) (by rfl) ?_ (fun w' hq=>HV.out _ w' (hEd.ofQ hq) (hcd.keep hq)) ?_
 ·(intro w' hq;go_simp;try with_reducible rfl)
 simp only[Act.put,zs1,zs2,zs3]
 refine svp 6 ?_
 refine svq 7 rfl (by intro w' hq;have hc0:=za hq u0;have hc1:=za hq u1;have hc2:=za hq u2;go_simp;try with_reducible rfl) ?_
 refine svq 8 rfl (by intro w' hq;have hc0:=za hq u0;have hc1:=za hq u1;have hc2:=za hq u2;go_simp;try with_reducible rfl) ?_
 refine zh (i:=9) (v:=_) rfl rfl (by kernel_rfl) (by kernel_rfl) (fun _ _ _ h=>h) (by rfl) ?_ (fun w' hq=>HF.out _ w' (hEd.ofQ hq) (hcd.keep hq)) ?_
 ·(intro w' hq;go_simp;try with_reducible rfl)
 simp only[Act.put,zs1,zs2,zs3]
 refine svp 10 ?_
 refine za9 (i:=11) (fun w'=>.slice (some ⟨w'.heap.size,0,none⟩) 1 1) (.cells #[.string ⟨RT.toArray⟩,.string ⟨RN.toArray⟩] 47) rfl rfl (by kernel_rfl) (by rfl) (fun w' hq=>by go_simp;try with_reducible rfl) (fun w2 hq2=>?_)
 simp only[Act.put,zs1,zs2,zs3]
 have BT2:=Blk.new w2 [.string ⟨RT.toArray⟩,.string ⟨RN.toArray⟩] 47
 have hQ4:Q W0 (w2.alloc (.cells [.string ⟨RT.toArray⟩,.string ⟨RN.toArray⟩].toArray 47)):=Q.trans hQ3 (Q.trans hq2 bt)
 have hcm:=hcd.keep (Q.trans hq2 (show Q w2 (w2.alloc (.cells [.string ⟨RT.toArray⟩,.string ⟨RN.toArray⟩].toArray 47))from bt))
 clear HS HV HF BU u0 u1 u2 lBU hcd hEd
 refine zZ (i:=12) rfl rfl (by kernel_rfl) (by rfl) (fun w' hq=>by go_simp;try with_reducible rfl) (fun w3 hq3=>(HM.out _ _ w3 (hE.ofQ (Q.trans hQ4 hq3)) (hcm.keep hq3) (TSl.one (BT2.keep hq3 BT2.lt) 1)).mono ?_)
 intro e y h
 have hQ5:=Q.trans hQ4 hq3
 obtain⟨v,E,rfl,hq5,h⟩:=h
 have hQ6:=Q.trans hq0 (Q.trans hQ5 hq5)
 have H5:=LH h
 have hsz:=hQ5.size
 have hsz0:=hq0.size
 clear h HM
 refine⟨_,rfl,hq5,?_⟩
 simp only[Act.put,zs1,zs2,zs3]
 refine svp 13 ?_
 refine svp 14 ?_
 refine zi (by kernel_rfl) (fun w6 hq6=>?_)
 simp only[List.drop_succ_cons,List.drop_zero]
 have hQ7:=Q.trans hQ6 hq6
 go_wp2
 go_ret2
 refine⟨_,_,rfl,hQ7,?_⟩
 rcases H5.out with h | ⟨h1,C,h2,h3⟩
 ·exact .inl h
 ·exact .inr ⟨h1,C,h2,Joins.ownsRow_le (h3.keep hq6) (by omega)⟩
theorem zov{b g:Nat}{x y z:Value}(hg:b≤g)(w:World):(zp4 b).r w (((w.setCell ⟨g,0,none⟩ x).setCell ⟨g,1,none⟩ y).setCell ⟨g,2,none⟩ z):=fun _ =>
 (((Below.refl _ _).setCell (p:=⟨g,0,none⟩) hg _).setCell (p:=⟨g,1,none⟩) hg _).setCell (p:=⟨g,2,none⟩) hg _
theorem Blk.setRow{w:World}{b g:Nat}{cs:List Value}{t:TypeId}(h:Blk w b cs t)(hne:b≠g)(l:Array Value):Blk (w.setRow g l) b cs t:=by
 unfold Blk World.setRow at *
 rw[Array.getElem?_modify,if_neg (fun e=>hne e.symm)]
 exact h
end
section
open Go.RowKit Kp
attribute [local go_sem] Oper.semAt_some
def zpz(a b:Rat × Nat):Rat × Rat:=(a.1*b.1,(a.2:Rat)*(b.2:Rat))
def zg9(L K:List (Rat × Nat)):List (Rat × Rat):=L.flatMap fun a=>K.map (zpz a)
theorem zqJ(L K:List (Rat × Nat))(a:Rat × Nat):zg9 (L++[a]) K=zg9 L K++K.map (zpz a):=by
 unfold zg9
 rw[List.flatMap_append,List.flatMap_cons,List.flatMap_nil,List.append_nil]
theorem zos(L K:List (Rat × Nat)):(zg9 L K).length=L.length*K.length:=by
 induction L with
 | nil=>simp[zg9]
 | cons a r ih =>
  show ((K.map (zpz a))++zg9 r K).length=_
  rw[List.length_append,List.length_map,ih,List.length_cons,Nat.add_mul,Nat.one_mul,Nat.add_comm]
theorem ztk{L K:List (Rat × Nat)}(sL:SList L)(sK:SList K):∀ t∈zg9 L K,TW t:=fun t ht=>by
 unfold zg9 at ht
 obtain⟨a,ha,ht⟩:=List.mem_flatMap.1 ht
 obtain⟨b,hb,rfl⟩:=List.mem_map.1 ht
 have b1:=zfg (n:=60) (by decide) (sL.term a ha).c60
 have b2:=zfg (n:=60) (by decide) (sK.term b hb).c60
 refine⟨(b1.mul b2).zah (by decide),((sL.term a ha).c40.mul (sK.term b hb).c40).zah (by decide),?_⟩
 show 0≤((a.2:Rat)*(b.2:Rat)).num
 rw[← Rat.natCast_mul,Rat.num_natCast]
 omega
theorem Blk.grownM{w w':World}{b:Nat}{cs:List Value}{t:TypeId}{row:Option Nat}(h:Blk w b cs t)(hg:w.grownBy w' row)(hne:row≠some b):Blk w' b cs t:=by
 have:=h.lt
 unfold Blk at *
 rw[hg.block b this (fun e=>hne e.symm)]
 exact h
theorem znc(L K:List (Rat × Nat))(sL:SList L)(sK:SList K)(hlen:L.length*K.length≤16)(hv2:∀ cs,zd5 (zg9 L K)=some cs→cs.length≤2)
  (B1 B2:Nat)(v1 v2:Value)(w:World)(hE:Env w)(h1:zH w B1 v1 L)(h2:zH w B2 v2 K) :
  Calls Tryz.prog 11 #[v1,v2] w fun e w'=>Q w w'∧(zaX (zg9 L K)=none→e=.returned (.tuple #[.slice none 0 0,.int .i64 4]))∧∀ C,zaX (zg9 L K)=some C→∃ v',e=.returned (.tuple #[v',.int .i64 0])∧zH w' w.heap.size v' (zgj C):=by
 have HB:=LH (zhL L K sL sK B1 B2 v1 v2 w hE h1 h2)
 have HTL:=LH (fun a ha=>sL.term a ha)
 have HTK:=LH (fun a ha=>sK.term a ha)
 have HMK:=LH (fun v w hw hv=>zdl (zg9 L K) (ztk sL sK) (by rw[zos];exact hlen) hv2 v w hw hv)
 obtain⟨mk,hmk⟩:∃ mk,zaX (zg9 L K)=mk:=⟨_,rfl⟩
 rw[hmk]at HMK ⊢
 have t1:=h1.tsl
 have t2:=h2.tsl
 obtain⟨a1,c1,e1,-⟩:=h1.form
 obtain⟨a2,c2,e2,-⟩:=h2.form
 have nL:L.length≤16:=sL.len
 have nK:K.length≤16:=sK.len
 clear h1 h2 sL sK hlen hv2 hmk
 subst e1
 subst e2
 obtain⟨a1',cap1,f1,-,hc1⟩:=t1
 obtain⟨a2',cap2,f2,-,hc2⟩:=t2
 rw[List.length_map]at f1 f2 hc1 hc2
 simp only[Value.slice.injEq]at f1 f2
 obtain⟨rfl,-,rfl⟩:=f1
 obtain⟨rfl,-,rfl⟩:=f2
 obtain⟨i0,hi,hz0,hz1,hz2⟩:=zco zeo
 have HI:=LH hi
 have HZ:=LH hz0
 have HS:=LH hz1
 have HBy:=LH hz2
 clear hi hz0 hz1 hz2
 go_enter Tryz.func11,Tryz.ntmps11
 go_wp2_with fail
 refine HB.out.mono ?_
 rintro e w1⟨rfl,hq1⟩
 clear HB
 go_wp2
 go_loopw [6,20] (fun o i wr=>∃ k:Nat,k≤L.length∧i=.int .i64 k∧Q w wr∧wr.ownsRow w.heap.size 47 2 o (zg9 (L.take k) K).length (zca ((zg9 (L.take k) K).map ofT))) (fun _ i _=>L.length - (intOf i).toNat)
 case atStart=>exact⟨0,by omega,rfl,hq1,World.ownsRow_nil _ _ _ _⟩
 case round =>
  obtain⟨k,hk,rfl,hQ,hrow⟩:=hrel
  by_cases hlt:k<L.length
  ·obtain⟨b,o1,ha,hb,d0,d1⟩:=hc1 k hlt
   subst ha
   have c0:=(hQ.cell (p:=⟨b,o1+k*2,none⟩) hb).trans d0
   have c1:=(hQ.cell (p:=⟨b,o1+k*2+1,none⟩) hb).trans d1
   have hget:(L.map ofC).getD k ([],[])=ofC L[k]:=by rw[List.getD_eq_getElem?_getD,List.getElem?_map,List.getElem?_eq_getElem hlt];rfl
   rw[hget]at c0 c1
   simp only[ofC]at c0 c1
   have hTS:Hid (zg9 (L.take (k+1)) K=zg9 (L.take k) K++K.map (zpz L[k])):=LH (by rw[List.take_succ_eq_append_getElem hlt,zqJ])
   have HTa:=LH (HTL.out L[k] (List.getElem_mem hlt))
   have HK:Hid (k+1≤L.length):=LH hlt
   have HR:=LH hrow
   have hml:(zg9 (L.take k) K).length≤256:=by
    rw[zos]
    have h3:(L.take k).length≤L.length:=by rw[List.length_take];omega
    exact Nat.le_trans (Nat.mul_le_mul (by omega) (by omega)) (show 16*16≤256 by decide)
   have lbr:b<wr.heap.size:=Nat.lt_of_lt_of_le hb hQ.size
   clear hget d0 d1 hrow
   generalize zg9 (L.take k) K=M0 at *
   generalize L[k]=A at *
   obtain⟨x,l⟩:=A
   simp only at c0 c1
   have T8:=Blk.new wr [.string ⟨(ze x).toArray⟩,.string ⟨(Lib.itoa (l:Int)).toArray⟩] 47
   have hQa:Q wr (wr.alloc (.cells [.string ⟨(ze x).toArray⟩,.string ⟨(Lib.itoa (l:Int)).toArray⟩].toArray 47)):=(Below.refl _ wr).alloc (Nat.le_refl _) _
   have HR0:=LH (HR.out.alloc (.cells [.string ⟨(ze x).toArray⟩,.string ⟨(Lib.itoa (l:Int)).toArray⟩].toArray 47))
   go_wp2
   generalize hg8:wr.heap.size=g8 at *
   go_loopw [6,26] (fun o i wr2=>∃ j:Nat,j≤K.length∧i=.int .i64 j∧Q w wr2∧Blk wr2 g8 [.string ⟨(ze x).toArray⟩,.string ⟨(Lib.itoa (l:Int)).toArray⟩] 47∧o.ownBlock≠some g8∧wr2.ownsRow w.heap.size 47 2 o (M0++(K.take j).map (zpz (x,l))).length (zca ((M0++(K.take j).map (zpz (x,l))).map ofT))) (fun _ i _=>K.length - (intOf i).toNat)
   case atStart=>exact⟨0,by omega,rfl,Q.trans hQ hQa,T8,fun h=>by have:=(HR.out.lt _ h).2;omega,by rw[List.take_zero,List.map_nil,List.append_nil];exact HR0.out⟩
   case round =>
    clear c0 c1
    obtain⟨j,hj,rfl,hQ3,t8,hne8,hrow⟩:=hrel
    by_cases hlj:j<K.length
    ·obtain⟨b2,o2,ha,hb2,d0,d1⟩:=hc2 j hlj
     subst ha
     have f0:=(hQ3.cell (p:=⟨b2,o2+j*2,none⟩) hb2).trans d0
     have f1:=(hQ3.cell (p:=⟨b2,o2+j*2+1,none⟩) hb2).trans d1
     have hget:(K.map ofC).getD j ([],[])=ofC K[j]:=by rw[List.getD_eq_getElem?_getD,List.getElem?_map,List.getElem?_eq_getElem hlj];rfl
     rw[hget]at f0 f1
     simp only[ofC]at f0 f1
     have hTM:Hid (M0++(K.take (j+1)).map (zpz (x,l))=(M0++(K.take j).map (zpz (x,l)))++[zpz (x,l) K[j]]):=LH (by rw[List.take_succ_eq_append_getElem hlj,List.map_append,List.append_assoc];rfl)
     have HTb:=LH (HTK.out K[j] (List.getElem_mem hlj))
     have HJ:Hid (j+1≤K.length):=LH hlj
     have hml2:(M0++(K.take j).map (zpz (x,l))).length≤300:=by rw[List.length_append,List.length_map,List.length_take];omega
     have lb2:b2<wr.heap.size:=Nat.lt_of_lt_of_le hb2 hQ3.size
     have HR:=LH hrow
     clear hget d0 d1 hrow
     generalize M0++(K.take j).map (zpz (x,l))=M1 at *
     generalize K[j]=A2 at *
     obtain⟨y,m⟩:=A2
     simp only at f0 f1
     have hTR:Hid (zca ((M0++(K.take (j+1)).map (zpz (x,l))).map ofT)=zca (M1.map ofT)++[.string ⟨(ze (x*y)).toArray⟩,.string ⟨(ze ((l:Rat)*(m:Rat))).toArray⟩]∧(M0++(K.take (j+1)).map (zpz (x,l))).length=M1.length+1):=LH (by
      rw[hTM.out,List.map_append,zgs,List.length_append];exact⟨rfl,rfl⟩)
     have HM1:=LH (fun w hw=>zbk x y (zfg (n:=60) (by decide) HTa.out.c60) (zfg (n:=60) (by decide) HTb.out.c60) (by decide) w hw)
     have hm2:=fun w hw=>zbk (l:Rat) (m:Rat) HTa.out.c40 HTb.out.c40 (by decide) w hw
     rw[zba,zba]at hm2
     have HM2:=LH hm2
     have b0:=t8.cell 0
     have b1:=t8.cell 1
     have lt8:=t8.lt
     simp only[zs4,zs5]at b0 b1
     clear hm2 hTM
     generalize M1.length=n1 at *
     generalize zca (M1.map ofT)=rk at *
     generalize ze (x*y)=P at *
     generalize ze ((l:Rat)*(m:Rat))=R at *
     generalize ze x=sx at *
     generalize ze y=sy at *
     generalize Lib.itoa (l:Int)=sl at *
     generalize Lib.itoa (m:Int)=sm at *
     rcases ziT HR.out with⟨hv0,-⟩|⟨g9,gc9,hv9⟩
     ·subst hv0
      have hq0:=hQ3.alloc hQ3.size (Obj.cells [.string ⟨sy.toArray⟩,.string ⟨sm.toArray⟩].toArray 47)
      have T10:=Blk.new wr [.string ⟨sy.toArray⟩,.string ⟨sm.toArray⟩] 47
      go_wp2_with fail
      refine cx (HM1.out _ (hE.q hq0)) fun w3 hq3=>?_
      have hQ4:=Q.trans hq0 hq3
      have u8:=(t8.alloc (Obj.cells [.string ⟨sy.toArray⟩,.string ⟨sm.toArray⟩].toArray 47)).keep hq3 (by simp;omega)
      have u10:=T10.keep hq3 (by simp)
      have p0:=u8.cell 1
      have p1:=u10.cell 1
      simp only[zs4,zs5]at p0 p1
      have lu8:=u8.lt
      have lu10:=u10.lt
      clear f0 f1 b0 b1 T10
      go_wp2_with fail
      refine cx (HM2.out _ (hE.q hQ4)) fun w4 hq4=>?_
      have hQ5:=Q.trans hQ4 hq4
      have hown:=zn (zn (HR.out.alloc (Obj.cells [.string ⟨sy.toArray⟩,.string ⟨sm.toArray⟩].toArray 47)) hq3) hq4
      have hown2:=hown.alloc (Obj.cells [.string ⟨P.toArray⟩,.string ⟨R.toArray⟩].toArray 47)
      have hnew:=Blk.new w4 [.string ⟨P.toArray⟩,.string ⟨R.toArray⟩] 47
      have hsz3:w.heap.size≤w4.heap.size:=hQ5.size
      have U8:=(u8.keep hq4 u8.lt).alloc (Obj.cells [.string ⟨P.toArray⟩,.string ⟨R.toArray⟩].toArray 47)
      have hs84:g8<w4.heap.size:=(u8.keep hq4 u8.lt).lt
      clear p0 p1 HM1 HM2 hown u8 u10 hq0 hq3 hq4 t8
      go_wp2_with (at_builtin;refine wpList_append_lies _ (by rfl) (.tmp 52) (.tmp 56) 39 (by rfl) w.heap.size 47 i0 _ 2 32 Tryz.underlying39 HI.out HZ.out HS.out HBy.out rfl (by decide) (.slice none 0 0) n1 rk (by rfl) hown2 ⟨w4.heap.size,0,none⟩ 1 1 [.string ⟨P.toArray⟩,.string ⟨R.toArray⟩] (by rfl) (by rfl) (World.news_of_block (cs:=#[.string ⟨P.toArray⟩,.string ⟨R.toArray⟩]) (t:=47) (fr:=(0,0)) hnew) (by simp[Value.oneCell']) (by decide) (by unfold maxLen;omega) (by omega) (by simp;omega) (w4.heap.size+1) (by simp) ?_;intro g4 cap4 w5 hown4 hgrow4 hat4 hlt4)
      go_roundw
      case rel =>
       exact⟨j+1,HJ.out,by go_num,(hQ5.alloc hQ5.size _).grown hgrow4 (by have:=hQ5.size;simp at this ⊢;omega) (fun q hq=>(hown2.lt q hq).1),U8.grownM hgrow4 (by intro h;cases h),fun h=>by(have h0:g4=g8:=by simpa[Value.ownBlock]using h);rcases hat4 with h1 | h1;(· cases h1);(· omega),by rw[hTR.out.1,hTR.out.2];exact hown4⟩
      case measure=>simp[intOf];omega
     ·subst hv9
      have hq0:=hQ3.alloc hQ3.size (Obj.cells [.string ⟨sy.toArray⟩,.string ⟨sm.toArray⟩].toArray 47)
      have T10:=Blk.new wr [.string ⟨sy.toArray⟩,.string ⟨sm.toArray⟩] 47
      go_wp2_with fail
      refine cx (HM1.out _ (hE.q hq0)) fun w3 hq3=>?_
      have hQ4:=Q.trans hq0 hq3
      have u8:=(t8.alloc (Obj.cells [.string ⟨sy.toArray⟩,.string ⟨sm.toArray⟩].toArray 47)).keep hq3 (by simp;omega)
      have u10:=T10.keep hq3 (by simp)
      have p0:=u8.cell 1
      have p1:=u10.cell 1
      simp only[zs4,zs5]at p0 p1
      have lu8:=u8.lt
      have lu10:=u10.lt
      clear f0 f1 b0 b1 T10
      go_wp2_with fail
      refine cx (HM2.out _ (hE.q hQ4)) fun w4 hq4=>?_
      have hQ5:=Q.trans hQ4 hq4
      have hown:=zn (zn (HR.out.alloc (Obj.cells [.string ⟨sy.toArray⟩,.string ⟨sm.toArray⟩].toArray 47)) hq3) hq4
      have hown2:=hown.alloc (Obj.cells [.string ⟨P.toArray⟩,.string ⟨R.toArray⟩].toArray 47)
      have hnew:=Blk.new w4 [.string ⟨P.toArray⟩,.string ⟨R.toArray⟩] 47
      have hsz3:w.heap.size≤w4.heap.size:=hQ5.size
      have U8:=(u8.keep hq4 u8.lt).alloc (Obj.cells [.string ⟨P.toArray⟩,.string ⟨R.toArray⟩].toArray 47)
      have hs84:g8<w4.heap.size:=(u8.keep hq4 u8.lt).lt
      clear p0 p1 HM1 HM2 hown u8 u10 hq0 hq3 hq4 t8
      go_wp2_with (at_builtin;refine wpList_append_lies _ (by rfl) (.tmp 52) (.tmp 56) 39 (by rfl) w.heap.size 47 i0 _ 2 32 Tryz.underlying39 HI.out HZ.out HS.out HBy.out rfl (by decide) (.slice (some ⟨g9,0,none⟩) n1 gc9) n1 rk (by rfl) hown2 ⟨w4.heap.size,0,none⟩ 1 1 [.string ⟨P.toArray⟩,.string ⟨R.toArray⟩] (by rfl) (by rfl) (World.news_of_block (cs:=#[.string ⟨P.toArray⟩,.string ⟨R.toArray⟩]) (t:=47) (fr:=(0,0)) hnew) (by simp[Value.oneCell']) (by decide) (by unfold maxLen;omega) (by omega) (by simp;omega) (w4.heap.size+1) (by simp) ?_;intro g4 cap4 w5 hown4 hgrow4 hat4 hlt4)
      go_roundw
      case rel =>
       exact⟨j+1,HJ.out,by go_num,(hQ5.alloc hQ5.size _).grown hgrow4 (by have:=hQ5.size;simp at this ⊢;omega) (fun q hq=>(hown2.lt q hq).1),U8.grownM hgrow4 hne8,fun h=>by(have h0:g4=g8:=by simpa[Value.ownBlock]using h);rcases hat4 with h1 | h1;(· exact hne8 (by rw[h1,h0]));(· omega),by rw[hTR.out.1,hTR.out.2];exact hown4⟩
      case measure=>simp[intOf];omega
    ·obtain rfl:j=K.length:=by omega
     rw[List.take_length]at hrow
     have HRW:=LH hrow
     clear hrow
     go_wp2
     go_roundw
     case rel=>exact⟨k+1,HK.out,by go_num,hQ3,by rw[hTS.out];exact HRW.out⟩
     case measure=>simp[intOf];omega
  ·obtain rfl:k=L.length:=by omega
   rw[List.take_length]at hrow
   obtain⟨oa,oc,ho⟩:=zgo hrow
   have hts:TSl wr wr.heap.size _ ((zg9 L K).map ofT):=TSl.of_row (by rw[List.length_map];exact hrow)
   subst ho
   have HTS:=LH hts
   clear hts hrow
   generalize (zg9 L K).length=n0 at *
   go_wp2_with fail
   refine(HMK.out _ _ (hE.q hQ) HTS.out).mono ?_
   rintro e w4⟨hq4,hn,hs⟩
   have hQ4:=Q.trans hQ hq4
   by_cases hm:mk=none
   ·obtain rfl:=hn hm
    have HM:=LH hm
    clear hm hn hs
    go_wp2
    go_ret2
    exact⟨hQ4,fun _=>rfl,fun C h=>by rw[HM.out]at h;cases h⟩
   ·obtain⟨C,hm⟩:=Option.ne_none_iff_exists'.1 hm
    obtain⟨v5,rfl,hr5⟩:=hs C hm
    have HR5:=LH hr5
    have HM:=LH hm
    clear hm hn hs hr5
    go_wp2
    go_ret2
    refine⟨hQ4,fun h=>(by rw[HM.out]at h;cases h),fun C' h=>?_⟩
    rw[HM.out]at h
    cases h
    exact⟨_,rfl,by have:=Joins.ownsRow_le HR5.out hQ.size;rw[List.length_map]at this;exact this⟩
end
section
open Go.RowKit Kp
theorem zfH:∀ (n:Nat) (M:List (Rat × Rat)),M.length=n→(∀ t∈M,t.1≠0∧t.2≠0)→∀ cs,zd5 M=some cs→cs=zm2 [] (M.map fun t=>(t.1*aOf t.2,leftOf t.2))
 | 0,M,hn,_,cs,h=>by
  obtain rfl:=List.length_eq_zero_iff.1 hn
  cases h
  rfl
 | n+1,M,hn,hM,cs,h=>by
  obtain⟨l,t,rfl⟩:∃ l t,M=l++[t]:=⟨M.dropLast,M.getLast (fun e=>by rw[e]at hn;cases hn),(List.dropLast_concat_getLast _).symm⟩
  rw[zeH]at h
  cases hv:zd5 l with
  | none=>rw[hv]at h;cases h
  | some c0 =>
   rw[hv]at h
   have ih:=zfH n l (by simpa using hn) (fun x hx=>hM x (List.mem_append_left _ hx)) c0 hv
   obtain⟨h1,h2⟩:=hM t (by simp)
   obtain⟨c,r⟩:=t
   have hs:=zlS h1 h2 h
   subst ih
   rw[hs,List.map_append]
   unfold zm2
   rw[List.foldl_append]
   rfl
theorem zhV{M:List (Rat × Rat)}(hM:∀ t∈M,t.1≠0∧t.2≠0){C:List (Rat × Nat)}(h:zaX M=some C):C=zex (zm2 [] (M.map fun t=>(t.1*aOf t.2,leftOf t.2))):=by
 unfold zaX at h
 cases hv:zd5 M with
 | none=>rw[hv]at h;cases h
 | some cs =>
  rw[hv]at h
  simp only[Option.bind_some]at h
  split at h
  ·rw[← Option.some.inj h,zfH _ M rfl hM cs hv]
  ·cases h
theorem zom{c s:Rat}(hc:c≠0)(hs:0<s){C:List (Rat × Nat)}(h:zaX [(c,s)]=some C):zgj C=[(c*aOf s,leftOf s)]∧FA (zgj C)∧∀ c'∈zgj C,zbq c'=true:=by
 have hp:=npos hs
 have hX:c*aOf s≠0:=fun e=>by
  rcases Rat.mul_eq_zero.1 e with e | e
  ·exact hc e
  ·exact zaa (zjR hp) e
 have hC:=zhV (M:=[(c,s)]) (fun t ht=>by rw[List.mem_singleton]at ht;subst ht;exact⟨hc,zaa hs⟩) h
 have hg:zm2 [] ([(c,s)].map fun t=>(t.1*aOf t.2,leftOf t.2))=[(c*aOf s,leftOf s)]:=rfl
 rw[hg,znx hX]at hC
 refine⟨by rw[hC];rfl,?_,fun c' hc'=>zjl h c' (zot hc')⟩
 rw[hC]
 exact .inl ⟨_,_,rfl,hX,zfp hp⟩
theorem zt1{c1 c2 s1 s2 t:Rat}(h1:0<c1)(h2:0<c2)(p1:0<s1)(p2:0<s2)(ht:0<t)(h:s1*s2=t*t):(∀ cs,zd5 (zg9 [(c1*aOf s1,leftOf s1)] [(c2*aOf s2,leftOf s2)])=some cs→cs.length≤2)∧∀ C,zaX (zg9 [(c1*aOf s1,leftOf s1)] [(c2*aOf s2,leftOf s2)])=some C→zgj C=[(c1*c2*t,1)]:=by
 have a1:=zjR (npos p1)
 have a2:=zjR (npos p2)
 have e1:=zg7 (npos p1)
 have e2:=zg7 (npos p2)
 have n1:(0:Rat)<(leftOf s1:Rat):=Rat.natCast_pos.2 (zfp (npos p1)).1
 have n2:(0:Rat)<(leftOf s2:Rat):=Rat.natCast_pos.2 (zfp (npos p2)).1
 have e:zg9 [(c1*aOf s1,leftOf s1)] [(c2*aOf s2,leftOf s2)]=[(c1*aOf s1*(c2*aOf s2),(leftOf s1:Rat)*(leftOf s2:Rat))]:=rfl
 rw[e]
 generalize aOf s1=x at *
 generalize aOf s2=y at *
 generalize (leftOf s1:Rat)=m at *
 generalize (leftOf s2:Rat)=n at *
 have hx:=zaa a1
 have hy:=zaa a2
 have hr:0<t / (x*y):=zbV ht (Rat.mul_pos a1 a2)
 have hs:m*n=t / (x*y)*(t / (x*y)):=by
  have h3:x*x*m*(y*y*n)=t*t:=by rw[e1,e2,h]
  grind
 obtain⟨q1,q2⟩:=zkP hr
 have hM:∀ u∈[(c1*x*(c2*y),m*n)],u.1≠0∧u.2≠0:=fun u hu=>by
  rw[List.mem_singleton]at hu
  subst hu
  exact⟨zaa (Rat.mul_pos (Rat.mul_pos h1 a1) (Rat.mul_pos h2 a2)),zaa (Rat.mul_pos n1 n2)⟩
 have hg:zm2 [] ([(c1*x*(c2*y),m*n)].map fun u=>(u.1*aOf u.2,leftOf u.2))=[(c1*c2*t,1)]:=by
  show [(c1*x*(c2*y)*aOf (m*n),leftOf (m*n))]=_
  rw[hs,q1,q2]
  congr 2
  grind
 refine⟨fun cs hc=>?_,fun C hC=>?_⟩
 ·rw[zfH _ _ rfl hM cs hc,hg];simp
 ·rw[zhV hM hC,hg,znx (zaa (Rat.mul_pos (Rat.mul_pos h1 h2) ht))];rfl
def zuo(T:List (Rat × Rat)):Int:=if zaX T=none then 4 else 0
def MkE(W:World)(E:Int)(L:List (Rat × Nat))(e:Ending)(w':World):Prop:=∃ v,e=.returned (.tuple #[v,.int .i64 E])∧Q W w'∧(E≠0→v=.slice none 0 0)∧(E=0→zH w' W.heap.size v L)
theorem MkP.e{W:World}{T:List (Rat × Rat)}{L:List (Rat × Nat)}(hL:∀ C,zaX T=some C→zgj C=L){e:Ending}{w':World}(h:MkP W T e w'):MkE W (zuo T) L e w':=by
 obtain⟨v,E,rfl,hq,h | ⟨rfl,C,h1,h2⟩⟩:=h
 ·obtain⟨h1,rfl,rfl⟩:=h
  have e:zuo T=4:=by unfold zuo;rw[if_pos h1]
  rw[e]
  exact⟨_,rfl,hq,fun _=>rfl,fun h=>absurd h (by decide)⟩
 ·have e:zuo T=0:=by unfold zuo;rw[if_neg (by rw[h1];simp)]
  rw[e]
  refine⟨v,rfl,hq,fun h=>absurd rfl h,fun _=>?_⟩
  rw[hL C h1]at h2
  exact h2
end
end Go.Proofs.YthdpnkkddhcacaaGreatDoor
