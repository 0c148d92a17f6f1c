/-
  Walks of package joint: what is known of a rafter at an eaves of a plan.; Walks of package joint: Birdsmouth, Deepest, of whatever rafter at an eaves.
-/
import Derived.Test.YtbpghkdadajomaaGreatDoorG17
set_option maxRecDepth 100000
set_option maxHeartbeats 8000000
namespace Go.Proofs.YtbpghkdadajomaaGreatDoor
section
open Go.RowKit Go.Shelf Kp
attribute [local go_sem] Oper.semAt_some
def zlR(x:Raf):List Value:=[.int .i64 x.dep,.string ⟨(ze x.pitch).toArray⟩,.string ⟨(ze x.run).toArray⟩,.string ⟨(ze (x.over:Rat)).toArray⟩]
theorem zfx{w w':World}{b:Nat}{cs:List Value}{t:TypeId}(h:Blk w b cs t)(hq:Q w w'):Blk w' b cs t:=h.keep hq h.lt
theorem zfj{w w':World}{a:Addr}{v:Value}(h:w.cell? a=some v)(hq:Q w w'):w'.cell? a=some v:=za hq h
theorem zpR(f:Fr):(frC f).length=5:=rfl
theorem zel{W:World}{b:Nat}{x y z u v:Value}(h:Blk W b [x,y,z,u] 86)(fn:Func)(hf:fn.results=#[.cell 4 86,.tmp 5])(tmps:Array Value)
  (hp:tmps.getD 4 undef=.pointer (some ⟨b,0,none⟩))(hp5:tmps.getD 5 undef=v) :
  (results fn tmps).run Tryz.prog W=.ok (.tuple #[.agg #[x,y,z,u],v]) W:=by
 have c0:=h.cell 0
 have c1:=h.cell 1
 have c2:=h.cell 2
 have c3:=h.cell 3
 simp only[zs4,zs5]at c0 c1 c2 c3
 simp only[Array.getD_eq_getD_getElem?]at hp hp5
 simp[results,hf,hp,hp5,go_sem,c0,c1,c2,c3]
theorem zlr{f:Fr}(h:FrOk f){x y:Rat}(hx:Bd 30 x)(hy:Bd 30 y):Bd 37 (zjO f x y):=by
 have hd1:f.dir.natAbs<10 ^ 1:=by rcases h.d with e | e <;> rw[e] <;> decide
 have hc1:f.coord.natAbs<10 ^ 5:=by have:=h.c0;have:=h.c1;omega
 have bd:=zdO hd1 (by decide)
 have bc:=zdO hc1 (by decide)
 have bz:Bd 30 (if f.up then x else y):=by split <;> assumption
 unfold zjO
 exact(bd.mul (bz.less bc)).mono (by decide)
structure RafPre (R:List (List Sd)) (m:Mb) (n:Nat):Prop where
 hip:zoN m=0
 face:m.face=(n:Int)
 lt:n<R.flatten.length
 gable:(zbX R.flatten n).gable=false
def ofE(R:List (List Sd))(m:Mb):Int:=if zmx R m≠0∨zdW R m≤((zil R m).over:Rat)then 20 else 0
def zr6:List Value:=[.int .i64 0,.string ⟨#[]⟩,.string ⟨#[]⟩,.string ⟨#[]⟩]
def ofV(R:List (List Sd))(m:Mb):List Value:=if ofE R m=0 then zlR (zaz R m)else zr6
theorem zpq{R:List (List Sd)}{m:Mb}:(ze (zmx R m)=[48]∧zis (zdW R m) ((zil R m).over:Rat)=1∧ofE R m=0) ∨
  (ze (zmx R m)=[48]∧(zis (zdW R m) ((zil R m).over:Rat)=0∨zis (zdW R m) ((zil R m).over:Rat) = -1)∧ofE R m=20) ∨
  ((ze (zmx R m) == [48])=false∧ofE R m=20):=by
 unfold ofE
 rcases Classical.em (zmx R m=0)with h | h
 ·rw[h,zah]
  rcases Classical.em (zdW R m≤((zil R m).over:Rat))with k | k
  ·refine .inr (.inl ⟨rfl,?_,if_pos (.inr k)⟩)
   rcases Classical.em (zdW R m<((zil R m).over:Rat))with l | l
   ·exact .inr (zkX l)
   ·rw[Rat.le_antisymm k (Rat.not_lt.1 l),zkZ]
    exact .inl rfl
  ·exact .inl ⟨rfl,zkY (Rat.not_le.1 k),if_neg (fun e=>e.elim (fun e=>e rfl) k)⟩
 ·refine .inr (.inr ⟨?_,if_pos (.inl h)⟩)
  rw[beq_eq_false_iff_ne]
  exact fun e=>h (zaJ (by rw[e,zah]))
theorem zlq{R:List (List Sd)}{m:Mb}{n:Nat}(hf:m.face=(n:Int)):zil R m=zbX R.flatten n:=by
 unfold zil zbX
 rw[hf]
 simp
theorem zle(R:List (List Sd))(h:zcp R=0)(hR:R.length≤1000)(m:Mb)(hs:m.short)(n:Nat)(hm:RafPre R m n)(hk:m.kind≤5)(v:Value)(p1 p2 p3:Option Addr)(l1 l2 l3 k1 k2 k3:Nat)(w:World)(hE:Env w)(hv:zfk w v R) :
  Calls Tryz.prog 31 #[.agg #[v,.slice p1 l1 k1,.slice p2 l2 k2,.slice p3 l3 k3],.agg (mbC m).toArray] w fun e w'=>e=.returned (.tuple #[.agg (ofV R m).toArray,.int .i64 (ofE R m)])∧Q w w':=by
 have ok:=zfo h
 have okm:=zlm hm.hip
 have hnl:=hm.lt
 have hrg:=ok.rg _ (zio hnl)
 have HS1:Hid (∀ W,Q w W→Calls Tryz.prog 25 #[.agg #[v]] W fun e w'=>∃ v',e=.returned (.tuple #[v',.int .i64 0])∧Q W w'∧zbZ 7 sdC w' v' R.flatten):=LH (fun W hq=>zhr R h hR v W (hv.keep hq))
 have HA:Hid (∀ W,Env W→Q w W→Calls Tryz.prog 26 #[.agg #[v]] W fun e w'=>∃ v',e=.returned (.tuple #[v',.int .i64 0])∧w'.ownsRow W.heap.size 76 5 v' R.flatten.length (rowOf frC (zaS R))∧Q W w'):=LH (fun W hW hq=>zmo R h hR v W hW (hv.keep hq))
 have HH:Hid (∀ w,Env w→Calls Tryz.prog 24 #[.agg (mbC m).toArray] w fun e w'=>e=.returned (.int .i64 0)∧Q w w'):=LH (fun w hw=>by have:=zeu m hs w hw;rw[hm.hip]at this;exact this)
 have hFl:n<(zaS R).length:=by rw[zew];exact hnl
 obtain⟨F,hF⟩:∃ F,(zaS R)[n]=F:=⟨_,rfl⟩
 have hFF:znd R m=F:=by
  unfold znd
  rw[hm.face,← hF,List.getD_eq_getElem?_getD]
  simp[hFl]
 have okF:FrOk F:=by rw[← hF];exact zhJ ok.rg _ (List.getElem_mem hFl)
 have bf:=okm.bf hs
 have bt:=okm.bt hs
 have HD1:=LH (fun w hw=>zcQ F okF m.pf.x m.pf.y bf.1 bf.2.1 w hw)
 have HD2:=LH (fun w hw=>zcQ F okF m.pt.x m.pt.y bt.1 bt.2.1 w hw)
 have bh:=zlr okF bt.1 bt.2.1
 have hlo:zmx R m=zjO F m.pf.x m.pf.y:=by unfold zmx;rw[hFF]
 have hhi:zdW R m=zjO F m.pt.x m.pt.y:=by unfold zdW;rw[hFF]
 rw[← hlo,okm.strf.1,okm.strf.2.1]at HD1
 rw[← hhi,okm.strt.1,okm.strt.2.1]at HD2
 rw[← hhi]at bh
 have hov:(zbX R.flatten n).over.natAbs<10 ^ 5:=by have:=hrg.o0;have:=hrg.o1;omega
 have HW:=LH (fun w hw=>zdv (zbX R.flatten n).over (by omega) w hw)
 have HO:=LH (fun w hw=>zcD (zdW R m) ((zbX R.flatten n).over:Rat) bh (zdO hov (by decide)) (by decide) w hw)
 have hrn:=hrg.n hm.gable
 obtain⟨u,hu⟩:=Int.eq_ofNat_of_zero_le (show 0≤(zbX R.flatten n).run by omega)
 have HP:=LH (fun w hw=>zal (zbX R.flatten n).rise u (by omega) (by omega) (by omega) w hw)
 have hraf:zlR (zaz R m)=[.int .i64 m.dep,.string ⟨(ze (Rat.divInt (zbX R.flatten n).rise (u:Nat))).toArray⟩,.string ⟨(ze (zdW R m)).toArray⟩,.string ⟨(ze ((zbX R.flatten n).over:Rat)).toArray⟩]:=by
  unfold zlR zaz
  rw[zlq hm.face,hu]
 have hcs:=zpq (R:=R) (m:=m)
 rw[zlq hm.face]at hcs
 unfold ofV zr6
 rw[hraf]
 have HCS:=LH hcs
 clear hcs
 generalize ofE R m=E at *
 generalize zis (zdW R m) ((zbX R.flatten n).over:Rat)=od at *
 generalize ze (zmx R m)=LO at *
 have hg:=hm.gable
 have hfc:=hm.face
 have hln:(n:Int)<R.flatten.length:=by omega
 have hrl:0<R.flatten.length:=by omega
 have h24:=ok.le
 rw[← count_flatten]at h24
 have HF:Hid (∀ (W:World) (v':Value) (B:Nat),W.ownsRow B 76 5 v' R.flatten.length (rowOf frC (zaS R))→∃ g cap,v'=.slice (some ⟨g,0,none⟩) R.flatten.length cap∧∀ j u,j<5→(frC F)[j]? = some u→W.cell? ⟨g,n*5+j,none⟩=some u):=LH (fun W v' B how=>by
  obtain⟨g,cap,rfl⟩:=zhi how hrl
  refine⟨g,cap,rfl,fun j u hj hu=>?_⟩
  have:=how.cells rfl (n*5+j) u (by rw[zcR zpR _ n hFl j hj,hF];exact hu)
  rw[Addr.add_lit,Nat.zero_add]at this
  exact this)
 generalize ze (Rat.divInt (zbX R.flatten n).rise (u:Nat))=PI at *
 generalize ze (zdW R m)=HI at *
 generalize ze ((zbX R.flatten n).over:Rat)=OV at *
 obtain⟨a0,cap0,rfl,-⟩:=hv
 clear hraf hov hrg okF hFF hlo hhi bh bf bt okm hm hs hF ok h hFl hR
 generalize zaS R=FS at *
 generalize R.flatten=r at *
 generalize R.length=rn at *
 obtain⟨ki,fa,ot,fx,fy,fz,tx,ty,tz,wi,de⟩:=m
 simp only at hk hfc
 subst hfc
 unfold mbC at *
 unfold frC at HD1 HD2
 simp only at HH HD1 HD2 ⊢
 have hkz:decide ((5:Int)<ki)=false:=by rw[decide_eq_false_iff_not];omega
 have hnz:decide ((r.length:Int)≤(n:Int))=false:=by rw[decide_eq_false_iff_not];omega
 have hn0:(0:Int)≤n:=by omega
 have BR:=((Blk.new w [.slice a0 rn cap0,.slice p1 l1 k1,.slice p2 l2 k2,.slice p3 l3 k3] 29).alloc (.cells #[.int .i64 ki,.int .i64 n,.int .i64 ot,.string ⟨fx.toArray⟩,.string ⟨fy.toArray⟩,.string ⟨fz.toArray⟩,.string ⟨tx.toArray⟩,.string ⟨ty.toArray⟩,.string ⟨tz.toArray⟩,.int .i64 wi,.int .i64 de] 34)).alloc (.cells #[.int .i64 0,.string ⟨#[]⟩,.string ⟨#[]⟩,.string ⟨#[]⟩] 86)
 have BM:=(Blk.new1 w (.cells #[.slice a0 rn cap0,.slice p1 l1 k1,.slice p2 l2 k2,.slice p3 l3 k3] 29) [.int .i64 ki,.int .i64 n,.int .i64 ot,.string ⟨fx.toArray⟩,.string ⟨fy.toArray⟩,.string ⟨fz.toArray⟩,.string ⟨tx.toArray⟩,.string ⟨ty.toArray⟩,.string ⟨tz.toArray⟩,.int .i64 wi,.int .i64 de] 34).alloc (.cells #[.int .i64 0,.string ⟨#[]⟩,.string ⟨#[]⟩,.string ⟨#[]⟩] 86)
 have BZ:=Blk.new2 w (.cells #[.slice a0 rn cap0,.slice p1 l1 k1,.slice p2 l2 k2,.slice p3 l3 k3] 29) (.cells #[.int .i64 ki,.int .i64 n,.int .i64 ot,.string ⟨fx.toArray⟩,.string ⟨fy.toArray⟩,.string ⟨fz.toArray⟩,.string ⟨tx.toArray⟩,.string ⟨ty.toArray⟩,.string ⟨tz.toArray⟩,.int .i64 wi,.int .i64 de] 34) [.int .i64 0,.string ⟨#[]⟩,.string ⟨#[]⟩,.string ⟨#[]⟩] 86
 obtain⟨W0,hW0⟩:∃ W0,((w.alloc (.cells #[.slice a0 rn cap0,.slice p1 l1 k1,.slice p2 l2 k2,.slice p3 l3 k3] 29)).alloc (.cells #[.int .i64 ki,.int .i64 n,.int .i64 ot,.string ⟨fx.toArray⟩,.string ⟨fy.toArray⟩,.string ⟨fz.toArray⟩,.string ⟨tx.toArray⟩,.string ⟨ty.toArray⟩,.string ⟨tz.toArray⟩,.int .i64 wi,.int .i64 de] 34)).alloc (.cells #[.int .i64 0,.string ⟨#[]⟩,.string ⟨#[]⟩,.string ⟨#[]⟩] 86)=W0:=⟨_,rfl⟩
 have hq0:Q w W0:=by rw[← hW0];exact bt
 have hs0:W0.heap.size=w.heap.size+3:=by rw[← hW0];simp
 have hEw:=hE.ofQ hq0
 rw[hW0]at BR BM
 have BZ:Blk W0 (w.heap.size+2) [.int .i64 0,.string ⟨#[]⟩,.string ⟨#[]⟩,.string ⟨#[]⟩] 86:=by rw[← hW0];exact BZ
 clear hE
 have hE:=hEw
 clear hEw
 have hQ0:=Q.refl W0
 replace r0:=BR.cell 0
 simp only[List.getElem?_cons_zero]at r0
 replace lBR:=BR.lt
 replace m0:=BM.cell 0
 replace m1:=BM.cell 1
 replace m2:=BM.cell 2
 replace m3:=BM.cell 3
 replace m4:=BM.cell 4
 replace m5:=BM.cell 5
 replace m6:=BM.cell 6
 replace m7:=BM.cell 7
 replace m8:=BM.cell 8
 replace m9:=BM.cell 9
 replace m10:=BM.cell 10
 simp only[zs4,zs5]at m0 m1 m2 m3 m4 m5 m6 m7 m8 m9 m10
 replace lBM:=BM.lt
 go_enter Tryz.func31,Tryz.ntmps31
 go_wp2_with fail
 clear hW0
 go_wp2_with fail
 refine(HS1.out _ hq0).mono ?_
 rintro e Y1⟨vs,rfl,hq1,hrow⟩
 have hs1:Q W0 Y1:=Q.trans bt hq1
 have hQ1:Q W0 Y1:=Q.trans hQ0 hs1
 replace BZ:=zfx BZ hs1
 replace BR:=BR.keep hs1 BR.lt
 replace r0:=BR.cell 0
 simp only[List.getElem?_cons_zero]at r0
 replace lBR:=BR.lt
 replace BM:=BM.keep hs1 BM.lt
 replace m0:=BM.cell 0
 replace m1:=BM.cell 1
 replace m2:=BM.cell 2
 replace m3:=BM.cell 3
 replace m4:=BM.cell 4
 replace m5:=BM.cell 5
 replace m6:=BM.cell 6
 replace m7:=BM.cell 7
 replace m8:=BM.cell 8
 replace m9:=BM.cell 9
 replace m10:=BM.cell 10
 simp only[zs4,zs5]at m0 m1 m2 m3 m4 m5 m6 m7 m8 m9 m10
 replace lBM:=BM.lt
 obtain⟨a,cap,rfl,-⟩:=id hrow
 obtain⟨-,hrw,-⟩:=zbZ.at hrow
 obtain⟨b,o,rfl,hd⟩:=hrw n hnl
 clear hrw hrow HS1
 generalize zbX r n=s at *
 obtain⟨sx,sy,sr,su,sg,sp,so⟩:=s
 simp only at hg hu HW HO HP hrn
 subst hg hu
 have d0:Y1.cell? ⟨b,o+n*7,none⟩=some (.int .i64 sx):=hd 0 _ rfl
 have d1:Y1.cell? ⟨b,o+n*7+1,none⟩=some (.int .i64 sy):=hd 1 _ rfl
 have d2:Y1.cell? ⟨b,o+n*7+2,none⟩=some (.int .i64 sr):=hd 2 _ rfl
 have d3:Y1.cell? ⟨b,o+n*7+3,none⟩=some (.int .i64 (u:Nat)):=hd 3 _ rfl
 have d4:Y1.cell? ⟨b,o+n*7+4,none⟩=some (.bool false):=hd 4 _ rfl
 have d5:Y1.cell? ⟨b,o+n*7+5,none⟩=some (.int .i64 sp):=hd 5 _ rfl
 have d6:Y1.cell? ⟨b,o+n*7+6,none⟩=some (.int .i64 so):=hd 6 _ rfl
 clear hd
 go_wp2_with fail
 refine(HH.out _ (hE.ofQ bt)).mono ?_
 rintro e Y2⟨rfl,hq2⟩
 have hs2:Q Y1 Y2:=Q.trans bt hq2
 have hQ2:Q W0 Y2:=Q.trans hQ1 hs2
 replace BZ:=zfx BZ hs2
 replace d0:=zfj d0 hs2
 replace d1:=zfj d1 hs2
 replace d2:=zfj d2 hs2
 replace d3:=zfj d3 hs2
 replace d4:=zfj d4 hs2
 replace d5:=zfj d5 hs2
 replace d6:=zfj d6 hs2
 replace BR:=BR.keep hs2 BR.lt
 replace r0:=BR.cell 0
 simp only[List.getElem?_cons_zero]at r0
 replace lBR:=BR.lt
 replace BM:=BM.keep hs2 BM.lt
 replace m0:=BM.cell 0
 replace m1:=BM.cell 1
 replace m2:=BM.cell 2
 replace m3:=BM.cell 3
 replace m4:=BM.cell 4
 replace m5:=BM.cell 5
 replace m6:=BM.cell 6
 replace m7:=BM.cell 7
 replace m8:=BM.cell 8
 replace m9:=BM.cell 9
 replace m10:=BM.cell 10
 simp only[zs4,zs5]at m0 m1 m2 m3 m4 m5 m6 m7 m8 m9 m10
 replace lBM:=BM.lt
 obtain⟨W2,hW2⟩:∃ W2,Y2.alloc (.cells #[.int .i64 sx,.int .i64 sy,.int .i64 sr,.int .i64 (u:Nat),.bool false,.int .i64 sp,.int .i64 so] 36)=W2:=⟨_,rfl⟩
 have S:=Blk.new Y2 [.int .i64 sx,.int .i64 sy,.int .i64 sr,.int .i64 (u:Nat),.bool false,.int .i64 sp,.int .i64 so] 36
 have S:Blk W2 Y2.heap.size [.int .i64 sx,.int .i64 sy,.int .i64 sr,.int .i64 (u:Nat),.bool false,.int .i64 sp,.int .i64 so] 36:=by rw[← hW2];exact S
 have hqW:Q Y2 W2:=by rw[← hW2];exact bt
 have hE2:=hE.ofQ (Q.trans hQ2 hqW)
 have hQW:Q W0 W2:=Q.trans hQ2 hqW
 have hwW:Q w W2:=Q.trans hq0 hQW
 have rr0:=r0
 have mm0:=m0
 have mm1:=m1
 replace BR:=BR.keep hqW BR.lt
 replace BM:=BM.keep hqW BM.lt
 replace BZ:=zfx BZ hqW
 clear hE
 have hE:=hE2
 clear hE2 HH
 have hQ0:=Q.refl W2
 replace r0:=BR.cell 0
 simp only[List.getElem?_cons_zero]at r0
 replace lBR:=BR.lt
 replace m0:=BM.cell 0
 replace m1:=BM.cell 1
 replace m2:=BM.cell 2
 replace m3:=BM.cell 3
 replace m4:=BM.cell 4
 replace m5:=BM.cell 5
 replace m6:=BM.cell 6
 replace m7:=BM.cell 7
 replace m8:=BM.cell 8
 replace m9:=BM.cell 9
 replace m10:=BM.cell 10
 simp only[zs4,zs5]at m0 m1 m2 m3 m4 m5 m6 m7 m8 m9 m10
 replace lBM:=BM.lt
 replace s0:=S.cell 0
 replace s1:=S.cell 1
 replace s2:=S.cell 2
 replace s3:=S.cell 3
 replace s4:=S.cell 4
 replace s5:=S.cell 5
 replace s6:=S.cell 6
 simp only[zs4,zs5]at s0 s1 s2 s3 s4 s5 s6
 replace lS:=S.lt
 go_wp2_with fail
 refine(HA.out _ hE hwW).mono ?_
 rintro e Z1⟨vf,rfl,hown,hq1⟩
 have hs1:Q W2 Z1:=Q.trans bt hq1
 have hQ1:Q W2 Z1:=Q.trans hQ0 hs1
 replace BZ:=zfx BZ hs1
 replace BR:=BR.keep hs1 BR.lt
 replace r0:=BR.cell 0
 simp only[List.getElem?_cons_zero]at r0
 replace lBR:=BR.lt
 replace BM:=BM.keep hs1 BM.lt
 replace m0:=BM.cell 0
 replace m1:=BM.cell 1
 replace m2:=BM.cell 2
 replace m3:=BM.cell 3
 replace m4:=BM.cell 4
 replace m5:=BM.cell 5
 replace m6:=BM.cell 6
 replace m7:=BM.cell 7
 replace m8:=BM.cell 8
 replace m9:=BM.cell 9
 replace m10:=BM.cell 10
 simp only[zs4,zs5]at m0 m1 m2 m3 m4 m5 m6 m7 m8 m9 m10
 replace lBM:=BM.lt
 replace S:=S.keep hs1 S.lt
 replace s0:=S.cell 0
 replace s1:=S.cell 1
 replace s2:=S.cell 2
 replace s3:=S.cell 3
 replace s4:=S.cell 4
 replace s5:=S.cell 5
 replace s6:=S.cell 6
 simp only[zs4,zs5]at s0 s1 s2 s3 s4 s5 s6
 replace lS:=S.lt
 clear hW2 d0 d1 d2 d3 d4 d5 d6 rr0 mm0 mm1 HA
 obtain⟨g,cp,rfl,hf⟩:=HF.out _ _ _ hown
 have f0:=hf 0 _ (by decide) rfl
 have f1:=hf 1 _ (by decide) rfl
 have f2:=hf 2 _ (by decide) rfl
 have f3:=hf 3 _ (by decide) rfl
 have f4:=hf 4 _ (by decide) rfl
 rw[Nat.add_zero]at f0
 clear hf hown HF
 have hEd:Env Z1.drew:=hE.ofQ (Q.trans hQ1 (Below.drew (Q.refl Z1)))
 go_wp2_with fail
 refine zm 18 rfl (by kernel_rfl) rfl ?_
 refine svp 0 ?_
 refine svp 1 ?_
 refine svq 2 rfl (by intro w' hq;have hc0:=za hq m1;go_simp;try with_reducible rfl) ?_
 refine svp 3 ?_
 refine svq 4 rfl (by intro w' hq;have hc0:=za hq f0;have hc1:=za hq f1;have hc2:=za hq f2;have hc3:=za hq f3;have hc4:=za hq f4;go_simp;try with_reducible rfl) ?_
 refine svp 5 ?_
 refine svp 6 ?_
 refine svq 7 rfl (by intro w' hq;have hc0:=za hq m3;go_simp;try with_reducible rfl) ?_
 refine svp 8 ?_
 refine svp 9 ?_
 refine svq 10 rfl (by intro w' hq;have hc0:=za hq m4;go_simp;try with_reducible rfl) ?_
 refine svp 11 ?_
 refine zf (i:=12) (v:=_) rfl rfl (by kernel_rfl) (by kernel_rfl) (fun _ _ _ h=>h) (by rfl) ?_ (fun w' hq=>HD1.out w' (hEd.ofQ hq)) ?_
 ·(intro w' hq;go_simp;try with_reducible rfl)
 simp only[Act.put,zs1,zs2,zs3]
 refine svp 13 ?_
 refine svp 14 ?_
 refine svp 15 ?_
 refine svp 16 ?_
 refine svp 17 ?_
 refine zh (by kernel_rfl) (fun w3 hq3=>?_)
 simp only[List.drop_succ_cons,List.drop_nil]
 have hqa:Q Z1 w3:=Q.trans (Below.drew (Q.refl Z1)) hq3
 replace f0:=za hqa f0
 replace f1:=za hqa f1
 replace f2:=za hqa f2
 replace f3:=za hqa f3
 replace f4:=za hqa f4
 replace m1:=za hqa m1
 replace m6:=za hqa m6
 replace m7:=za hqa m7
 have hEe:Env w3.drew:=hE.ofQ (Q.trans hQ1 (Q.trans hqa (Below.drew (Q.refl w3))))
 clear hq3 HD1
 go_wp2_with fail
 refine zm 18 rfl (by kernel_rfl) rfl ?_
 refine svp 0 ?_
 refine svp 1 ?_
 refine svq 2 rfl (by intro w' hq;have hc0:=za hq m1;go_simp;try with_reducible rfl) ?_
 refine svp 3 ?_
 refine svq 4 rfl (by intro w' hq;have hc0:=za hq f0;have hc1:=za hq f1;have hc2:=za hq f2;have hc3:=za hq f3;have hc4:=za hq f4;go_simp;try with_reducible rfl) ?_
 refine svp 5 ?_
 refine svp 6 ?_
 refine svq 7 rfl (by intro w' hq;have hc0:=za hq m6;go_simp;try with_reducible rfl) ?_
 refine svp 8 ?_
 refine svp 9 ?_
 refine svq 10 rfl (by intro w' hq;have hc0:=za hq m7;go_simp;try with_reducible rfl) ?_
 refine svp 11 ?_
 refine zf (i:=12) (v:=_) rfl rfl (by kernel_rfl) (by kernel_rfl) (fun _ _ _ h=>h) (by rfl) ?_ (fun w' hq=>HD2.out w' (hEe.ofQ hq)) ?_
 ·(intro w' hq;go_simp;try with_reducible rfl)
 simp only[Act.put,zs1,zs2,zs3]
 refine svp 13 ?_
 refine svp 14 ?_
 refine svp 15 ?_
 refine svp 16 ?_
 refine svp 17 ?_
 refine zh (by kernel_rfl) (fun w5 hq5=>?_)
 simp only[List.drop_succ_cons,List.drop_nil]
 have hqb:Q Z1 w5:=Q.trans hqa (Q.trans (Below.drew (Q.refl w3)) hq5)
 have e10:=za hqb m10
 have e6:=za hqb s6
 have hEf:Env w5.drew:=hE.ofQ (Q.trans hQ1 (Q.trans hqb (Below.drew (Q.refl w5))))
 clear hq5 HD2 f0 f1 f2 f3 f4
 go_wp2_with fail
 refine zm 8 rfl (by kernel_rfl) rfl ?_
 refine svp 0 ?_
 refine svq 1 rfl (by intro w' hq;have hc0:=za hq e10;go_simp;try with_reducible rfl) ?_
 refine svp 2 ?_
 refine svp 3 ?_
 refine svq 4 rfl (by intro w' hq;have hc0:=za hq e6;go_simp;try with_reducible rfl) ?_
 refine zf (i:=5) (v:=_) rfl rfl (by kernel_rfl) (by kernel_rfl) (fun _ _ _ h=>h) (by rfl) ?_ (fun w' hq=>HW.out w' (hEf.ofQ hq)) ?_
 ·(intro w' hq;go_simp;try with_reducible rfl)
 simp only[Act.put,zs1,zs2,zs3]
 refine svp 6 ?_
 refine za9 (i:=7) (.cells #[.int .i64 0,.string ⟨#[]⟩,.string ⟨#[]⟩,.string ⟨#[]⟩] 86) rfl rfl (by kernel_rfl) (by rfl) ?_ (fun w6 hq6=>?_)
 ·intro w' hq
  go_simp;try with_reducible rfl
 simp only[Act.put,zs1,zs2,zs3]
 refine zh (by kernel_rfl) (fun w7 hq7=>?_)
 simp only[List.drop_succ_cons,List.drop_zero]
 have hqc:Q Z1 w7:=Q.trans hqb (Q.trans (Below.drew (Q.refl w5)) (Q.trans hq6 (Q.trans ((Below.refl _ w6).alloc (Nat.le_refl _) _) hq7)))
 have T:=(Blk.new w6 [.int .i64 0,.string ⟨#[]⟩,.string ⟨#[]⟩,.string ⟨#[]⟩] 86).keep hq7 (by simp)
 have t0:=T.cell 0
 have t1:=T.cell 1
 have t2:=T.cell 2
 have t3:=T.cell 3
 simp only[zs4,zs5]at t0 t1 t2 t3
 have g0:=T.frozen 0
 have g1:=T.frozen 1
 have g2:=T.frozen 2
 have g3:=T.frozen 3
 have hzt:Z1.heap.size≤w6.heap.size:=(Q.trans hqb (Q.trans (Below.drew (Q.refl w5)) hq6)).size
 have T2:=(((T.set 0 (.int .i64 de)).set 1 (.string ⟨#[]⟩)).set 2 (.string ⟨HI.toArray⟩)).set 3 (.string ⟨OV.toArray⟩)
 simp only[List.set_cons_zero,List.set_cons_succ]at T2
 have hqd:Q Z1 ((((w7.setCell ⟨w6.heap.size,0,none⟩ (.int .i64 de)).setCell ⟨w6.heap.size,1,none⟩ (.string ⟨#[]⟩)).setCell ⟨w6.heap.size,2,none⟩ (.string ⟨HI.toArray⟩)).setCell ⟨w6.heap.size,3,none⟩ (.string ⟨OV.toArray⟩)) :=
  (((hqc.setCell (p:=⟨w6.heap.size,0,none⟩) hzt _).setCell (p:=⟨w6.heap.size,1,none⟩) hzt _).setCell (p:=⟨w6.heap.size,2,none⟩) hzt _).setCell (p:=⟨w6.heap.size,3,none⟩) hzt _
 have v3:=T2.cell 3
 simp only[zs4,zs5]at v3
 clear hq6 hq7 hqc T HW hEf e10 e6 hqa hqb
 have hlz:=hQ1.size
 have hwz:=hwW.size
 have hne:w6.heap.size≠w.heap.size+2:=by have:=BZ.lt;omega
 generalize w6.heap.size=tb at *
 rcases HCS.out with⟨rfl,rfl,rfl⟩|⟨rfl,ho,rfl⟩|⟨hf,rfl⟩
 ·clear HCS
  go_wp2_with fail
  refine(HO.out _ (hE.ofQ (Q.trans hQ1 hqd))).mono ?_
  rintro e w8⟨rfl,hq8⟩
  have hqe:Q Z1 w8:=Q.trans hqd hq8
  have T8:=T2.keep hq8 T2.lt
  have a2:=za hqe s2
  have a3:=za hqe s3
  clear t0 t1 t2 t3 g0 g1 g2 g3 v3 T2 hqd HO
  go_wp2_with fail
  refine(HP.out _ (hE.ofQ (Q.trans hQ1 hqe))).mono ?_
  rintro e w9⟨rfl,hq9⟩
  have hqf:Q Z1 w9:=Q.trans hqe hq9
  have T9:=T8.keep hq9 T8.lt
  have t0:=T9.cell 0
  have t1:=T9.cell 1
  have t2:=T9.cell 2
  have t3:=T9.cell 3
  simp only[zs4,zs5]at t0 t1 t2 t3
  have g1:=T9.frozen 1
  replace BZ:=zfx BZ hqf
  have z0:=BZ.cell 0
  have z1:=BZ.cell 1
  have z2:=BZ.cell 2
  have z3:=BZ.cell 3
  simp only[zs4,zs5]at z0 z1 z2 z3
  have y0:=BZ.frozen 0
  have y1:=BZ.frozen 1
  have y2:=BZ.frozen 2
  have y3:=BZ.frozen 3
  have hbz:w.heap.size≤w.heap.size+2:=by omega
  have htz:w.heap.size≤tb:=by omega
  have hne2:w.heap.size+2≠tb:=Ne.symm hne
  have Zf:=((((BZ.setOther hne 1 (.string ⟨PI.toArray⟩)).set 0 (.int .i64 de)).set 1 (.string ⟨PI.toArray⟩)).set 2 (.string ⟨HI.toArray⟩)).set 3 (.string ⟨OV.toArray⟩)
  simp only[List.set_cons_zero,List.set_cons_succ]at Zf
  have hQe:=(((((Q.trans hwW (Q.trans hQ1 hqf)).setCell (p:=⟨tb,1,none⟩) htz (.string ⟨PI.toArray⟩)).setCell (p:=⟨w.heap.size+2,0,none⟩) hbz (.int .i64 de)).setCell (p:=⟨w.heap.size+2,1,none⟩) hbz (.string ⟨PI.toArray⟩)).setCell (p:=⟨w.heap.size+2,2,none⟩) hbz (.string ⟨HI.toArray⟩)).setCell (p:=⟨w.heap.size+2,3,none⟩) hbz (.string ⟨OV.toArray⟩)
  clear T8 T9 a2 a3 HP hq9 hq8
  have hbe:w.heap.size+1+1=w.heap.size+2:=rfl
  go_wp2_with (exact bodyPost_ret (zel Zf Tryz.f31 rfl _ rfl rfl) rfl ⟨rfl,hQe⟩)
 ·clear HCS HP
  have hbe:w.heap.size+1+1=w.heap.size+2:=rfl
  go_wp2_with fail
  refine(HO.out _ (hE.ofQ (Q.trans hQ1 hqd))).mono ?_
  rintro e w8⟨rfl,hq8⟩
  have hqe:Q Z1 w8:=Q.trans hqd hq8
  clear v3 T2 hqd HO t0 t1 t2 t3 g0 g1 g2 g3
  rcases ho with rfl | rfl
  all_goals
   replace BZ:=zfx BZ hqe
   have z0:=BZ.cell 0
   have z1:=BZ.cell 1
   have z2:=BZ.cell 2
   have z3:=BZ.cell 3
   simp only[zs4,zs5]at z0 z1 z2 z3
   have y0:=BZ.frozen 0
   have y1:=BZ.frozen 1
   have y2:=BZ.frozen 2
   have y3:=BZ.frozen 3
   have hbz:w.heap.size≤w.heap.size+2:=by omega
   have Zf:=(((BZ.set 0 (.int .i64 0)).set 1 (.string ⟨#[]⟩)).set 2 (.string ⟨#[]⟩)).set 3 (.string ⟨#[]⟩)
   simp only[List.set_cons_zero,List.set_cons_succ]at Zf
   have hQe:=((((Q.trans hwW (Q.trans hQ1 hqe)).setCell (p:=⟨w.heap.size+2,0,none⟩) hbz (.int .i64 0)).setCell (p:=⟨w.heap.size+2,1,none⟩) hbz (.string ⟨#[]⟩)).setCell (p:=⟨w.heap.size+2,2,none⟩) hbz (.string ⟨#[]⟩)).setCell (p:=⟨w.heap.size+2,3,none⟩) hbz (.string ⟨#[]⟩)
   have hbe:w.heap.size+1+1=w.heap.size+2:=rfl
   go_wp2_with (exact bodyPost_ret (zel Zf Tryz.f31 rfl _ rfl rfl) rfl ⟨rfl,hQe⟩)
 ·clear HCS HP HO
  have hf2:¬ LO=[48]:=by simpa using hf
  have hf3:(LO != [48])=true:=by rw[bne,hf];rfl
  replace BZ:=zfx BZ hqd
  have z0:=BZ.cell 0
  have z1:=BZ.cell 1
  have z2:=BZ.cell 2
  have z3:=BZ.cell 3
  simp only[zs4,zs5]at z0 z1 z2 z3
  have y0:=BZ.frozen 0
  have y1:=BZ.frozen 1
  have y2:=BZ.frozen 2
  have y3:=BZ.frozen 3
  have hbz:w.heap.size≤w.heap.size+2:=by omega
  have Zf:=(((BZ.set 0 (.int .i64 0)).set 1 (.string ⟨#[]⟩)).set 2 (.string ⟨#[]⟩)).set 3 (.string ⟨#[]⟩)
  simp only[List.set_cons_zero,List.set_cons_succ]at Zf
  have hQe:=((((Q.trans hwW (Q.trans hQ1 hqd)).setCell (p:=⟨w.heap.size+2,0,none⟩) hbz (.int .i64 0)).setCell (p:=⟨w.heap.size+2,1,none⟩) hbz (.string ⟨#[]⟩)).setCell (p:=⟨w.heap.size+2,2,none⟩) hbz (.string ⟨#[]⟩)).setCell (p:=⟨w.heap.size+2,3,none⟩) hbz (.string ⟨#[]⟩)
  have hbe:w.heap.size+1+1=w.heap.size+2:=rfl
  go_wp2_with (exact bodyPost_ret (zel Zf Tryz.f31 rfl _ rfl rfl) rfl ⟨rfl,hQe⟩)
end
section
open Go.RowKit Go.Shelf Kp
attribute [local go_sem] Oper.semAt_some
structure Sl3 where
 a:Option Addr
 n:Nat
 c:Nat
def Sl3.v(s:Sl3):Value:=.slice s.a s.n s.c
structure Ro where
 p:Sl3
 q:Sl3
 r:Sl3
 s:Sl3
def roC(x:Ro):List Value:=[x.p.v,x.q.v,x.r.v,x.s.v]
def OfC(w:World)(ro:Ro)(m:Mb)(x:Raf):Prop:=∀ W,Env W→Q w W→Calls Tryz.prog 31 #[.agg (roC ro).toArray,.agg (mbC m).toArray] W fun e w'=>e=.returned (.tuple #[.agg (zlR x).toArray,.int .i64 0])∧Q W w'
structure RafBd (x:Raf):Prop where
 d1:1≤x.dep
 d2:x.dep≤1000
 p:Bd 5 x.pitch
 p0:0<x.pitch.num
 r:Bd 37 x.run
 o:x.over.natAbs<10 ^ 5
theorem RafBd.ov{x:Raf}(h:RafBd x):Bd 5 (x.over:Rat):=zdO h.o (by decide)
theorem zcB(q:Rat):0<q ↔ 0<q.num:=by
 rw[Rat.lt_iff]
 simp
theorem zem{W:World}{b:Nat}{x y z v:Value}(h:Blk W b [x,y,z] 41)(fn:Func)(hf:fn.results=#[.cell 6 41,.tmp 7])(tmps:Array Value)
  (hp:tmps.getD 6 undef=.pointer (some ⟨b,0,none⟩))(hp5:tmps.getD 7 undef=v) :
  (results fn tmps).run Tryz.prog W=.ok (.tuple #[.agg #[x,y,z],v]) W:=by
 have c0:=h.cell 0
 have c1:=h.cell 1
 have c2:=h.cell 2
 simp only[zs4,zs5]at c0 c1 c2
 simp only[Array.getD_eq_getD_getElem?]at hp hp5
 simp[results,hf,hp,hp5,go_sem,c0,c1,c2]
theorem zeE(ro:Ro)(m:Mb)(x:Raf)(hx:RafBd x)(s:Int)(s1:1≤s)(s2:s≤1000)(hs:(s:Rat)≤x.run - x.over)(w:World)(hE:Env w)(hof:OfC w ro m x) :
  Calls Tryz.prog 7 #[.agg (roC ro).toArray,.agg (mbC m).toArray,.int .i64 s] w fun e w'=>e=.returned (.tuple #[.agg #[.string ⟨(ze (x.over:Rat)).toArray⟩,.string ⟨(ze (s:Rat)).toArray⟩,.string ⟨(ze ((s:Rat)*x.pitch)).toArray⟩],.int .i64 0])∧Q w w':=by
 have bs:Bd 4 (s:Rat):=zdO (by omega) (by decide)
 have bo:=hx.ov
 have HO:=LH hof
 have HW:=LH (fun w hw=>zdv s (by omega) w hw)
 have HR:=LH (fun w hw=>zfr x.dep (ze x.pitch) x.run (x.over:Rat) hx.r bo (by decide) w hw)
 have HD:=LH (fun w hw=>zcD (s:Rat) (x.run - x.over) bs (hx.r.less bo) (by decide) w hw)
 have HM:=LH (fun w hw=>zai (s:Rat) x.pitch bs hx.p (by decide) w hw)
 have hor:decide (0<zis (s:Rat) (x.run - x.over))=false:=by
  rw[decide_eq_false_iff_not]
  by_cases h:(s:Rat)<x.run - x.over
  ·rw[zkX h];decide
  ·rw[← Rat.le_antisymm hs (Rat.not_lt.1 h),zkZ];decide
 generalize zis (s:Rat) (x.run - x.over)=od at *
 clear bs bo hx hs hof
 unfold OfC roC Sl3.v mbC zlR at HO
 unfold roC Sl3.v mbC
 obtain⟨⟨a0,n0,c0⟩,⟨a1,n1,c1⟩,⟨a2,n2,c2⟩,⟨a3,n3,c3⟩⟩:=ro
 obtain⟨ki,fa,ot,fx,fy,fz,tx,ty,tz,wi,de⟩:=m
 obtain⟨dp,pitch,run,over⟩:=x
 simp only at HO ⊢
 generalize ze ((s:Rat)*pitch)=HE at *
 generalize ze (run - (over:Rat))=RM at *
 generalize ze (s:Rat)=SS at *
 generalize ze (over:Rat)=OV at *
 generalize ze pitch=PI at *
 generalize ze run=HI at *
 have e1:decide (s<1)=false:=by rw[decide_eq_false_iff_not];omega
 have e2:decide ((1000:Int)<s)=false:=by rw[decide_eq_false_iff_not];omega
 have BR:=((Blk.new w [.slice a0 n0 c0,.slice a1 n1 c1,.slice a2 n2 c2,.slice a3 n3 c3] 29).alloc (.cells #[.int .i64 ki,.int .i64 fa,.int .i64 ot,.string ⟨fx.toArray⟩,.string ⟨fy.toArray⟩,.string ⟨fz.toArray⟩,.string ⟨tx.toArray⟩,.string ⟨ty.toArray⟩,.string ⟨tz.toArray⟩,.int .i64 wi,.int .i64 de] 34)).alloc (.cells #[.string ⟨#[]⟩,.string ⟨#[]⟩,.string ⟨#[]⟩] 41)
 have BM:=(Blk.new1 w (.cells #[.slice a0 n0 c0,.slice a1 n1 c1,.slice a2 n2 c2,.slice a3 n3 c3] 29) [.int .i64 ki,.int .i64 fa,.int .i64 ot,.string ⟨fx.toArray⟩,.string ⟨fy.toArray⟩,.string ⟨fz.toArray⟩,.string ⟨tx.toArray⟩,.string ⟨ty.toArray⟩,.string ⟨tz.toArray⟩,.int .i64 wi,.int .i64 de] 34).alloc (.cells #[.string ⟨#[]⟩,.string ⟨#[]⟩,.string ⟨#[]⟩] 41)
 have BZ:=Blk.new2 w (.cells #[.slice a0 n0 c0,.slice a1 n1 c1,.slice a2 n2 c2,.slice a3 n3 c3] 29) (.cells #[.int .i64 ki,.int .i64 fa,.int .i64 ot,.string ⟨fx.toArray⟩,.string ⟨fy.toArray⟩,.string ⟨fz.toArray⟩,.string ⟨tx.toArray⟩,.string ⟨ty.toArray⟩,.string ⟨tz.toArray⟩,.int .i64 wi,.int .i64 de] 34) [.string ⟨#[]⟩,.string ⟨#[]⟩,.string ⟨#[]⟩] 41
 obtain⟨W0,hW0⟩:∃ W0,((w.alloc (.cells #[.slice a0 n0 c0,.slice a1 n1 c1,.slice a2 n2 c2,.slice a3 n3 c3] 29)).alloc (.cells #[.int .i64 ki,.int .i64 fa,.int .i64 ot,.string ⟨fx.toArray⟩,.string ⟨fy.toArray⟩,.string ⟨fz.toArray⟩,.string ⟨tx.toArray⟩,.string ⟨ty.toArray⟩,.string ⟨tz.toArray⟩,.int .i64 wi,.int .i64 de] 34)).alloc (.cells #[.string ⟨#[]⟩,.string ⟨#[]⟩,.string ⟨#[]⟩] 41)=W0:=⟨_,rfl⟩
 have hq0:Q w W0:=by rw[← hW0];exact bt
 have hs0:W0.heap.size=w.heap.size+3:=by rw[← hW0];simp
 have hEw:=hE.ofQ hq0
 rw[hW0]at BR BM
 have BZ:Blk W0 (w.heap.size+2) [.string ⟨#[]⟩,.string ⟨#[]⟩,.string ⟨#[]⟩] 41:=by rw[← hW0];exact BZ
 clear hE
 have hE:=hEw
 clear hEw
 have hQ0:=Q.refl W0
 replace r0:=BR.cell 0
 replace r1:=BR.cell 1
 replace r2:=BR.cell 2
 replace r3:=BR.cell 3
 simp only[zs4,zs5]at r0 r1 r2 r3
 replace lBR:=BR.lt
 replace m0:=BM.cell 0
 replace m1:=BM.cell 1
 replace m2:=BM.cell 2
 replace m3:=BM.cell 3
 replace m4:=BM.cell 4
 replace m5:=BM.cell 5
 replace m6:=BM.cell 6
 replace m7:=BM.cell 7
 replace m8:=BM.cell 8
 replace m9:=BM.cell 9
 replace m10:=BM.cell 10
 simp only[zs4,zs5]at m0 m1 m2 m3 m4 m5 m6 m7 m8 m9 m10
 replace lBM:=BM.lt
 go_enter Tryz.func7,Tryz.ntmps7
 go_wp2_with fail
 clear hW0
 refine(HO.out _ hE hq0).mono ?_
 rintro e Y1⟨rfl,hq1⟩
 have hQ1:Q w Y1:=Q.trans hq0 hq1
 replace BZ:=zfx BZ hq1
 have X:=Blk.new Y1 [.int .i64 dp,.string ⟨PI.toArray⟩,.string ⟨HI.toArray⟩,.string ⟨OV.toArray⟩] 86
 obtain⟨W2,hW2⟩:∃ W2,Y1.alloc (.cells #[.int .i64 dp,.string ⟨PI.toArray⟩,.string ⟨HI.toArray⟩,.string ⟨OV.toArray⟩] 86)=W2:=⟨_,rfl⟩
 have X:Blk W2 Y1.heap.size [.int .i64 dp,.string ⟨PI.toArray⟩,.string ⟨HI.toArray⟩,.string ⟨OV.toArray⟩] 86:=by rw[← hW2];exact X
 have hqW:Q Y1 W2:=by rw[← hW2];exact bt
 have hE2:=hE.ofQ (Q.trans hq1 hqW)
 have hwW:Q w W2:=Q.trans hQ1 hqW
 replace BZ:=zfx BZ hqW
 have x0:=X.cell 0
 have x1:=X.cell 1
 have x2:=X.cell 2
 have x3:=X.cell 3
 simp only[zs4,zs5]at x0 x1 x2 x3
 clear hE HO BR BM r0 r1 r2 r3 m0 m1 m2 m3 m4 m5 m6 m7 m8 m9 m10 lBR lBM
 have hE:=hE2
 clear hE2
 go_wp2_with fail
 clear hW2
 have hEd:Env W2.drew:=hE.ofQ (Below.drew (Q.refl W2))
 refine zm 7 rfl (by kernel_rfl) rfl ?_
 refine svp 0 ?_
 refine zf (i:=1) (v:=_) rfl rfl (by kernel_rfl) (by kernel_rfl) (fun _ _ _ h=>h) (by rfl) ?_ (fun w' hq=>HW.out w' (hEd.ofQ hq)) ?_
 ·(intro w' hq;go_simp;try with_reducible rfl)
 simp only[Act.put,zs1,zs2,zs3]
 refine svq 2 rfl (by intro w' hq;have hc0:=za hq x0;have hc1:=za hq x1;have hc2:=za hq x2;have hc3:=za hq x3;go_simp;try with_reducible rfl) ?_
 refine zf (i:=3) (v:=_) rfl rfl (by kernel_rfl) (by kernel_rfl) (fun _ _ _ h=>h) (by rfl) ?_ (fun w' hq=>HR.out w' (hEd.ofQ hq)) ?_
 ·(intro w' hq;go_simp;try with_reducible rfl)
 simp only[Act.put,zs1,zs2,zs3]
 refine zf (i:=4) (v:=_) rfl rfl (by kernel_rfl) (by kernel_rfl) (fun _ _ _ h=>h) (by rfl) ?_ (fun w' hq=>HD.out w' (hEd.ofQ hq)) ?_
 ·(intro w' hq;go_simp;try with_reducible rfl)
 simp only[Act.put,zs1,zs2,zs3]
 refine svp 5 ?_
 refine svp 6 ?_
 refine zh (by kernel_rfl) (fun w3 hq3=>?_)
 simp only[List.drop_succ_cons,List.drop_nil]
 have hqa:Q W2 w3:=Q.trans (Below.drew (Q.refl W2)) hq3
 have y1:=za hqa x1
 have hEe:Env w3.drew:=hE.ofQ (Q.trans hqa (Below.drew (Q.refl w3)))
 clear hq3 HR HD hEd
 go_wp2_with fail
 refine zm 10 rfl (by kernel_rfl) rfl ?_
 refine svp 0 ?_
 refine zf (i:=1) (v:=_) rfl rfl (by kernel_rfl) (by kernel_rfl) (fun _ _ _ h=>h) (by rfl) ?_ (fun w' hq=>HW.out w' (hEe.ofQ hq)) ?_
 ·(intro w' hq;go_simp;try with_reducible rfl)
 simp only[Act.put,zs1,zs2,zs3]
 refine svp 2 ?_
 refine svq 3 rfl (by intro w' hq;have hc0:=za hq y1;go_simp;try with_reducible rfl) ?_
 refine zf (i:=4) (v:=_) rfl rfl (by kernel_rfl) (by kernel_rfl) (fun _ _ _ h=>h) (by rfl) ?_ (fun w' hq=>HM.out w' (hEe.ofQ hq)) ?_
 ·(intro w' hq;go_simp;try with_reducible rfl)
 simp only[Act.put,zs1,zs2,zs3]
 refine svp 5 ?_
 refine svp 6 ?_
 refine svp 7 ?_
 refine svp 8 ?_
 refine svp 9 ?_
 refine zh (by kernel_rfl) (fun w5 hq5=>?_)
 simp only[List.drop_succ_cons,List.drop_nil]
 have hqb:Q W2 w5:=Q.trans hqa (Q.trans (Below.drew (Q.refl w3)) hq5)
 have y3:=za hqb x3
 have hEf:Env w5.drew:=hE.ofQ (Q.trans hqb (Below.drew (Q.refl w5)))
 clear hq5 HM hEe
 go_wp2_with fail
 refine zm 6 rfl (by kernel_rfl) rfl ?_
 refine svp 0 ?_
 refine svq 1 rfl (by intro w' hq;have hc0:=za hq y3;go_simp;try with_reducible rfl) ?_
 refine svp 2 ?_
 refine zf (i:=3) (v:=_) rfl rfl (by kernel_rfl) (by kernel_rfl) (fun _ _ _ h=>h) (by rfl) ?_ (fun w' hq=>HW.out w' (hEf.ofQ hq)) ?_
 ·(intro w' hq;go_simp;try with_reducible rfl)
 simp only[Act.put,zs1,zs2,zs3]
 refine svp 4 ?_
 refine svp 5 ?_
 refine zh (by kernel_rfl) (fun w7 hq7=>?_)
 simp only[List.drop_succ_cons,List.drop_zero]
 have hqc:Q W2 w7:=Q.trans hqb (Q.trans (Below.drew (Q.refl w5)) hq7)
 replace BZ:=zfx BZ hqc
 have z0:=BZ.cell 0
 have z1:=BZ.cell 1
 have z2:=BZ.cell 2
 simp only[zs4,zs5]at z0 z1 z2
 have g0:=BZ.frozen 0
 have g1:=BZ.frozen 1
 have g2:=BZ.frozen 2
 have hbz:w.heap.size≤w.heap.size+2:=by omega
 have Zf:=((BZ.set 0 (.string ⟨OV.toArray⟩)).set 1 (.string ⟨SS.toArray⟩)).set 2 (.string ⟨HE.toArray⟩)
 simp only[List.set_cons_zero,List.set_cons_succ]at Zf
 have hQe:=(((Q.trans hwW hqc).setCell (p:=⟨w.heap.size+2,0,none⟩) hbz (.string ⟨OV.toArray⟩)).setCell (p:=⟨w.heap.size+2,1,none⟩) hbz (.string ⟨SS.toArray⟩)).setCell (p:=⟨w.heap.size+2,2,none⟩) hbz (.string ⟨HE.toArray⟩)
 clear hq7 HW hEf x0 x1 x2 x3 X y1 y3
 go_wp2_with (exact bodyPost_ret (zem Zf Tryz.f7 rfl _ rfl rfl) rfl ⟨rfl,hQe⟩)
theorem zlg(ro:Ro)(m:Mb)(x:Raf)(hx:RafBd x)(y d:Rat)(hy:(x.dep:Rat) / (x.pitch*3)=y)(by0:Bd 12 y)(hd:(if x.run - x.over<y then x.run - x.over else y)=d)(w:World)(hE:Env w)(hof:OfC w ro m x) :
  Calls Tryz.prog 29 #[.agg (roC ro).toArray,.agg (mbC m).toArray] w fun e w'=>e=.returned (.tuple #[.string ⟨(ze d).toArray⟩,.int .i64 0])∧Q w w':=by
 have bo:=hx.ov
 have b3:Bd 1 (3:Rat):=⟨by decide,by decide⟩
 have bd:Bd 4 (x.dep:Rat):=zdO (by have:=hx.d1;have:=hx.d2;omega) (by decide)
 have bp:=hx.p.mul b3
 have hp0:0<(x.pitch*3).num:=by
  have h1:0<x.pitch:=(zcB _).2 hx.p0
  exact(zcB _).1 (by grind)
 have HO:=LH hof
 have HW:=LH (fun w hw=>zdv x.dep (by have:=hx.d1;have:=hx.d2;omega) w hw)
 have HR:=LH (fun w hw=>zfr x.dep (ze x.pitch) x.run (x.over:Rat) hx.r bo (by decide) w hw)
 have HD:=LH (fun w hw=>zcD (x.run - x.over) y (hx.r.less bo) by0 (by decide) w hw)
 have hod:(x.run - x.over=d∧zis (x.run - x.over) y = -1)∨(y=d∧(zis (x.run - x.over) y=0∨zis (x.run - x.over) y=1)):=by
  rcases Classical.em (x.run - x.over<y)with h | h
  ·rw[if_pos h]at hd
   exact .inl ⟨hd,zkX h⟩
  ·rw[if_neg h]at hd
   refine .inr ⟨hd,?_⟩
   rcases Classical.em (y<x.run - x.over)with h2 | h2
   ·exact .inr (zkY h2)
   ·rw[Rat.le_antisymm (Rat.not_lt.1 h) (Rat.not_lt.1 h2),zkZ]
    exact .inl rfl
 have HDE:Hid ((ze (x.run - x.over)=ze d∧zis (x.run - x.over) y = -1)∨(ze y=ze d∧(zis (x.run - x.over) y=0∨zis (x.run - x.over) y=1))):=LH (by
  rcases hod with⟨h,k⟩|⟨h,k⟩
  ·exact .inl ⟨by rw[h],k⟩
  ·exact .inr ⟨by rw[h],k⟩)
 clear hod hd
 generalize ze d=DS at *
 generalize zis (x.run - x.over) y=od at *
 have HM:=LH (fun w hw=>zai x.pitch 3 hx.p b3 (by decide) w hw)
 have HV:=LH (fun w hw=>zdq (x.dep:Rat) (x.pitch*3) bd bp (by intro h;rw[h]at hp0;exact absurd hp0 (by decide)) (by decide) w hw)
 rw[hy]at HV
 rw[show ze (3:Rat)=[51]from by kernel_rfl]at HM
 clear bo b3 bd bp hp0 hx hy by0 hof
 unfold OfC roC Sl3.v mbC zlR at HO
 unfold roC Sl3.v mbC
 obtain⟨⟨a0,n0,c0⟩,⟨a1,n1,c1⟩,⟨a2,n2,c2⟩,⟨a3,n3,c3⟩⟩:=ro
 obtain⟨ki,fa,ot,fx,fy,fz,tx,ty,tz,wi,de⟩:=m
 obtain⟨dp,pitch,run,over⟩:=x
 simp only at HO HDE ⊢
 generalize ze y=YY at *
 generalize ze (pitch*3)=P3 at *
 generalize ze (run - (over:Rat))=RM at *
 generalize ze (dp:Rat)=DD at *
 generalize ze (over:Rat)=OV at *
 generalize ze pitch=PI at *
 generalize ze run=HI at *
 have BR:=(Blk.new w [.slice a0 n0 c0,.slice a1 n1 c1,.slice a2 n2 c2,.slice a3 n3 c3] 29).alloc (.cells #[.int .i64 ki,.int .i64 fa,.int .i64 ot,.string ⟨fx.toArray⟩,.string ⟨fy.toArray⟩,.string ⟨fz.toArray⟩,.string ⟨tx.toArray⟩,.string ⟨ty.toArray⟩,.string ⟨tz.toArray⟩,.int .i64 wi,.int .i64 de] 34)
 have BM:=Blk.new1 w (.cells #[.slice a0 n0 c0,.slice a1 n1 c1,.slice a2 n2 c2,.slice a3 n3 c3] 29) [.int .i64 ki,.int .i64 fa,.int .i64 ot,.string ⟨fx.toArray⟩,.string ⟨fy.toArray⟩,.string ⟨fz.toArray⟩,.string ⟨tx.toArray⟩,.string ⟨ty.toArray⟩,.string ⟨tz.toArray⟩,.int .i64 wi,.int .i64 de] 34
 obtain⟨W0,hW0⟩:∃ W0,(w.alloc (.cells #[.slice a0 n0 c0,.slice a1 n1 c1,.slice a2 n2 c2,.slice a3 n3 c3] 29)).alloc (.cells #[.int .i64 ki,.int .i64 fa,.int .i64 ot,.string ⟨fx.toArray⟩,.string ⟨fy.toArray⟩,.string ⟨fz.toArray⟩,.string ⟨tx.toArray⟩,.string ⟨ty.toArray⟩,.string ⟨tz.toArray⟩,.int .i64 wi,.int .i64 de] 34)=W0:=⟨_,rfl⟩
 have hq0:Q w W0:=by rw[← hW0];exact bt
 have hEw:=hE.ofQ hq0
 rw[hW0]at BR
 have BM:Blk W0 (w.heap.size+1) [.int .i64 ki,.int .i64 fa,.int .i64 ot,.string ⟨fx.toArray⟩,.string ⟨fy.toArray⟩,.string ⟨fz.toArray⟩,.string ⟨tx.toArray⟩,.string ⟨ty.toArray⟩,.string ⟨tz.toArray⟩,.int .i64 wi,.int .i64 de] 34:=by rw[← hW0];exact BM
 clear hE
 have hE:=hEw
 clear hEw
 have hQ0:=Q.refl W0
 replace r0:=BR.cell 0
 replace r1:=BR.cell 1
 replace r2:=BR.cell 2
 replace r3:=BR.cell 3
 simp only[zs4,zs5]at r0 r1 r2 r3
 replace lBR:=BR.lt
 replace m0:=BM.cell 0
 replace m1:=BM.cell 1
 replace m2:=BM.cell 2
 replace m3:=BM.cell 3
 replace m4:=BM.cell 4
 replace m5:=BM.cell 5
 replace m6:=BM.cell 6
 replace m7:=BM.cell 7
 replace m8:=BM.cell 8
 replace m9:=BM.cell 9
 replace m10:=BM.cell 10
 simp only[zs4,zs5]at m0 m1 m2 m3 m4 m5 m6 m7 m8 m9 m10
 replace lBM:=BM.lt
 go_enter Tryz.func29,Tryz.ntmps29
 go_wp2_with fail
 clear hW0
 refine(HO.out _ hE hq0).mono ?_
 rintro e Y1⟨rfl,hq1⟩
 have hQ1:Q w Y1:=Q.trans hq0 hq1
 have X:=Blk.new Y1 [.int .i64 dp,.string ⟨PI.toArray⟩,.string ⟨HI.toArray⟩,.string ⟨OV.toArray⟩] 86
 obtain⟨W2,hW2⟩:∃ W2,Y1.alloc (.cells #[.int .i64 dp,.string ⟨PI.toArray⟩,.string ⟨HI.toArray⟩,.string ⟨OV.toArray⟩] 86)=W2:=⟨_,rfl⟩
 have X:Blk W2 Y1.heap.size [.int .i64 dp,.string ⟨PI.toArray⟩,.string ⟨HI.toArray⟩,.string ⟨OV.toArray⟩] 86:=by rw[← hW2];exact X
 have hqW:Q Y1 W2:=by rw[← hW2];exact bt
 have hE2:=hE.ofQ (Q.trans hq1 hqW)
 have hwW:Q w W2:=Q.trans hQ1 hqW
 clear hE HO BR BM r0 r1 r2 r3 m0 m1 m2 m3 m4 m5 m6 m7 m8 m9 m10 lBR lBM
 have hE:=hE2
 clear hE2
 have hQ0:=Q.refl W2
 replace x0:=X.cell 0
 replace x1:=X.cell 1
 replace x2:=X.cell 2
 replace x3:=X.cell 3
 simp only[zs4,zs5]at x0 x1 x2 x3
 replace lX:=X.lt
 go_wp2_with fail
 clear hW2
 refine(HM.out _ (hE.ofQ bt)).mono ?_
 rintro e Z1⟨rfl,hq1⟩
 have hs1:Q W2 Z1:=Q.trans bt hq1
 have hQ1:Q W2 Z1:=Q.trans hQ0 hs1
 replace X:=X.keep hs1 X.lt
 replace x0:=X.cell 0
 replace x1:=X.cell 1
 replace x2:=X.cell 2
 replace x3:=X.cell 3
 simp only[zs4,zs5]at x0 x1 x2 x3
 replace lX:=X.lt
 go_wp2_with fail
 refine(HW.out _ (hE.ofQ bt)).mono ?_
 rintro e Z2⟨rfl,hq2⟩
 have hs2:Q Z1 Z2:=Q.trans bt hq2
 have hQ2:Q W2 Z2:=Q.trans hQ1 hs2
 replace X:=X.keep hs2 X.lt
 replace x0:=X.cell 0
 replace x1:=X.cell 1
 replace x2:=X.cell 2
 replace x3:=X.cell 3
 simp only[zs4,zs5]at x0 x1 x2 x3
 replace lX:=X.lt
 go_wp2_with fail
 refine(HV.out _ (hE.ofQ bt)).mono ?_
 rintro e Z3⟨rfl,hq3⟩
 have hs3:Q Z2 Z3:=Q.trans bt hq3
 have hQ3:Q W2 Z3:=Q.trans hQ2 hs3
 replace X:=X.keep hs3 X.lt
 replace x0:=X.cell 0
 replace x1:=X.cell 1
 replace x2:=X.cell 2
 replace x3:=X.cell 3
 simp only[zs4,zs5]at x0 x1 x2 x3
 replace lX:=X.lt
 go_wp2_with fail
 refine(HR.out _ (hE.ofQ bt)).mono ?_
 rintro e Z4⟨rfl,hq4⟩
 have hs4:Q Z3 Z4:=Q.trans bt hq4
 have hQ4:Q W2 Z4:=Q.trans hQ3 hs4
 replace X:=X.keep hs4 X.lt
 replace x0:=X.cell 0
 replace x1:=X.cell 1
 replace x2:=X.cell 2
 replace x3:=X.cell 3
 simp only[zs4,zs5]at x0 x1 x2 x3
 replace lX:=X.lt
 go_wp2_with fail
 refine(HD.out _ (hE.ofQ bt)).mono ?_
 rintro e Z5⟨rfl,hq5⟩
 have hs5:Q Z4 Z5:=Q.trans bt hq5
 have hQ5:Q W2 Z5:=Q.trans hQ4 hs5
 replace X:=X.keep hs5 X.lt
 replace x0:=X.cell 0
 replace x1:=X.cell 1
 replace x2:=X.cell 2
 replace x3:=X.cell 3
 simp only[zs4,zs5]at x0 x1 x2 x3
 replace lX:=X.lt
 have hQe:=Q.trans hwW hQ5
 have hde:=HDE.out
 clear HDE
 rcases hde with⟨h,rfl⟩|⟨h,rfl | rfl⟩
 all_goals
  subst h
  go_wp2
  go_ret2
  exact⟨rfl,hQe⟩
end
end Go.Proofs.YtbpghkdadajomaaGreatDoor
