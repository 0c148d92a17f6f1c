/-
  Walks of package joint: Birdsmouth, Deepest, of whatever rafter at an eaves.; Walks of package rational: the sums of a list, Sum.; Walks of package joint: the checks of a notch, notched.
-/
import Derived.Test.YtdecodpgdainiaaGreatDoorH23
import Derived.Test.YtdecodpgdainiaaGreatDoorH16
set_option maxRecDepth 100000
set_option maxHeartbeats 4000000
namespace Go.Proofs.YtdecodpgdainiaaGreatDoor
section
open Go.RowKit Go.Shelf Kp
attribute [local go_sem] Oper.semAt_some
structure Sl3 where
 a:Option Addr
 n:Nat
 c:Nat
def Sl3.v(s:Sl3):Value:=.slice s.a s.n s.c
structure Ro where
 p:Sl3
 q:Sl3
 r:Sl3
 s:Sl3
def roC(x:Ro):List Value:=[x.p.v,x.q.v,x.r.v,x.s.v]
def OfC(w:World)(ro:Ro)(m:Mb)(x:Raf):Prop:=∀ W,Env W→Q w W→CR 51 #[.agg (roC ro).toArray,.agg (mbC m).toArray] W (.tuple #[.agg (zm7 x).toArray,.int .i64 0])
structure RafBd (x:Raf):Prop where
 d1:1≤x.dep
 d2:x.dep≤1000
 p:Bd 5 x.pitch
 p0:0<x.pitch.num
 r:Bd 37 x.run
 o:x.over.natAbs<10 ^ 5
theorem RafBd.ov{x:Raf}(h:RafBd x):Bd 5 (x.over:Rat):=zfM h.o (by decide)
theorem zjh(q:Rat):0<q ↔ 0<q.num:=by
 rw[Rat.lt_iff]
 simp
theorem zlb{W:World}{b:Nat}{x y z v:Value}(h:Blk W b [x,y,z] 61)(fn:Func)(hf:fn.results=#[.cell 6 61,.tmp 7])(tmps:Array Value)
  (hp:tmps.getD 6 undef=.pointer (some ⟨b,0,none⟩))(hp5:tmps.getD 7 undef=v) :
  (results fn tmps).run Tryz.prog W=.ok (.tuple #[.agg #[x,y,z],v]) W:=by
 have c0:=h.cell 0
 have c1:=h.cell 1
 have c2:=h.cell 2
 simp only[zs4,zs5]at c0 c1 c2
 simp only[Array.getD_eq_getD_getElem?]at hp hp5
 simp[results,hf,hp,hp5,go_sem,c0,c1,c2]
theorem ziq(ro:Ro)(m:Mb)(x:Raf)(hx:RafBd x)(s:Int)(s1:1≤s)(s2:s≤1000)(hs:(s:Rat)≤x.run - x.over)(w:World)(hE:Env w)(hof:OfC w ro m x) :
  CR 18 #[.agg (roC ro).toArray,.agg (mbC m).toArray,.int .i64 s] w (.tuple #[.agg #[.string ⟨(za (x.over:Rat)).toArray⟩,.string ⟨(za (s:Rat)).toArray⟩,.string ⟨(za ((s:Rat)*x.pitch)).toArray⟩],.int .i64 0]):=by
 have bs:Bd 4 (s:Rat):=zfM (by omega) (by decide)
 have bo:=hx.ov
 have HO:=LH hof
 have HW:=LH (fun w hw=>zcz s (by omega) w hw)
 have HR:=LH (fun w hw=>zhE x.dep (za x.pitch) x.run (x.over:Rat) hx.r bo (by decide) w hw)
 have HD:=LH (fun w hw=>zdq (s:Rat) (x.run - x.over) bs (hx.r.less bo) (by decide) w hw)
 have HM:=LH (fun w hw=>zaq (s:Rat) x.pitch bs hx.p (by decide) w hw)
 have hor:decide (0<ziB (s:Rat) (x.run - x.over))=false:=by
  rw[decide_eq_false_iff_not]
  by_cases h:(s:Rat)<x.run - x.over
  ·rw[zlm h];decide
  ·rw[← Rat.le_antisymm hs (Rat.not_lt.1 h),zln];decide
 generalize ziB (s:Rat) (x.run - x.over)=od at *
 clear bs bo hx hs hof
 unfold OfC roC Sl3.v mbC zm7 at HO
 unfold roC Sl3.v mbC
 obtain⟨⟨a0,n0,c0⟩,⟨a1,n1,c1⟩,⟨a2,n2,c2⟩,⟨a3,n3,c3⟩⟩:=ro
 obtain⟨ki,fa,ot,fx,fy,fz,tx,ty,tz,wi,de⟩:=m
 obtain⟨dp,pitch,run,over⟩:=x
 simp only at HO ⊢
 generalize za ((s:Rat)*pitch)=HE at *
 generalize za (run - (over:Rat))=RM at *
 generalize za (s:Rat)=SS at *
 generalize za (over:Rat)=OV at *
 generalize za pitch=PI at *
 generalize za run=HI at *
 have e1:decide (s<1)=false:=by rw[decide_eq_false_iff_not];omega
 have e2:decide ((1000:Int)<s)=false:=by rw[decide_eq_false_iff_not];omega
 have BR:=((Blk.new w [.slice a0 n0 c0,.slice a1 n1 c1,.slice a2 n2 c2,.slice a3 n3 c3] 57).alloc (.cells #[.int .i64 ki,.int .i64 fa,.int .i64 ot,.string ⟨fx.toArray⟩,.string ⟨fy.toArray⟩,.string ⟨fz.toArray⟩,.string ⟨tx.toArray⟩,.string ⟨ty.toArray⟩,.string ⟨tz.toArray⟩,.int .i64 wi,.int .i64 de] 26)).alloc (.cells #[.string ⟨#[]⟩,.string ⟨#[]⟩,.string ⟨#[]⟩] 61)
 have BM:=(Blk.new1 w (.cells #[.slice a0 n0 c0,.slice a1 n1 c1,.slice a2 n2 c2,.slice a3 n3 c3] 57) [.int .i64 ki,.int .i64 fa,.int .i64 ot,.string ⟨fx.toArray⟩,.string ⟨fy.toArray⟩,.string ⟨fz.toArray⟩,.string ⟨tx.toArray⟩,.string ⟨ty.toArray⟩,.string ⟨tz.toArray⟩,.int .i64 wi,.int .i64 de] 26).alloc (.cells #[.string ⟨#[]⟩,.string ⟨#[]⟩,.string ⟨#[]⟩] 61)
 have BZ:=Blk.new2 w (.cells #[.slice a0 n0 c0,.slice a1 n1 c1,.slice a2 n2 c2,.slice a3 n3 c3] 57) (.cells #[.int .i64 ki,.int .i64 fa,.int .i64 ot,.string ⟨fx.toArray⟩,.string ⟨fy.toArray⟩,.string ⟨fz.toArray⟩,.string ⟨tx.toArray⟩,.string ⟨ty.toArray⟩,.string ⟨tz.toArray⟩,.int .i64 wi,.int .i64 de] 26) [.string ⟨#[]⟩,.string ⟨#[]⟩,.string ⟨#[]⟩] 61
 obtain⟨W0,hW0⟩:∃ W0,((w.alloc (.cells #[.slice a0 n0 c0,.slice a1 n1 c1,.slice a2 n2 c2,.slice a3 n3 c3] 57)).alloc (.cells #[.int .i64 ki,.int .i64 fa,.int .i64 ot,.string ⟨fx.toArray⟩,.string ⟨fy.toArray⟩,.string ⟨fz.toArray⟩,.string ⟨tx.toArray⟩,.string ⟨ty.toArray⟩,.string ⟨tz.toArray⟩,.int .i64 wi,.int .i64 de] 26)).alloc (.cells #[.string ⟨#[]⟩,.string ⟨#[]⟩,.string ⟨#[]⟩] 61)=W0:=⟨_,rfl⟩
 have hq0:Q w W0:=by rw[← hW0];exact bt
 have hs0:W0.heap.size=w.heap.size+3:=by rw[← hW0];simp
 have hEw:=hE.ofQ hq0
 rw[hW0]at BR BM
 have BZ:Blk W0 (w.heap.size+2) [.string ⟨#[]⟩,.string ⟨#[]⟩,.string ⟨#[]⟩] 61:=by rw[← hW0];exact BZ
 clear hE
 have hE:=hEw
 clear hEw
 have hQ0:=Q.refl W0
 replace r0:=BR.cell
 replace lBR:=BR.lt
 replace m0:=BM.cell
 replace lBM:=BM.lt
 go_enter Tryz.func18,Tryz.ntmps18
 go_wp2_with fail
 clear hW0
 refine cx (HO.out _ hE hq0) fun Y1 hq1=>?_
 have hQ1:Q w Y1:=Q.trans hq0 hq1
 replace BZ:=zl5 BZ hq1
 have X:=Blk.new Y1 [.int .i64 dp,.string ⟨PI.toArray⟩,.string ⟨HI.toArray⟩,.string ⟨OV.toArray⟩] 110
 obtain⟨W2,hW2⟩:∃ W2,Y1.alloc (.cells #[.int .i64 dp,.string ⟨PI.toArray⟩,.string ⟨HI.toArray⟩,.string ⟨OV.toArray⟩] 110)=W2:=⟨_,rfl⟩
 have X:Blk W2 Y1.heap.size [.int .i64 dp,.string ⟨PI.toArray⟩,.string ⟨HI.toArray⟩,.string ⟨OV.toArray⟩] 110:=by rw[← hW2];exact X
 have hqW:Q Y1 W2:=by rw[← hW2];exact bt
 have hE2:=hE.ofQ (Q.trans hq1 hqW)
 have hwW:Q w W2:=Q.trans hQ1 hqW
 replace BZ:=zl5 BZ hqW
 have x0:=X.cell 0
 have x1:=X.cell 1
 have x2:=X.cell 2
 have x3:=X.cell 3
 simp only[zs4,zs5]at x0 x1 x2 x3
 clear hE HO BR BM r0 m0 lBR lBM
 have hE:=hE2
 clear hE2
 go_wp2_with fail
 clear hW2
 have hEd:Env W2.drew:=hE.ofQ (Below.drew (Q.refl W2))
 refine zn 7 rfl (by kernel_rfl) rfl ?_
 refine svp 0 ?_
 refine zf (i:=1) (v:=_) rfl rfl (by kernel_rfl) (by kernel_rfl) (fun _ _ _ h=>h) (by rfl) ?_ (fun w' hq=>HW.out w' (hEd.ofQ hq)) ?_
 ·(intro w' hq;go_simp;try with_reducible rfl)
 simp only[Act.put,zs1,zs2,zs3]
 refine svq 2 rfl (by intro w' hq;have hc0:=ze hq x0;have hc1:=ze hq x1;have hc2:=ze hq x2;have hc3:=ze hq x3;go_simp;try with_reducible rfl) ?_
 refine zf (i:=3) (v:=_) rfl rfl (by kernel_rfl) (by kernel_rfl) (fun _ _ _ h=>h) (by rfl) ?_ (fun w' hq=>HR.out w' (hEd.ofQ hq)) ?_
 ·(intro w' hq;go_simp;try with_reducible rfl)
 simp only[Act.put,zs1,zs2,zs3]
 refine zf (i:=4) (v:=_) rfl rfl (by kernel_rfl) (by kernel_rfl) (fun _ _ _ h=>h) (by rfl) ?_ (fun w' hq=>HD.out w' (hEd.ofQ hq)) ?_
 ·(intro w' hq;go_simp;try with_reducible rfl)
 simp only[Act.put,zs1,zs2,zs3]
 refine svp 5 ?_
 refine svp 6 ?_
 refine zh (by kernel_rfl) (fun w3 hq3=>?_)
 simp only[List.drop_succ_cons,List.drop_nil]
 have hqa:Q W2 w3:=Q.trans (Below.drew (Q.refl W2)) hq3
 have y1:=ze hqa x1
 have hEe:Env w3.drew:=hE.ofQ (Q.trans hqa (Below.drew (Q.refl w3)))
 clear hq3 HR HD hEd
 go_wp2_with fail
 refine zn 10 rfl (by kernel_rfl) rfl ?_
 refine svp 0 ?_
 refine zf (i:=1) (v:=_) rfl rfl (by kernel_rfl) (by kernel_rfl) (fun _ _ _ h=>h) (by rfl) ?_ (fun w' hq=>HW.out w' (hEe.ofQ hq)) ?_
 ·(intro w' hq;go_simp;try with_reducible rfl)
 simp only[Act.put,zs1,zs2,zs3]
 refine svp 2 ?_
 refine svq 3 rfl (by intro w' hq;have hc0:=ze hq y1;go_simp;try with_reducible rfl) ?_
 refine zf (i:=4) (v:=_) rfl rfl (by kernel_rfl) (by kernel_rfl) (fun _ _ _ h=>h) (by rfl) ?_ (fun w' hq=>HM.out w' (hEe.ofQ hq)) ?_
 ·(intro w' hq;go_simp;try with_reducible rfl)
 simp only[Act.put,zs1,zs2,zs3]
 refine svp 5 ?_
 refine svp 6 ?_
 refine svp 7 ?_
 refine svp 8 ?_
 refine svp 9 ?_
 refine zh (by kernel_rfl) (fun w5 hq5=>?_)
 simp only[List.drop_succ_cons,List.drop_nil]
 have hqb:Q W2 w5:=Q.trans hqa (Q.trans (Below.drew (Q.refl w3)) hq5)
 have y3:=ze hqb x3
 have hEf:Env w5.drew:=hE.ofQ (Q.trans hqb (Below.drew (Q.refl w5)))
 clear hq5 HM hEe
 go_wp2_with fail
 refine zn 6 rfl (by kernel_rfl) rfl ?_
 refine svp 0 ?_
 refine svq 1 rfl (by intro w' hq;have hc0:=ze hq y3;go_simp;try with_reducible rfl) ?_
 refine svp 2 ?_
 refine zf (i:=3) (v:=_) rfl rfl (by kernel_rfl) (by kernel_rfl) (fun _ _ _ h=>h) (by rfl) ?_ (fun w' hq=>HW.out w' (hEf.ofQ hq)) ?_
 ·(intro w' hq;go_simp;try with_reducible rfl)
 simp only[Act.put,zs1,zs2,zs3]
 refine svp 4 ?_
 refine svp 5 ?_
 refine zh (by kernel_rfl) (fun w7 hq7=>?_)
 simp only[List.drop_succ_cons,List.drop_zero]
 have hqc:Q W2 w7:=Q.trans hqb (Q.trans (Below.drew (Q.refl w5)) hq7)
 replace BZ:=zl5 BZ hqc
 have z0:=BZ.cell
 have g0:=BZ.frozen 0
 have g1:=BZ.frozen 1
 have g2:=BZ.frozen 2
 have hbz:w.heap.size≤w.heap.size+2:=by omega
 have Zf:=((BZ.set 0 (.string ⟨OV.toArray⟩)).set 1 (.string ⟨SS.toArray⟩)).set 2 (.string ⟨HE.toArray⟩)
 simp only[List.set_cons_zero,List.set_cons_succ]at Zf
 have hQe:=(((Q.trans hwW hqc).setCell (p:=⟨w.heap.size+2,0,none⟩) hbz (.string ⟨OV.toArray⟩)).setCell (p:=⟨w.heap.size+2,1,none⟩) hbz (.string ⟨SS.toArray⟩)).setCell (p:=⟨w.heap.size+2,2,none⟩) hbz (.string ⟨HE.toArray⟩)
 clear hq7 HW hEf x0 x1 x2 x3 X y1 y3
 go_wp2_with (exact bodyPost_ret (zlb Zf Tryz.f18 rfl _ rfl rfl) rfl ⟨rfl,hQe⟩)
theorem zlG(ro:Ro)(m:Mb)(x:Raf)(hx:RafBd x)(y d:Rat)(hy:(x.dep:Rat) / (x.pitch*3)=y)(by0:Bd 12 y)(hd:(if x.run - x.over<y then x.run - x.over else y)=d)(w:World)(hE:Env w)(hof:OfC w ro m x) :
  CR 20 #[.agg (roC ro).toArray,.agg (mbC m).toArray] w (.tuple #[.string ⟨(za d).toArray⟩,.int .i64 0]):=by
 have bo:=hx.ov
 have b3:Bd 1 (3:Rat):=⟨by decide,by decide⟩
 have bd:Bd 4 (x.dep:Rat):=zfM (by have:=hx.d1;have:=hx.d2;omega) (by decide)
 have bp:=hx.p.mul b3
 have hp0:0<(x.pitch*3).num:=by
  have h1:0<x.pitch:=(zjh _).2 hx.p0
  exact(zjh _).1 (by grind)
 have HO:=LH hof
 have HW:=LH (fun w hw=>zcz x.dep (by have:=hx.d1;have:=hx.d2;omega) w hw)
 have HR:=LH (fun w hw=>zhE x.dep (za x.pitch) x.run (x.over:Rat) hx.r bo (by decide) w hw)
 have HD:=LH (fun w hw=>zdq (x.run - x.over) y (hx.r.less bo) by0 (by decide) w hw)
 have hod:(x.run - x.over=d∧ziB (x.run - x.over) y = -1)∨(y=d∧(ziB (x.run - x.over) y=0∨ziB (x.run - x.over) y=1)):=by
  rcases Classical.em (x.run - x.over<y)with h | h
  ·rw[if_pos h]at hd
   exact .inl ⟨hd,zlm h⟩
  ·rw[if_neg h]at hd
   refine .inr ⟨hd,?_⟩
   rcases Classical.em (y<x.run - x.over)with h2 | h2
   ·exact .inr (znB h2)
   ·rw[Rat.le_antisymm (Rat.not_lt.1 h) (Rat.not_lt.1 h2),zln]
    exact .inl rfl
 have HDE:Hid ((za (x.run - x.over)=za d∧ziB (x.run - x.over) y = -1)∨(za y=za d∧(ziB (x.run - x.over) y=0∨ziB (x.run - x.over) y=1))):=LH (by
  rcases hod with⟨h,k⟩|⟨h,k⟩
  ·exact .inl ⟨by rw[h],k⟩
  ·exact .inr ⟨by rw[h],k⟩)
 clear hod hd
 generalize za d=DS at *
 generalize ziB (x.run - x.over) y=od at *
 have HM:=LH (fun w hw=>zaq x.pitch 3 hx.p b3 (by decide) w hw)
 have HV:=LH (fun w hw=>zbi (x.dep:Rat) (x.pitch*3) bd bp (by intro h;rw[h]at hp0;exact absurd hp0 (by decide)) (by decide) w hw)
 rw[hy]at HV
 rw[show za (3:Rat)=[51]from by kernel_rfl]at HM
 clear bo b3 bd bp hp0 hx hy by0 hof
 unfold OfC roC Sl3.v mbC zm7 at HO
 unfold roC Sl3.v mbC
 obtain⟨⟨a0,n0,c0⟩,⟨a1,n1,c1⟩,⟨a2,n2,c2⟩,⟨a3,n3,c3⟩⟩:=ro
 obtain⟨ki,fa,ot,fx,fy,fz,tx,ty,tz,wi,de⟩:=m
 obtain⟨dp,pitch,run,over⟩:=x
 simp only at HO HDE ⊢
 generalize za y=YY at *
 generalize za (pitch*3)=P3 at *
 generalize za (run - (over:Rat))=RM at *
 generalize za (dp:Rat)=DD at *
 generalize za (over:Rat)=OV at *
 generalize za pitch=PI at *
 generalize za run=HI at *
 have BR:=(Blk.new w [.slice a0 n0 c0,.slice a1 n1 c1,.slice a2 n2 c2,.slice a3 n3 c3] 57).alloc (.cells #[.int .i64 ki,.int .i64 fa,.int .i64 ot,.string ⟨fx.toArray⟩,.string ⟨fy.toArray⟩,.string ⟨fz.toArray⟩,.string ⟨tx.toArray⟩,.string ⟨ty.toArray⟩,.string ⟨tz.toArray⟩,.int .i64 wi,.int .i64 de] 26)
 have BM:=Blk.new1 w (.cells #[.slice a0 n0 c0,.slice a1 n1 c1,.slice a2 n2 c2,.slice a3 n3 c3] 57) [.int .i64 ki,.int .i64 fa,.int .i64 ot,.string ⟨fx.toArray⟩,.string ⟨fy.toArray⟩,.string ⟨fz.toArray⟩,.string ⟨tx.toArray⟩,.string ⟨ty.toArray⟩,.string ⟨tz.toArray⟩,.int .i64 wi,.int .i64 de] 26
 obtain⟨W0,hW0⟩:∃ W0,(w.alloc (.cells #[.slice a0 n0 c0,.slice a1 n1 c1,.slice a2 n2 c2,.slice a3 n3 c3] 57)).alloc (.cells #[.int .i64 ki,.int .i64 fa,.int .i64 ot,.string ⟨fx.toArray⟩,.string ⟨fy.toArray⟩,.string ⟨fz.toArray⟩,.string ⟨tx.toArray⟩,.string ⟨ty.toArray⟩,.string ⟨tz.toArray⟩,.int .i64 wi,.int .i64 de] 26)=W0:=⟨_,rfl⟩
 have hq0:Q w W0:=by rw[← hW0];exact bt
 have hEw:=hE.ofQ hq0
 rw[hW0]at BR
 have BM:Blk W0 (w.heap.size+1) [.int .i64 ki,.int .i64 fa,.int .i64 ot,.string ⟨fx.toArray⟩,.string ⟨fy.toArray⟩,.string ⟨fz.toArray⟩,.string ⟨tx.toArray⟩,.string ⟨ty.toArray⟩,.string ⟨tz.toArray⟩,.int .i64 wi,.int .i64 de] 26:=by rw[← hW0];exact BM
 clear hE
 have hE:=hEw
 clear hEw
 have hQ0:=Q.refl W0
 replace r0:=BR.cell
 replace lBR:=BR.lt
 replace m0:=BM.cell
 replace lBM:=BM.lt
 go_enter Tryz.func20,Tryz.ntmps20
 go_wp2_with fail
 clear hW0
 refine cx (HO.out _ hE hq0) fun Y1 hq1=>?_
 have hQ1:Q w Y1:=Q.trans hq0 hq1
 have X:=Blk.new Y1 [.int .i64 dp,.string ⟨PI.toArray⟩,.string ⟨HI.toArray⟩,.string ⟨OV.toArray⟩] 110
 obtain⟨W2,hW2⟩:∃ W2,Y1.alloc (.cells #[.int .i64 dp,.string ⟨PI.toArray⟩,.string ⟨HI.toArray⟩,.string ⟨OV.toArray⟩] 110)=W2:=⟨_,rfl⟩
 have X:Blk W2 Y1.heap.size [.int .i64 dp,.string ⟨PI.toArray⟩,.string ⟨HI.toArray⟩,.string ⟨OV.toArray⟩] 110:=by rw[← hW2];exact X
 have hqW:Q Y1 W2:=by rw[← hW2];exact bt
 have hE2:=hE.ofQ (Q.trans hq1 hqW)
 have hwW:Q w W2:=Q.trans hQ1 hqW
 clear hE HO BR BM r0 m0 lBR lBM
 have hE:=hE2
 clear hE2
 have hQ0:=Q.refl W2
 replace x0:=X.cell
 replace lX:=X.lt
 go_wp2_with fail
 clear hW2
 refine cx (HM.out _ (hE.ofQ bt)) fun Z1 hq1=>?_
 have hs1:Q W2 Z1:=Q.trans bt hq1
 have hQ1:Q W2 Z1:=Q.trans hQ0 hs1
 replace X:=X.keep hs1 X.lt
 replace x0:=X.cell
 replace lX:=X.lt
 go_wp2_with fail
 refine cx (HW.out _ (hE.ofQ bt)) fun Z2 hq2=>?_
 have hs2:Q Z1 Z2:=Q.trans bt hq2
 have hQ2:Q W2 Z2:=Q.trans hQ1 hs2
 replace X:=X.keep hs2 X.lt
 replace x0:=X.cell
 replace lX:=X.lt
 go_wp2_with fail
 refine cx (HV.out _ (hE.ofQ bt)) fun Z3 hq3=>?_
 have hs3:Q Z2 Z3:=Q.trans bt hq3
 have hQ3:Q W2 Z3:=Q.trans hQ2 hs3
 replace X:=X.keep hs3 X.lt
 replace x0:=X.cell
 replace lX:=X.lt
 go_wp2_with fail
 refine cx (HR.out _ (hE.ofQ bt)) fun Z4 hq4=>?_
 have hs4:Q Z3 Z4:=Q.trans bt hq4
 have hQ4:Q W2 Z4:=Q.trans hQ3 hs4
 replace X:=X.keep hs4 X.lt
 replace x0:=X.cell
 replace lX:=X.lt
 go_wp2_with fail
 refine cx (HD.out _ (hE.ofQ bt)) fun Z5 hq5=>?_
 have hs5:Q Z4 Z5:=Q.trans bt hq5
 have hQ5:Q W2 Z5:=Q.trans hQ4 hs5
 replace X:=X.keep hs5 X.lt
 replace x0:=X.cell
 replace lX:=X.lt
 have hQe:=Q.trans hwW hQ5
 have hde:=HDE.out
 clear HDE
 rcases hde with⟨h,rfl⟩|⟨h,rfl | rfl⟩
 all_goals
  subst h
  go_wp2
  go_ret2
  exact⟨rfl,hQe⟩
end
section
open Go.RowKit Go.Shelf Kp
attribute [local go_sem] Oper.semAt_some
theorem zum{n:Nat}(h:0<n):Bd n (0:Rat):=⟨Nat.pow_pos (by decide),Nat.one_lt_pow (by omega) (by decide)⟩
section
variable {P:Program} {g:Operand} {ps:Array Tmp} {assign body:Code} {R:Exit→Act→World→Prop} {a:Act} {w:World} {m gf N:Nat} {lb:Array Value} {bs:List Nat}
theorem zgl(Pc:World→Prop)(hm:1≤m)(hg:a.eval g=.func (.func gf) #[] lb)(eg:∀ args w,(callFunc gf args).run P w=.ok (.enter gf args) w)
  {encs:PlN N→Array Value}(hseq:zfz (m - 1) P gf lb encs bs (fun _ W=>Pc W) zrM (fun ys=>UpN N ys) (fun pre=>∃ k,k≤N∧UpN k pre) w)(hbs:∀ k∈bs,k<w.heap.size)(hps:∀ x,(encs x).size=ps.size)
  (I:Nat→World→Prop)(Ix:Code→World→Prop)(hPc:∀ k W,I k W→Pc W)(hI:∀ k W W',I k W→KC W W'→Below w.heap.size W W'→I k W')(hIx:∀ c W W',Ix c W→KC W W'→Below w.heap.size W W'→Ix c W')(h0:I 0 w)(AS:PlN N→Act→World→Prop)(hAS:∀ x a1 W W',AS x a1 W→KC W W'→AS x a1 W')
  (hassign:∀ (l:Nat) (x:PlN N) (W:World) (K:Act→World→Prop),w.heap.size≤W.heap.size→(∀ a1 W',Q W W'→AS x a1 W'→K a1 W') →
   assign.wpIn (Fence.wide.inRound l) (m - 1 - 1) P (Exit.then K (fun _ _ _=>False)) { tmps:=(ps.zip (encs x)).foldl (fun t (p,v)=>t.setIfInBounds p v) a.tmps,defers:=[] } W)
  (hbody:∀ (l k:Nat) (hk:k<N) (a1:Act) (W:World),I k W→AS ⟨k,hk⟩ a1 W→body.wpIn (Fence.wide.inRound l) (m - 1 - 1) P (roundUp w.heap.size bs I Ix (k+1) W) a1 W)
  (hdone:∀ (D:Nat) (W:World),w.heap.size≤D→I N W→W.heap[D]? = some (.deferred (some []))→R .normal { a with defers:={ target:=.collected D,args:=#[] }::a.defers } W)
  (hstop:∀ (D:Nat) (c:Code) (W:World),w.heap.size≤D→Ix c W→W.heap[D]? = some (.deferred (some []))→c.wpIn Fence.wide m P R { a with defers:={ target:=.collected D,args:=#[] }::a.defers } W) :
  (Code.rangeFunc g ps assign body).wpIn Fence.wide m P R a w:=by
 refine zcZ hm hg eg hseq hbs hps (fun pre W=>I pre.length W) (fun c _ W=>Ix c W) (fun _ W h=>hPc _ W h) (fun pre W W' h k hb=>hI _ W W' h k hb) (fun c _ W W' h k hb=>hIx c W W' h k hb) h0 AS hAS hassign ?_ ?_ ?_
 ·intro l pre x a1 W hi hx hs
  obtain⟨k,hk⟩:=x
  have e:pre.length=k:=hx.symm
  subst e
  refine wpIn_mono (hbody l pre.length hk a1 W hi hs) ?_
  intro e a3 W3 hp
  cases e with
  | normal=>exact⟨hp.1,hp.2.1,by
   show I (pre++[_]).length W3
   rw[List.length_append,List.length_singleton];exact hp.2.2⟩
  | ret=>exact hp
  | exit id=>exact hp
  | goto t=>exact hp
  | panic ch=>exact hp
  | outgrown=>exact hp
 ·intro D xs W hD hS hi hk
  exact hdone D W hD (by rw[hS.len]at hi;exact hi) hk
 ·intro D c pre W hD hSp hi hk
  exact hstop D c W hD hi hk
end
end
section
open Go.RowKit Go.Shelf Kp
attribute [local go_sem] Oper.semAt_some
theorem zpL(q:Rat)(h:Bd 36 q)(w:World)(hE:Env w) :
  CR 144 #[.string ⟨(za q).toArray⟩] w (.bool false):=by
 have HO:=LH (fun w hw=>znG q h w hw)
 generalize za q=S at *
 clear h
 go_enter Tryz.func144,Tryz.ntmps144
 have hQ0:=Q.refl w
 go_wp2_with fail
 refine cx (HO.out _ (hE.ofQ bt)) fun w1 hq1=>?_
 have hs1:Q w w1:=Q.trans bt hq1
 have hQ1:Q w w1:=Q.trans hQ0 hs1
 go_wp2
 go_ret
 exact⟨rfl,hQ1⟩
theorem znL(l:List Rat)(hl:∀ q∈l,Bd 36 q)(hn:l.length≤100)(v:Value)(w:World)(hE:Env w)(hv:zca w v (l.map za)) :
  CR 87 #[v,.func (.func 144) #[] #[]] w (.int .i64 (-1)):=by
 obtain⟨b,o,cap,rfl,hb,hc⟩:=hv
 rw[List.length_map]at hc
 rw[List.length_map]
 have HL:=LH hl
 clear hl
 go_enter Tryz.func87,Tryz.ntmps87
 go_wp2
 go_loopw [8] (fun i wr=>∃ k:Nat,k≤l.length∧i=.int .i64 k∧Q w wr) (fun i _=>l.length - (intOf i).toNat)
 case atStart=>exact⟨0,by omega,rfl,Below.refl _ _⟩
 case round =>
  obtain⟨k,hk,rfl,hQ⟩:=hrel
  by_cases hlt:k<l.length
  ·have hcell:=hc k hlt
   have hcell':wr.cell? ⟨b,o+k,none⟩=some (.string ⟨((l.map za).getD k []).toArray⟩):=by rw[hQ.cell (p:=⟨b,o+k,none⟩) hb];exact hcell
   have hq:(l.map za).getD k []=za l[k]:=by rw[List.getD_eq_getElem?_getD,List.getElem?_map,List.getElem?_eq_getElem hlt];rfl
   rw[hq]at hcell'
   have HG:=LH (fun w hw=>zpL l[k] (HL.out _ (List.getElem_mem hlt)) w hw)
   clear hcell hc hq HL
   generalize za l[k]=S at *
   go_wp2_with fail
   refine cx (HG.out _ (hE.q hQ)) fun w2 hq2=>?_
   have hQ2:Q w w2:=Q.trans hQ hq2
   go_wp2
   go_roundw
   case rel=>exact⟨k+1,by omega,by go_num,hQ2⟩
   case measure=>simp[intOf];omega
  ·obtain rfl:k=l.length:=by omega
   go_wp2
   go_ret
   exact⟨rfl,hQ⟩
theorem zke(l:List Rat)(hl:∀ q∈l,Bd 36 q)(hn:l.length≤100)(v:Value)(w:World)(hE:Env w)(hv:zca w v (l.map za)) :
  CR 47 #[v,.func (.func 144) #[] #[]] w (.bool false):=by
 have HI:=LH (znL l hl hn v w hE hv)
 clear hl hv
 go_enter Tryz.func47,Tryz.ntmps47
 go_wp2_with fail
 refine HI.out.mono ?_
 rintro e w1⟨rfl,hq1⟩
 go_wp2
 go_ret
 exact⟨rfl,hq1⟩
theorem zo4(x y z u p q r:Value)(w:World) :
  Calls Tryz.prog 92 #[.agg #[x,y,z,u],.agg #[p,q,r]] w fun e w'=>e=.returned (.func (.func 143) #[] #[.pointer (some ⟨w.heap.size+1,0,none⟩),.pointer (some ⟨w.heap.size,0,none⟩)]) ∧
   w'=(w.alloc (.cells #[x,y,z,u] 110)).alloc (.cells #[p,q,r] 61):=by
 go_enter Tryz.func92,Tryz.ntmps92
 go_wp2
 go_ret
 exact⟨rfl,rfl⟩
def zm2(x:PlN 2):Array Value:=#[.bool true,.int .i64 (if x.1=0 then 1 else 9)]
structure NotchOk (x:Raf) (q:Rat):Prop where
 b:Bd 12 q
 p:0<q
 r:q≤x.run - x.over
theorem zpM(x:Raf)(hx:RafBd x)(q:Rat)(hq:NotchOk x q)(m:Nat)(hm:1≤m)(l Bn Bx:Nat)(J Jx:List (PlN 2)→World→Prop)(hPc:∀ pre W,J pre W→Env W)
  (hY:∀ pre y W,J pre W→zrM pre y→YieldAt Fence.wide (m - 1) Tryz.prog l (zm2 y) W fun e W' =>
   (e=.returned (.bool true)∧J (pre++[y]) W'∧zI [Bn,Bx] W W')∨(e=.returned (.bool false)∧Jx (pre++[y]) W'))
  (hJ:∀ pre W W',J pre W→Q W W'→J pre W')
  (W:World) (hBn:Blk W Bn [.string ⟨(za (x.over:Rat)).toArray⟩,.string ⟨(za q).toArray⟩,.string ⟨(za (q*x.pitch)).toArray⟩] 61) (hBx:Blk W Bx (zm7 x) 110) (h0:J [] W) :
  CallsIn Fence.wide m Tryz.prog 143 #[.func (.yield l) #[] #[],.pointer (some ⟨Bn,0,none⟩),.pointer (some ⟨Bx,0,none⟩)] W fun e W'=>(∃ v,e=.returned v) ∧
   ((∃ ys,UpN 2 ys∧J ys W')∨(∃ pre,(∃ k,k≤2∧UpN k pre)∧Jx pre W')):=by
 refine callsIn_of_wp Tryz.func143 rfl trivial ?_ rfl
 simp only[Tryz.ntmps143,List.size_toArray,List.length_cons,List.length_nil,Nat.reduceAdd,Nat.reduceSub,Array.replicate_succ,Array.replicate_zero,List.push_toArray,List.append_toArray,List.nil_append,List.cons_append]
 have hmix:Tryz.prog.follows .mixedOrders=true:=by kernel_rfl
 have bo:=hx.ov
 have bm:=hq.b.mul hx.p
 have HC:=LH (fun v W hW hv=>zke [(x.over:Rat),q,q*x.pitch] (by
  intro y hy
  simp only[List.mem_cons,List.not_mem_nil,or_false]at hy
  rcases hy with rfl | rfl | rfl
  ·exact bo.mono (by decide)
  ·exact hq.b.mono (by decide)
  ·exact bm.mono (by decide)) (by simp) v W hW hv)
 have HM:=LH (fun w hw=>zaq q x.pitch hq.b hx.p (by decide) w hw)
 have HO1:=LH (fun w hw=>zdq q 0 hq.b (zum (n:=1) (by decide)) (by decide) w hw)
 rw[znB hq.p,zav]at HO1
 have HR:=LH (fun w hw=>zhE x.dep (za x.pitch) x.run (x.over:Rat) hx.r bo (by decide) w hw)
 have HO2:=LH (fun w hw=>zdq q (x.run - x.over) hq.b (hx.r.less bo) (by decide) w hw)
 have hor:ziB q (x.run - x.over) = -1∨ziB q (x.run - x.over)=0:=by
  by_cases h:q<x.run - x.over
  ·exact .inl (zlm h)
  ·exact .inr (by rw[← Rat.le_antisymm hq.r (Rat.not_lt.1 h),zln])
 generalize ziB q (x.run - x.over)=od at *
 have hY0:=hY [] ⟨0,by decide⟩
 have hY1:=hY [⟨0,by decide⟩] ⟨1,by decide⟩
 have hp0:UpN 0 ([]:List (PlN 2)):=rfl
 have hp1:=hp0.next ⟨0,by decide⟩ rfl
 have hp2:=hp1.next ⟨1,by decide⟩ rfl
 unfold zm2 at hY0 hY1
 simp only[if_true,Nat.one_ne_zero,if_false]at hY0 hY1
 unfold zm7 at hBx
 simp only[List.map_cons,List.map_nil]at HC
 obtain⟨dp,pitch,run,over⟩:=x
 simp only at HC HM HR HO2 hBn hBx
 generalize za (q*pitch)=HE at *
 generalize za (run - (over:Rat))=RM at *
 generalize za (over:Rat)=OV at *
 generalize za pitch=PI at *
 generalize za run=HI at *
 generalize za q=SS at *
 have HY0:=LH hY0
 have HY1:=LH hY1
 clear bo bm hq hx hY hY0 hY1
 have n0:=hBn.cell
 have hEw:=hPc _ _ h0
 have T:=Blk.new W [.string ⟨OV.toArray⟩,.string ⟨SS.toArray⟩,.string ⟨HE.toArray⟩] 22
 have hqT:Q W (W.alloc (.cells ([.string ⟨OV.toArray⟩,.string ⟨SS.toArray⟩,.string ⟨HE.toArray⟩]:List Value).toArray 22)):=(Below.refl _ W).alloc (Nat.le_refl _) _
 rcases hor with rfl | rfl
 all_goals
  gi_wp2
  refine⟨trivial,?_⟩
  refine(callsIn_wide.2 (HC.out _ _ (hEw.ofQ hqT) (zca.three T))).mono ?_
  rintro e w3⟨rfl,hq3⟩
  have hqw:Q W w3:=Q.trans hqT hq3
  have hJ3:=hJ _ _ _ h0 hqw
  have hYK:=HY0.out w3 hJ3 rfl
  obtain⟨fn,tmps,assign,body,hy,hR⟩:=hYK
  gi_wp2
  refine hR.mono ?_
  rintro e W3 (⟨rfl,hJ4,hk4⟩|⟨rfl,hJx4⟩)
  ·have hkb:zI [Bn,Bx] W W3:=(zI.q hqw).trans hk4
   have hBn3:Blk W3 Bn [.string ⟨OV.toArray⟩,.string ⟨SS.toArray⟩,.string ⟨HE.toArray⟩] 61:=(hkb Bn (by simp) hBn.lt).trans hBn
   have hBx3:Blk W3 Bx [.int .i64 dp,.string ⟨PI.toArray⟩,.string ⟨HI.toArray⟩,.string ⟨OV.toArray⟩] 110:=(hkb Bx (by simp) hBx.lt).trans hBx
   have hE4:=hPc _ _ hJ4
   have a0:=hBn3.cell 0
   have a1:=hBn3.cell 1
   have a2:=hBn3.cell 2
   have b0:=hBx3.cell 0
   have b1:=hBx3.cell 1
   have b2:=hBx3.cell 2
   have b3:=hBx3.cell 3
   simp only[zs4,zs5]at a0 a1 a2 b0 b1 b2 b3
   clear n0 hR hy HY0
   gi_wp2
   refine⟨trivial,?_⟩
   refine(callsIn_wide.2 (HM.out _ hE4)).mono ?_
   rintro e w5⟨rfl,hq5⟩
   have hJ5:=hJ _ _ _ hJ4 hq5
   have hE5:=hPc _ _ hJ5
   have hEd:Env w5.drew:=hE5.ofQ (Below.drew (Q.refl w5))
   have c0:w5.drew.cell? ⟨Bn,0,none⟩=_:=ze hq5 a0
   have c1:w5.drew.cell? ⟨Bn,1,none⟩=_:=ze hq5 a1
   have c2:w5.drew.cell? ⟨Bn,2,none⟩=_:=ze hq5 a2
   have d0:w5.drew.cell? ⟨Bx,0,none⟩=_:=ze hq5 b0
   have d1:w5.drew.cell? ⟨Bx,1,none⟩=_:=ze hq5 b1
   have d2:w5.drew.cell? ⟨Bx,2,none⟩=_:=ze hq5 b2
   have d3:w5.drew.cell? ⟨Bx,3,none⟩=_:=ze hq5 b3
   clear a0 a1 a2 b0 b1 b2 b3 HM
   gi_wp2
   refine RT.zaA 26 hmix (by kernel_rfl) rfl ?_
   refine RT.svp 0 ?_
   refine RT.svp 1 ?_
   refine RT.svq 2 rfl (by intro w' hq;have hc0:=ze hq c0;go_simp;try with_reducible rfl) ?_
   refine RT.svp 3 ?_
   refine RT.svq 4 rfl (by intro w' hq;have hc0:=ze hq d3;go_simp;try with_reducible rfl) ?_
   refine RT.svp 5 ?_
   refine RT.svp 6 ?_
   refine RT.svp 7 ?_
   refine RT.svq 8 rfl (by intro w' hq;have hc0:=ze hq c1;go_simp;try with_reducible rfl) ?_
   refine RT.zf (i:=9) (v:=_) rfl rfl (by kernel_rfl) (by kernel_rfl) (fun _ _ _ h=>h) (by rfl) ?_ (fun w' hq=>HO1.out w' (hEd.ofQ hq)) ?_
   ·(intro w' hq;go_simp;try with_reducible rfl)
   simp only[Act.put,zs1,zs2,zs3]
   refine RT.svp 10 ?_
   refine RT.svp 11 ?_
   refine RT.svp 12 ?_
   refine RT.svp 13 ?_
   refine RT.svq 14 rfl (by intro w' hq;have hc0:=ze hq c1;go_simp;try with_reducible rfl) ?_
   refine RT.svq 15 rfl (by intro w' hq;have hc0:=ze hq d0;have hc1:=ze hq d1;have hc2:=ze hq d2;have hc3:=ze hq d3;go_simp;try with_reducible rfl) ?_
   refine RT.zf (i:=16) (v:=_) rfl rfl (by kernel_rfl) (by kernel_rfl) (fun _ _ _ h=>h) (by rfl) ?_ (fun w' hq=>HR.out w' (hEd.ofQ hq)) ?_
   ·(intro w' hq;go_simp;try with_reducible rfl)
   simp only[Act.put,zs1,zs2,zs3]
   refine RT.zf (i:=17) (v:=_) rfl rfl (by kernel_rfl) (by kernel_rfl) (fun _ _ _ h=>h) (by rfl) ?_ (fun w' hq=>HO2.out w' (hEd.ofQ hq)) ?_
   ·(intro w' hq;go_simp;try with_reducible rfl)
   simp only[Act.put,zs1,zs2,zs3]
   refine RT.svp 18 ?_
   refine RT.svp 19 ?_
   refine RT.svp 20 ?_
   refine RT.svp 21 ?_
   refine RT.svq 22 rfl (by intro w' hq;have hc0:=ze hq c2;go_simp;try with_reducible rfl) ?_
   refine RT.svp 23 ?_
   refine RT.svp 24 ?_
   refine RT.svp 25 ?_
   refine RT.zh (by kernel_rfl) (fun w7 hq7=>?_)
   simp only[List.drop_succ_cons,List.drop_zero]
   have hqq:Q w5 w7:=Q.trans (Below.drew (Q.refl w5)) hq7
   have hJ7:=hJ _ _ _ hJ5 hqq
   have hYK:=HY1.out w7 hJ7 rfl
   obtain⟨fn,tmps,assign,body,hy,hR⟩:=hYK
   clear c0 c1 c2 d0 d1 d2 d3 HO1 HO2 HR HC
   gi_wp2
   refine hR.mono ?_
   rintro e W9 (⟨rfl,hJ9,hk9⟩|⟨rfl,hJx9⟩)
   ·gi_wp2
    go_end0
    exact⟨⟨_,rfl⟩,.inl ⟨_,hp2,hJ9⟩⟩
   ·gi_wp2
    go_end0
    exact⟨⟨_,rfl⟩,.inr ⟨_,⟨2,by omega,hp2⟩,hJx9⟩⟩
  ·gi_wp2
   refine bodyPost_ret (results_none rfl _ _ _) rfl ?_
   exact⟨⟨_,rfl⟩,.inr ⟨_,⟨1,by omega,hp1⟩,hJx4⟩⟩
theorem znX(x:Raf)(hx:RafBd x)(q:Rat)(hq:NotchOk x q)(Bn Bx:Nat)(w:World)(m:Nat)(hm:1≤m)(hBn:Blk w Bn [.string ⟨(za (x.over:Rat)).toArray⟩,.string ⟨(za q).toArray⟩,.string ⟨(za (q*x.pitch)).toArray⟩] 61)(hBx:Blk w Bx (zm7 x) 110) :
  zfz m Tryz.prog 143 #[.pointer (some ⟨Bn,0,none⟩),.pointer (some ⟨Bx,0,none⟩)] zm2 [Bn,Bx] (fun _ W=>Env W) zrM (fun ys=>UpN 2 ys) (fun pre=>∃ k,k≤2∧UpN k pre) w:=fun l J Jx W hW hPc hst hY h0=>by
 refine(zpM x hx q hq m hm l Bn Bx J Jx hPc hY hst W (zl5 hBn hW) (zl5 hBx hW) h0).mono ?_
 rintro e W'⟨hv,⟨ys,hys,hJ⟩|⟨pre,hp,hJx⟩⟩
 ·exact⟨hv,.inl ⟨_,hys,hJ⟩⟩
 ·exact⟨hv,.inr ⟨pre,hp,hJx⟩⟩
end
end Go.Proofs.YtdecodpgdainiaaGreatDoor
