/-
  Walks of package joint: where there is no birdsmouth.; What Birdsmouth and Deepest answer of a member at its side.; Walks of package rational: the sums of a list, Sum.; Walks of package joint: the checks of a notch, notched.
-/
import Derived.Test.YtbpghkdadajomaaGreatDoorG18
import Derived.Test.YtbpghkdadajomaaGreatDoorRS
import Derived.Test.YtbpghkdadajomaaGreatDoorG17
set_option maxRecDepth 100000
set_option maxHeartbeats 4000000
namespace Go.Proofs.YtbpghkdadajomaaGreatDoor
section
open Go.RowKit Go.Shelf Kp
attribute [local go_sem] Oper.semAt_some
theorem zld(R:List (List Sd))(h:zcp R=0)(hR:R.length≤1000)(m:Mb)(hs:m.short)(hm:zoN m=0)(hk:5<m.kind)(v:Value)(p1 p2 p3:Option Addr)(l1 l2 l3 k1 k2 k3:Nat)(w:World)(hE:Env w)(hv:zfk w v R) :
  Calls Tryz.prog 31 #[.agg #[v,.slice p1 l1 k1,.slice p2 l2 k2,.slice p3 l3 k3],.agg (mbC m).toArray] w fun e w'=>e=.returned (.tuple #[.agg zr6.toArray,.int .i64 8])∧Q w w':=by
 have HS1:Hid (∀ W,Q w W→Calls Tryz.prog 25 #[.agg #[v]] W fun e w'=>∃ v',e=.returned (.tuple #[v',.int .i64 0])∧Q W w'∧zbZ 7 sdC w' v' R.flatten):=LH (fun W hq=>zhr R h hR v W (hv.keep hq))
 have HH:Hid (∀ w,Env w→Calls Tryz.prog 24 #[.agg (mbC m).toArray] w fun e w'=>e=.returned (.int .i64 0)∧Q w w'):=LH (fun w hw=>by have:=zeu m hs w hw;rw[hm]at this;exact this)
 unfold zr6
 obtain⟨a0,cap0,rfl,-⟩:=hv
 clear hm hs h hR
 generalize R.flatten=r at *
 generalize R.length=rn at *
 obtain⟨ki,fa,ot,fx,fy,fz,tx,ty,tz,wi,de⟩:=m
 simp only at hk
 unfold mbC at *
 simp only at HH ⊢
 have hkz:decide ((5:Int)<ki)=true:=by rw[decide_eq_true_eq];omega
 have BR:=((Blk.new w [.slice a0 rn cap0,.slice p1 l1 k1,.slice p2 l2 k2,.slice p3 l3 k3] 29).alloc (.cells #[.int .i64 ki,.int .i64 fa,.int .i64 ot,.string ⟨fx.toArray⟩,.string ⟨fy.toArray⟩,.string ⟨fz.toArray⟩,.string ⟨tx.toArray⟩,.string ⟨ty.toArray⟩,.string ⟨tz.toArray⟩,.int .i64 wi,.int .i64 de] 34)).alloc (.cells #[.int .i64 0,.string ⟨#[]⟩,.string ⟨#[]⟩,.string ⟨#[]⟩] 86)
 have BM:=(Blk.new1 w (.cells #[.slice a0 rn cap0,.slice p1 l1 k1,.slice p2 l2 k2,.slice p3 l3 k3] 29) [.int .i64 ki,.int .i64 fa,.int .i64 ot,.string ⟨fx.toArray⟩,.string ⟨fy.toArray⟩,.string ⟨fz.toArray⟩,.string ⟨tx.toArray⟩,.string ⟨ty.toArray⟩,.string ⟨tz.toArray⟩,.int .i64 wi,.int .i64 de] 34).alloc (.cells #[.int .i64 0,.string ⟨#[]⟩,.string ⟨#[]⟩,.string ⟨#[]⟩] 86)
 have BZ:=Blk.new2 w (.cells #[.slice a0 rn cap0,.slice p1 l1 k1,.slice p2 l2 k2,.slice p3 l3 k3] 29) (.cells #[.int .i64 ki,.int .i64 fa,.int .i64 ot,.string ⟨fx.toArray⟩,.string ⟨fy.toArray⟩,.string ⟨fz.toArray⟩,.string ⟨tx.toArray⟩,.string ⟨ty.toArray⟩,.string ⟨tz.toArray⟩,.int .i64 wi,.int .i64 de] 34) [.int .i64 0,.string ⟨#[]⟩,.string ⟨#[]⟩,.string ⟨#[]⟩] 86
 obtain⟨W0,hW0⟩:∃ W0,((w.alloc (.cells #[.slice a0 rn cap0,.slice p1 l1 k1,.slice p2 l2 k2,.slice p3 l3 k3] 29)).alloc (.cells #[.int .i64 ki,.int .i64 fa,.int .i64 ot,.string ⟨fx.toArray⟩,.string ⟨fy.toArray⟩,.string ⟨fz.toArray⟩,.string ⟨tx.toArray⟩,.string ⟨ty.toArray⟩,.string ⟨tz.toArray⟩,.int .i64 wi,.int .i64 de] 34)).alloc (.cells #[.int .i64 0,.string ⟨#[]⟩,.string ⟨#[]⟩,.string ⟨#[]⟩] 86)=W0:=⟨_,rfl⟩
 have hq0:Q w W0:=by rw[← hW0];exact bt
 have hs0:W0.heap.size=w.heap.size+3:=by rw[← hW0];simp
 have hEw:=hE.ofQ hq0
 rw[hW0]at BR BM
 have BZ:Blk W0 (w.heap.size+2) [.int .i64 0,.string ⟨#[]⟩,.string ⟨#[]⟩,.string ⟨#[]⟩] 86:=by rw[← hW0];exact BZ
 clear hE
 have hE:=hEw
 clear hEw
 have hQ0:=Q.refl W0
 replace r0:=BR.cell 0
 simp only[List.getElem?_cons_zero]at r0
 replace lBR:=BR.lt
 replace m0:=BM.cell 0
 replace m1:=BM.cell 1
 replace m2:=BM.cell 2
 replace m3:=BM.cell 3
 replace m4:=BM.cell 4
 replace m5:=BM.cell 5
 replace m6:=BM.cell 6
 replace m7:=BM.cell 7
 replace m8:=BM.cell 8
 replace m9:=BM.cell 9
 replace m10:=BM.cell 10
 simp only[zs4,zs5]at m0 m1 m2 m3 m4 m5 m6 m7 m8 m9 m10
 replace lBM:=BM.lt
 go_enter Tryz.func31,Tryz.ntmps31
 go_wp2_with fail
 clear hW0
 go_wp2_with fail
 refine(HS1.out _ hq0).mono ?_
 rintro e Y1⟨vs,rfl,hq1,hrow⟩
 have hs1:Q W0 Y1:=Q.trans bt hq1
 have hQ1:Q W0 Y1:=Q.trans hQ0 hs1
 replace BZ:=zfx BZ hs1
 replace BR:=BR.keep hs1 BR.lt
 replace r0:=BR.cell 0
 simp only[List.getElem?_cons_zero]at r0
 replace lBR:=BR.lt
 replace BM:=BM.keep hs1 BM.lt
 replace m0:=BM.cell 0
 replace m1:=BM.cell 1
 replace m2:=BM.cell 2
 replace m3:=BM.cell 3
 replace m4:=BM.cell 4
 replace m5:=BM.cell 5
 replace m6:=BM.cell 6
 replace m7:=BM.cell 7
 replace m8:=BM.cell 8
 replace m9:=BM.cell 9
 replace m10:=BM.cell 10
 simp only[zs4,zs5]at m0 m1 m2 m3 m4 m5 m6 m7 m8 m9 m10
 replace lBM:=BM.lt
 obtain⟨a,cap,rfl,-⟩:=id hrow
 clear hrow HS1
 go_wp2_with fail
 refine(HH.out _ (hE.ofQ bt)).mono ?_
 rintro e Y2⟨rfl,hq2⟩
 have hs2:Q Y1 Y2:=Q.trans bt hq2
 have hQ2:Q W0 Y2:=Q.trans hQ1 hs2
 replace BZ:=zfx BZ hs2
 replace BR:=BR.keep hs2 BR.lt
 replace r0:=BR.cell 0
 simp only[List.getElem?_cons_zero]at r0
 replace lBR:=BR.lt
 replace BM:=BM.keep hs2 BM.lt
 replace m0:=BM.cell 0
 replace m1:=BM.cell 1
 replace m2:=BM.cell 2
 replace m3:=BM.cell 3
 replace m4:=BM.cell 4
 replace m5:=BM.cell 5
 replace m6:=BM.cell 6
 replace m7:=BM.cell 7
 replace m8:=BM.cell 8
 replace m9:=BM.cell 9
 replace m10:=BM.cell 10
 simp only[zs4,zs5]at m0 m1 m2 m3 m4 m5 m6 m7 m8 m9 m10
 replace lBM:=BM.lt
 have HQz:=Q.trans hq0 hQ2
 replace BZ:=zfx BZ (Q.refl Y2)
 have z0:=BZ.cell 0
 have z1:=BZ.cell 1
 have z2:=BZ.cell 2
 have z3:=BZ.cell 3
 simp only[zs4,zs5]at z0 z1 z2 z3
 have y0:=BZ.frozen 0
 have y1:=BZ.frozen 1
 have y2:=BZ.frozen 2
 have y3:=BZ.frozen 3
 have hbz:w.heap.size≤w.heap.size+2:=by omega
 have Zf:=(((BZ.set 0 (.int .i64 0)).set 1 (.string ⟨#[]⟩)).set 2 (.string ⟨#[]⟩)).set 3 (.string ⟨#[]⟩)
 simp only[List.set_cons_zero,List.set_cons_succ]at Zf
 have hQe:=(((HQz.setCell (p:=⟨w.heap.size+2,0,none⟩) hbz (.int .i64 0)).setCell (p:=⟨w.heap.size+2,1,none⟩) hbz (.string ⟨#[]⟩)).setCell (p:=⟨w.heap.size+2,2,none⟩) hbz (.string ⟨#[]⟩)).setCell (p:=⟨w.heap.size+2,3,none⟩) hbz (.string ⟨#[]⟩)
 have hbe:w.heap.size+1+1=w.heap.size+2:=rfl
 clear HH
 go_wp2_with (exact bodyPost_ret (zel Zf Tryz.f31 rfl _ rfl rfl) rfl ⟨rfl,hQe⟩)
def OfE(w:World)(ro:Ro)(m:Mb)(E:Int):Prop:=∀ W,Env W→Q w W→Calls Tryz.prog 31 #[.agg (roC ro).toArray,.agg (mbC m).toArray] W fun e w'=>e=.returned (.tuple #[.agg zr6.toArray,.int .i64 E])∧Q W w'
theorem zf4(ro:Ro)(m:Mb)(E s:Int)(h0:E≠0)(w:World)(hE:Env w)(hof:OfE w ro m E) :
  Calls Tryz.prog 7 #[.agg (roC ro).toArray,.agg (mbC m).toArray,.int .i64 s] w fun e w'=>e=.returned (.tuple #[.agg #[.string ⟨#[]⟩,.string ⟨#[]⟩,.string ⟨#[]⟩],.int .i64 E])∧Q w w':=by
 have HO:=LH hof
 clear hof
 have hb:(E == 0)=false:=by rw[beq_eq_false_iff_ne];exact h0
 unfold OfE roC Sl3.v mbC zr6 at HO
 unfold roC Sl3.v mbC
 obtain⟨⟨a0,n0,c0⟩,⟨a1,n1,c1⟩,⟨a2,n2,c2⟩,⟨a3,n3,c3⟩⟩:=ro
 obtain⟨ki,fa,ot,fx,fy,fz,tx,ty,tz,wi,de⟩:=m
 simp only at HO ⊢
 have BR:=((Blk.new w [.slice a0 n0 c0,.slice a1 n1 c1,.slice a2 n2 c2,.slice a3 n3 c3] 29).alloc (.cells #[.int .i64 ki,.int .i64 fa,.int .i64 ot,.string ⟨fx.toArray⟩,.string ⟨fy.toArray⟩,.string ⟨fz.toArray⟩,.string ⟨tx.toArray⟩,.string ⟨ty.toArray⟩,.string ⟨tz.toArray⟩,.int .i64 wi,.int .i64 de] 34)).alloc (.cells #[.string ⟨#[]⟩,.string ⟨#[]⟩,.string ⟨#[]⟩] 41)
 have BM:=(Blk.new1 w (.cells #[.slice a0 n0 c0,.slice a1 n1 c1,.slice a2 n2 c2,.slice a3 n3 c3] 29) [.int .i64 ki,.int .i64 fa,.int .i64 ot,.string ⟨fx.toArray⟩,.string ⟨fy.toArray⟩,.string ⟨fz.toArray⟩,.string ⟨tx.toArray⟩,.string ⟨ty.toArray⟩,.string ⟨tz.toArray⟩,.int .i64 wi,.int .i64 de] 34).alloc (.cells #[.string ⟨#[]⟩,.string ⟨#[]⟩,.string ⟨#[]⟩] 41)
 have BZ:=Blk.new2 w (.cells #[.slice a0 n0 c0,.slice a1 n1 c1,.slice a2 n2 c2,.slice a3 n3 c3] 29) (.cells #[.int .i64 ki,.int .i64 fa,.int .i64 ot,.string ⟨fx.toArray⟩,.string ⟨fy.toArray⟩,.string ⟨fz.toArray⟩,.string ⟨tx.toArray⟩,.string ⟨ty.toArray⟩,.string ⟨tz.toArray⟩,.int .i64 wi,.int .i64 de] 34) [.string ⟨#[]⟩,.string ⟨#[]⟩,.string ⟨#[]⟩] 41
 obtain⟨W0,hW0⟩:∃ W0,((w.alloc (.cells #[.slice a0 n0 c0,.slice a1 n1 c1,.slice a2 n2 c2,.slice a3 n3 c3] 29)).alloc (.cells #[.int .i64 ki,.int .i64 fa,.int .i64 ot,.string ⟨fx.toArray⟩,.string ⟨fy.toArray⟩,.string ⟨fz.toArray⟩,.string ⟨tx.toArray⟩,.string ⟨ty.toArray⟩,.string ⟨tz.toArray⟩,.int .i64 wi,.int .i64 de] 34)).alloc (.cells #[.string ⟨#[]⟩,.string ⟨#[]⟩,.string ⟨#[]⟩] 41)=W0:=⟨_,rfl⟩
 have hq0:Q w W0:=by rw[← hW0];exact bt
 have hs0:W0.heap.size=w.heap.size+3:=by rw[← hW0];simp
 have hEw:=hE.ofQ hq0
 rw[hW0]at BR BM
 have BZ:Blk W0 (w.heap.size+2) [.string ⟨#[]⟩,.string ⟨#[]⟩,.string ⟨#[]⟩] 41:=by rw[← hW0];exact BZ
 clear hE
 have hE:=hEw
 clear hEw
 have hQ0:=Q.refl W0
 replace r0:=BR.cell 0
 replace r1:=BR.cell 1
 replace r2:=BR.cell 2
 replace r3:=BR.cell 3
 simp only[zs4,zs5]at r0 r1 r2 r3
 replace lBR:=BR.lt
 replace m0:=BM.cell 0
 replace m1:=BM.cell 1
 replace m2:=BM.cell 2
 replace m3:=BM.cell 3
 replace m4:=BM.cell 4
 replace m5:=BM.cell 5
 replace m6:=BM.cell 6
 replace m7:=BM.cell 7
 replace m8:=BM.cell 8
 replace m9:=BM.cell 9
 replace m10:=BM.cell 10
 simp only[zs4,zs5]at m0 m1 m2 m3 m4 m5 m6 m7 m8 m9 m10
 replace lBM:=BM.lt
 go_enter Tryz.func7,Tryz.ntmps7
 go_wp2_with fail
 clear hW0
 refine(HO.out _ hE hq0).mono ?_
 rintro e Y1⟨rfl,hq1⟩
 have hQ1:Q w Y1:=Q.trans hq0 hq1
 replace BZ:=zfx BZ hq1
 have hqW:Q Y1 (Y1.alloc (.cells #[.int .i64 0,.string ⟨#[]⟩,.string ⟨#[]⟩,.string ⟨#[]⟩] 86)):=(Below.refl _ Y1).alloc (Nat.le_refl _) _
 have hwW:=Q.trans hQ1 hqW
 replace BZ:=zfx BZ hqW
 clear hE HO BR BM r0 r1 r2 r3 m0 m1 m2 m3 m4 m5 m6 m7 m8 m9 m10 lBR lBM
 have z0:=BZ.cell 0
 have z1:=BZ.cell 1
 have z2:=BZ.cell 2
 simp only[zs4,zs5]at z0 z1 z2
 have g0:=BZ.frozen 0
 have g1:=BZ.frozen 1
 have g2:=BZ.frozen 2
 have hbz:w.heap.size≤w.heap.size+2:=by omega
 have Zf:=((BZ.set 0 (.string ⟨#[]⟩)).set 1 (.string ⟨#[]⟩)).set 2 (.string ⟨#[]⟩)
 simp only[List.set_cons_zero,List.set_cons_succ]at Zf
 have hQe:=((hwW.setCell (p:=⟨w.heap.size+2,0,none⟩) hbz (.string ⟨#[]⟩)).setCell (p:=⟨w.heap.size+2,1,none⟩) hbz (.string ⟨#[]⟩)).setCell (p:=⟨w.heap.size+2,2,none⟩) hbz (.string ⟨#[]⟩)
 go_wp2_with (exact bodyPost_ret (zem Zf Tryz.f7 rfl _ rfl rfl) rfl ⟨rfl,hQe⟩)
theorem zfz(ro:Ro)(m:Mb)(x:Raf)(hx:RafBd x)(s:Int)(s1:1≤s)(s2:s≤1000)(hs:x.run - x.over<(s:Rat))(w:World)(hE:Env w)(hof:OfC w ro m x) :
  Calls Tryz.prog 7 #[.agg (roC ro).toArray,.agg (mbC m).toArray,.int .i64 s] w fun e w'=>e=.returned (.tuple #[.agg #[.string ⟨#[]⟩,.string ⟨#[]⟩,.string ⟨#[]⟩],.int .i64 20])∧Q w w':=by
 have bs:Bd 4 (s:Rat):=zdO (by omega) (by decide)
 have bo:=hx.ov
 have HO:=LH hof
 have HW:=LH (fun w hw=>zdv s (by omega) w hw)
 have HR:=LH (fun w hw=>zfr x.dep (ze x.pitch) x.run (x.over:Rat) hx.r bo (by decide) w hw)
 have HD:=LH (fun w hw=>zcD (s:Rat) (x.run - x.over) bs (hx.r.less bo) (by decide) w hw)
 rw[zkY hs]at HD
 clear bs bo hx hs hof
 unfold OfC roC Sl3.v mbC zlR at HO
 unfold roC Sl3.v mbC
 obtain⟨⟨a0,n0,c0⟩,⟨a1,n1,c1⟩,⟨a2,n2,c2⟩,⟨a3,n3,c3⟩⟩:=ro
 obtain⟨ki,fa,ot,fx,fy,fz,tx,ty,tz,wi,de⟩:=m
 obtain⟨dp,pitch,run,over⟩:=x
 simp only at HO ⊢
 generalize ze (run - (over:Rat))=RM at *
 generalize ze (s:Rat)=SS at *
 generalize ze (over:Rat)=OV at *
 generalize ze pitch=PI at *
 generalize ze run=HI at *
 have e1:decide (s<1)=false:=by rw[decide_eq_false_iff_not];omega
 have e2:decide ((1000:Int)<s)=false:=by rw[decide_eq_false_iff_not];omega
 have BR:=((Blk.new w [.slice a0 n0 c0,.slice a1 n1 c1,.slice a2 n2 c2,.slice a3 n3 c3] 29).alloc (.cells #[.int .i64 ki,.int .i64 fa,.int .i64 ot,.string ⟨fx.toArray⟩,.string ⟨fy.toArray⟩,.string ⟨fz.toArray⟩,.string ⟨tx.toArray⟩,.string ⟨ty.toArray⟩,.string ⟨tz.toArray⟩,.int .i64 wi,.int .i64 de] 34)).alloc (.cells #[.string ⟨#[]⟩,.string ⟨#[]⟩,.string ⟨#[]⟩] 41)
 have BM:=(Blk.new1 w (.cells #[.slice a0 n0 c0,.slice a1 n1 c1,.slice a2 n2 c2,.slice a3 n3 c3] 29) [.int .i64 ki,.int .i64 fa,.int .i64 ot,.string ⟨fx.toArray⟩,.string ⟨fy.toArray⟩,.string ⟨fz.toArray⟩,.string ⟨tx.toArray⟩,.string ⟨ty.toArray⟩,.string ⟨tz.toArray⟩,.int .i64 wi,.int .i64 de] 34).alloc (.cells #[.string ⟨#[]⟩,.string ⟨#[]⟩,.string ⟨#[]⟩] 41)
 have BZ:=Blk.new2 w (.cells #[.slice a0 n0 c0,.slice a1 n1 c1,.slice a2 n2 c2,.slice a3 n3 c3] 29) (.cells #[.int .i64 ki,.int .i64 fa,.int .i64 ot,.string ⟨fx.toArray⟩,.string ⟨fy.toArray⟩,.string ⟨fz.toArray⟩,.string ⟨tx.toArray⟩,.string ⟨ty.toArray⟩,.string ⟨tz.toArray⟩,.int .i64 wi,.int .i64 de] 34) [.string ⟨#[]⟩,.string ⟨#[]⟩,.string ⟨#[]⟩] 41
 obtain⟨W0,hW0⟩:∃ W0,((w.alloc (.cells #[.slice a0 n0 c0,.slice a1 n1 c1,.slice a2 n2 c2,.slice a3 n3 c3] 29)).alloc (.cells #[.int .i64 ki,.int .i64 fa,.int .i64 ot,.string ⟨fx.toArray⟩,.string ⟨fy.toArray⟩,.string ⟨fz.toArray⟩,.string ⟨tx.toArray⟩,.string ⟨ty.toArray⟩,.string ⟨tz.toArray⟩,.int .i64 wi,.int .i64 de] 34)).alloc (.cells #[.string ⟨#[]⟩,.string ⟨#[]⟩,.string ⟨#[]⟩] 41)=W0:=⟨_,rfl⟩
 have hq0:Q w W0:=by rw[← hW0];exact bt
 have hs0:W0.heap.size=w.heap.size+3:=by rw[← hW0];simp
 have hEw:=hE.ofQ hq0
 rw[hW0]at BR BM
 have BZ:Blk W0 (w.heap.size+2) [.string ⟨#[]⟩,.string ⟨#[]⟩,.string ⟨#[]⟩] 41:=by rw[← hW0];exact BZ
 clear hE
 have hE:=hEw
 clear hEw
 have hQ0:=Q.refl W0
 replace r0:=BR.cell 0
 replace r1:=BR.cell 1
 replace r2:=BR.cell 2
 replace r3:=BR.cell 3
 simp only[zs4,zs5]at r0 r1 r2 r3
 replace lBR:=BR.lt
 replace m0:=BM.cell 0
 replace m1:=BM.cell 1
 replace m2:=BM.cell 2
 replace m3:=BM.cell 3
 replace m4:=BM.cell 4
 replace m5:=BM.cell 5
 replace m6:=BM.cell 6
 replace m7:=BM.cell 7
 replace m8:=BM.cell 8
 replace m9:=BM.cell 9
 replace m10:=BM.cell 10
 simp only[zs4,zs5]at m0 m1 m2 m3 m4 m5 m6 m7 m8 m9 m10
 replace lBM:=BM.lt
 go_enter Tryz.func7,Tryz.ntmps7
 go_wp2_with fail
 clear hW0
 refine(HO.out _ hE hq0).mono ?_
 rintro e Y1⟨rfl,hq1⟩
 have hQ1:Q w Y1:=Q.trans hq0 hq1
 replace BZ:=zfx BZ hq1
 have X:=Blk.new Y1 [.int .i64 dp,.string ⟨PI.toArray⟩,.string ⟨HI.toArray⟩,.string ⟨OV.toArray⟩] 86
 obtain⟨W2,hW2⟩:∃ W2,Y1.alloc (.cells #[.int .i64 dp,.string ⟨PI.toArray⟩,.string ⟨HI.toArray⟩,.string ⟨OV.toArray⟩] 86)=W2:=⟨_,rfl⟩
 have X:Blk W2 Y1.heap.size [.int .i64 dp,.string ⟨PI.toArray⟩,.string ⟨HI.toArray⟩,.string ⟨OV.toArray⟩] 86:=by rw[← hW2];exact X
 have hqW:Q Y1 W2:=by rw[← hW2];exact bt
 have hE2:=hE.ofQ (Q.trans hq1 hqW)
 have hwW:Q w W2:=Q.trans hQ1 hqW
 replace BZ:=zfx BZ hqW
 have x0:=X.cell 0
 have x1:=X.cell 1
 have x2:=X.cell 2
 have x3:=X.cell 3
 simp only[zs4,zs5]at x0 x1 x2 x3
 clear hE HO BR BM r0 r1 r2 r3 m0 m1 m2 m3 m4 m5 m6 m7 m8 m9 m10 lBR lBM
 have hE:=hE2
 clear hE2
 go_wp2_with fail
 clear hW2
 have hEd:Env W2.drew:=hE.ofQ (Below.drew (Q.refl W2))
 refine zm 7 rfl (by kernel_rfl) rfl ?_
 refine svp 0 ?_
 refine zf (i:=1) (v:=_) rfl rfl (by kernel_rfl) (by kernel_rfl) (fun _ _ _ h=>h) (by rfl) ?_ (fun w' hq=>HW.out w' (hEd.ofQ hq)) ?_
 ·(intro w' hq;go_simp;try with_reducible rfl)
 simp only[Act.put,zs1,zs2,zs3]
 refine svq 2 rfl (by intro w' hq;have hc0:=za hq x0;have hc1:=za hq x1;have hc2:=za hq x2;have hc3:=za hq x3;go_simp;try with_reducible rfl) ?_
 refine zf (i:=3) (v:=_) rfl rfl (by kernel_rfl) (by kernel_rfl) (fun _ _ _ h=>h) (by rfl) ?_ (fun w' hq=>HR.out w' (hEd.ofQ hq)) ?_
 ·(intro w' hq;go_simp;try with_reducible rfl)
 simp only[Act.put,zs1,zs2,zs3]
 refine zf (i:=4) (v:=_) rfl rfl (by kernel_rfl) (by kernel_rfl) (fun _ _ _ h=>h) (by rfl) ?_ (fun w' hq=>HD.out w' (hEd.ofQ hq)) ?_
 ·(intro w' hq;go_simp;try with_reducible rfl)
 simp only[Act.put,zs1,zs2,zs3]
 refine svp 5 ?_
 refine svp 6 ?_
 refine zh (by kernel_rfl) (fun w3 hq3=>?_)
 simp only[List.drop_succ_cons,List.drop_nil]
 have hqa:Q W2 w3:=Q.trans (Below.drew (Q.refl W2)) hq3
 replace BZ:=zfx BZ hqa
 have z0:=BZ.cell 0
 have z1:=BZ.cell 1
 have z2:=BZ.cell 2
 simp only[zs4,zs5]at z0 z1 z2
 have g0:=BZ.frozen 0
 have g1:=BZ.frozen 1
 have g2:=BZ.frozen 2
 have hbz:w.heap.size≤w.heap.size+2:=by omega
 have Zf:=((BZ.set 0 (.string ⟨#[]⟩)).set 1 (.string ⟨#[]⟩)).set 2 (.string ⟨#[]⟩)
 simp only[List.set_cons_zero,List.set_cons_succ]at Zf
 have hQe:=(((Q.trans hwW hqa).setCell (p:=⟨w.heap.size+2,0,none⟩) hbz (.string ⟨#[]⟩)).setCell (p:=⟨w.heap.size+2,1,none⟩) hbz (.string ⟨#[]⟩)).setCell (p:=⟨w.heap.size+2,2,none⟩) hbz (.string ⟨#[]⟩)
 clear hq3 HR HD hEd HW x0 x1 x2 x3 X
 go_wp2_with (exact bodyPost_ret (zem Zf Tryz.f7 rfl _ rfl rfl) rfl ⟨rfl,hQe⟩)
end
section
open Go.RowKit Go.Shelf Kp
attribute [local go_sem] Oper.semAt_some
def noE(R:List (List Sd))(m:Mb):Int:=if 5<m.kind then 8 else ofE R m
theorem SideOk.rg{R:List (List Sd)}{m:Mb}{n:Nat}{s:Sd}{X Y:Str}(h:SideOk R m n s X Y):Rgd s:=by
 rw[h.side]
 exact(zfo h.plan).rg _ (zio h.pre.lt)
theorem SideOk.ng{R:List (List Sd)}{m:Mb}{n:Nat}{s:Sd}{X Y:Str}(h:SideOk R m n s X Y):s.gable=false:=by
 rw[h.side]
 exact h.pre.gable
theorem SideOk.face{R:List (List Sd)}{m:Mb}{n:Nat}{s:Sd}{X Y:Str}(h:SideOk R m n s X Y):zil R m=s:=by
 rw[h.side]
 exact zlq h.pre.face
theorem SideOk.runs{R:List (List Sd)}{m:Mb}{n:Nat}{s:Sd}{X Y:Str}(h:SideOk R m n s X Y):Bd 37 (zdW R m)∧Bd 37 (zmx R m):=by
 have okm:=zlm h.pre.hip
 have hfl:n<(zaS R).length:=by rw[zew];exact h.pre.lt
 have okF:=zhJ (zfo h.plan).rg _ (List.getElem_mem hfl)
 have hFF:znd R m=(zaS R)[n]:=by
  unfold znd
  rw[h.pre.face,List.getD_eq_getElem?_getD]
  simp[hfl]
 have b1:=okm.bf h.short
 have b2:=okm.bt h.short
 unfold zdW zmx
 rw[hFF]
 exact⟨zlr okF b2.1 b2.2.1,zlr okF b1.1 b1.2.1⟩
theorem SideOk.bd{R:List (List Sd)}{m:Mb}{n:Nat}{s:Sd}{X Y:Str}(h:SideOk R m n s X Y):RafBd (zaz R m):=by
 have okm:=zlm h.pre.hip
 have hr:=h.rg
 have h1:=hr.n h.ng
 have ho:=hr.o0
 have ho1:=hr.o1
 obtain⟨k,hk⟩:=Int.eq_ofNat_of_zero_le (show 0≤s.run by omega)
 unfold zaz
 rw[h.face,hk]
 refine⟨okm.d1,okm.d2,zb5 (by omega) (by omega) (by omega),zby (by omega) (by omega),h.runs.1,?_⟩
 show s.over.natAbs<10 ^ 5
 omega
theorem SideOk.ofC{R:List (List Sd)}{m:Mb}{n:Nat}{s:Sd}{X Y:Str}(h:SideOk R m n s X Y)(h0:noE R m=0)(ro:Ro)(w:World)(hv:zfk w ro.p.v R):OfC w ro m (zaz R m):=fun W hW hq=>by
 unfold noE at h0
 by_cases hk:5<m.kind
 ·rw[if_pos hk]at h0;exact absurd h0 (by decide)
 rw[if_neg hk]at h0
 obtain⟨⟨a0,n0,c0⟩,⟨a1,n1,c1⟩,⟨a2,n2,c2⟩,⟨a3,n3,c3⟩⟩:=ro
 have:=zle R h.plan h.few m h.short n h.pre (by omega) (.slice a0 n0 c0) a1 a2 a3 n1 n2 n3 c1 c2 c3 W hW (hv.keep hq)
 unfold ofV at this
 rw[h0,if_pos rfl]at this
 exact this
theorem SideOk.ofE{R:List (List Sd)}{m:Mb}{n:Nat}{s:Sd}{X Y:Str}(h:SideOk R m n s X Y)(h0:noE R m≠0)(ro:Ro)(w:World)(hv:zfk w ro.p.v R):OfE w ro m (noE R m):=fun W hW hq=>by
 obtain⟨⟨a0,n0,c0⟩,⟨a1,n1,c1⟩,⟨a2,n2,c2⟩,⟨a3,n3,c3⟩⟩:=ro
 unfold noE at *
 by_cases hk:5<m.kind
 ·rw[if_pos hk]
  exact zld R h.plan h.few m h.short h.pre.hip hk (.slice a0 n0 c0) a1 a2 a3 n1 n2 n3 c1 c2 c3 W hW (hv.keep hq)
 ·rw[if_neg hk]at h0 ⊢
  have:=zle R h.plan h.few m h.short n h.pre (by omega) (.slice a0 n0 c0) a1 a2 a3 n1 n2 n3 c1 c2 c3 W hW (hv.keep hq)
  unfold ofV at this
  rw[if_neg h0]at this
  exact this
def zgc(R:List (List Sd))(m:Mb)(q:Int):Int:=if noE R m≠0 then noE R m else if (zaz R m).run - ((zaz R m).over:Rat)<(q:Rat)then 20 else 0
def zrV(R:List (List Sd))(m:Mb)(q:Int):List Value:=if zgc R m q=0 then [.string ⟨(ze ((zaz R m).over:Rat)).toArray⟩,.string ⟨(ze (q:Rat)).toArray⟩,.string ⟨(ze ((q:Rat)*(zaz R m).pitch)).toArray⟩]else [.string ⟨#[]⟩,.string ⟨#[]⟩,.string ⟨#[]⟩]
theorem zqZ{R:List (List Sd)}{m:Mb}{n:Nat}{s:Sd}{X Y:Str}(h:SideOk R m n s X Y)(q:Int)(q1:1≤q)(q2:q≤1000)(ro:Ro)(w:World)(hE:Env w)(hv:zfk w ro.p.v R) :
  Calls Tryz.prog 7 #[.agg (roC ro).toArray,.agg (mbC m).toArray,.int .i64 q] w fun e w'=>e=.returned (.tuple #[.agg (zrV R m q).toArray,.int .i64 (zgc R m q)])∧Q w w':=by
 unfold zrV zgc
 by_cases h0:noE R m=0
 ·have hc:=h.ofC h0 ro w hv
  by_cases hr:(zaz R m).run - ((zaz R m).over:Rat)<(q:Rat)
  ·simp only[h0,hr,if_true,ne_eq,not_true,if_false]
   rw[if_neg (by decide)]
   exact zfz ro m (zaz R m) h.bd q q1 q2 hr w hE hc
  ·simp only[h0,hr,if_true,ne_eq,not_true,if_false]
   exact zeE ro m (zaz R m) h.bd q q1 q2 (Rat.not_lt.1 hr) w hE hc
 ·have hc:=h.ofE h0 ro w hv
  simp only[h0,ne_eq,not_false_eq_true,if_true,if_false]
  exact zf4 ro m (noE R m) q h0 w hE hc
theorem zoL{R:List (List Sd)}{m:Mb}{q:Int}(h:zgc R m q=0):noE R m=0∧(q:Rat)≤(zaz R m).run - ((zaz R m).over:Rat):=by
 unfold zgc at h
 by_cases h0:noE R m=0
 ·rw[if_neg (by simpa using h0)]at h
  split at h
  ·exact absurd h (by decide)
  ·next hr=>exact⟨h0,Rat.not_lt.1 hr⟩
 ·rw[if_pos h0]at h
  exact absurd h h0
end
section
open Go.RowKit Go.Shelf Kp
attribute [local go_sem] Oper.semAt_some
theorem zsw{n:Nat}(h:0<n):Bd n (0:Rat):=⟨Nat.pow_pos (by decide),Nat.one_lt_pow (by omega) (by decide)⟩
section
variable {P:Program} {g:Operand} {ps:Array Tmp} {assign body:Code} {R:Exit→Act→World→Prop} {a:Act} {w:World} {m gf N:Nat} {lb:Array Value} {bs:List Nat}
theorem zgh(Pc:World→Prop)(hm:1≤m)(hg:a.eval g=.func (.func gf) #[] lb)(eg:∀ args w,(callFunc gf args).run P w=.ok (.enter gf args) w)
  {encs:PlN N→Array Value}(hseq:zfw (m - 1) P gf lb encs bs (fun _ W=>Pc W) zql (fun ys=>UpN N ys) (fun pre=>∃ k,k≤N∧UpN k pre) w)(hbs:∀ k∈bs,k<w.heap.size)(hps:∀ x,(encs x).size=ps.size)
  (I:Nat→World→Prop)(Ix:Code→World→Prop)(hPc:∀ k W,I k W→Pc W)(hI:∀ k W W',I k W→KC W W'→Below w.heap.size W W'→I k W')(hIx:∀ c W W',Ix c W→KC W W'→Below w.heap.size W W'→Ix c W')(h0:I 0 w)(AS:PlN N→Act→World→Prop)(hAS:∀ x a1 W W',AS x a1 W→KC W W'→AS x a1 W')
  (hassign:∀ (l:Nat) (x:PlN N) (W:World) (K:Act→World→Prop),w.heap.size≤W.heap.size→(∀ a1 W',Q W W'→AS x a1 W'→K a1 W') →
   assign.wpIn (Fence.wide.inRound l) (m - 1 - 1) P (Exit.then K (fun _ _ _=>False)) { tmps:=(ps.zip (encs x)).foldl (fun t (p,v)=>t.setIfInBounds p v) a.tmps,defers:=[] } W)
  (hbody:∀ (l k:Nat) (hk:k<N) (a1:Act) (W:World),I k W→AS ⟨k,hk⟩ a1 W→body.wpIn (Fence.wide.inRound l) (m - 1 - 1) P (roundUp w.heap.size bs I Ix (k+1) W) a1 W)
  (hdone:∀ (D:Nat) (W:World),w.heap.size≤D→I N W→W.heap[D]? = some (.deferred (some []))→R .normal { a with defers:={ target:=.collected D,args:=#[] }::a.defers } W)
  (hstop:∀ (D:Nat) (c:Code) (W:World),w.heap.size≤D→Ix c W→W.heap[D]? = some (.deferred (some []))→c.wpIn Fence.wide m P R { a with defers:={ target:=.collected D,args:=#[] }::a.defers } W) :
  (Code.rangeFunc g ps assign body).wpIn Fence.wide m P R a w:=by
 refine zc3 hm hg eg hseq hbs hps (fun pre W=>I pre.length W) (fun c _ W=>Ix c W) (fun _ W h=>hPc _ W h) (fun pre W W' h k hb=>hI _ W W' h k hb) (fun c _ W W' h k hb=>hIx c W W' h k hb) h0 AS hAS hassign ?_ ?_ ?_
 ·intro l pre x a1 W hi hx hs
  obtain⟨k,hk⟩:=x
  have e:pre.length=k:=hx.symm
  subst e
  refine wpIn_mono (hbody l pre.length hk a1 W hi hs) ?_
  intro e a3 W3 hp
  cases e with
  | normal=>exact⟨hp.1,hp.2.1,by
   show I (pre++[_]).length W3
   rw[List.length_append,List.length_singleton];exact hp.2.2⟩
  | ret=>exact hp
  | exit id=>exact hp
  | goto t=>exact hp
  | panic ch=>exact hp
  | outgrown=>exact hp
 ·intro D xs W hD hS hi hk
  exact hdone D W hD (by rw[hS.len]at hi;exact hi) hk
 ·intro D c pre W hD hSp hi hk
  exact hstop D c W hD hi hk
end
end
section
open Go.RowKit Go.Shelf Kp
attribute [local go_sem] Oper.semAt_some
theorem zoI(q:Rat)(h:Bd 36 q)(w:World)(hE:Env w) :
  Calls Tryz.prog 136 #[.string ⟨(ze q).toArray⟩] w fun e w'=>e=.returned (.bool false)∧Q w w':=by
 have HO:=LH (fun w hw=>zm3 q h w hw)
 generalize ze q=S at *
 clear h
 go_enter Tryz.func136,Tryz.ntmps136
 have hQ0:=Q.refl w
 go_wp2_with fail
 refine(HO.out _ (hE.ofQ bt)).mono ?_
 rintro e w1⟨rfl,hq1⟩
 have hs1:Q w w1:=Q.trans bt hq1
 have hQ1:Q w w1:=Q.trans hQ0 hs1
 go_wp2
 go_ret
 exact⟨rfl,hQ1⟩
theorem zm7(l:List Rat)(hl:∀ q∈l,Bd 36 q)(hn:l.length≤100)(v:Value)(w:World)(hE:Env w)(hv:zdh w v (l.map ze)) :
  Calls Tryz.prog 176 #[v,.func (.func 136) #[] #[]] w fun e w'=>e=.returned (.int .i64 (-1))∧Q w w':=by
 obtain⟨b,o,cap,rfl,hb,hc⟩:=hv
 rw[List.length_map]at hc
 rw[List.length_map]
 have HL:=LH hl
 clear hl
 go_enter Tryz.func176,Tryz.ntmps176
 go_wp2
 go_loopw [8] (fun i wr=>∃ k:Nat,k≤l.length∧i=.int .i64 k∧Q w wr) (fun i _=>l.length - (intOf i).toNat)
 case atStart=>exact⟨0,by omega,rfl,Below.refl _ _⟩
 case round =>
  obtain⟨k,hk,rfl,hQ⟩:=hrel
  by_cases hlt:k<l.length
  ·have hcell:=hc k hlt
   have hcell':wr.cell? ⟨b,o+k,none⟩=some (.string ⟨((l.map ze).getD k []).toArray⟩):=by rw[hQ.cell (p:=⟨b,o+k,none⟩) hb];exact hcell
   have hq:(l.map ze).getD k []=ze l[k]:=by rw[List.getD_eq_getElem?_getD,List.getElem?_map,List.getElem?_eq_getElem hlt];rfl
   rw[hq]at hcell'
   have HG:=LH (fun w hw=>zoI l[k] (HL.out _ (List.getElem_mem hlt)) w hw)
   clear hcell hc hq HL
   generalize ze l[k]=S at *
   go_wp2_with fail
   refine(HG.out _ (hE.q hQ)).mono ?_
   rintro e w2⟨rfl,hq2⟩
   have hQ2:Q w w2:=Q.trans hQ hq2
   go_wp2
   go_roundw
   case rel=>exact⟨k+1,by omega,by go_num,hQ2⟩
   case measure=>simp[intOf];omega
  ·obtain rfl:k=l.length:=by omega
   go_wp2
   go_ret
   exact⟨rfl,hQ⟩
theorem zjT(l:List Rat)(hl:∀ q∈l,Bd 36 q)(hn:l.length≤100)(v:Value)(w:World)(hE:Env w)(hv:zdh w v (l.map ze)) :
  Calls Tryz.prog 120 #[v,.func (.func 136) #[] #[]] w fun e w'=>e=.returned (.bool false)∧Q w w':=by
 have HI:=LH (zm7 l hl hn v w hE hv)
 clear hl hv
 go_enter Tryz.func120,Tryz.ntmps120
 go_wp2_with fail
 refine HI.out.mono ?_
 rintro e w1⟨rfl,hq1⟩
 go_wp2
 go_ret
 exact⟨rfl,hq1⟩
theorem zn6(x y z u p q r:Value)(w:World) :
  Calls Tryz.prog 76 #[.agg #[x,y,z,u],.agg #[p,q,r]] w fun e w'=>e=.returned (.func (.func 135) #[] #[.pointer (some ⟨w.heap.size+1,0,none⟩),.pointer (some ⟨w.heap.size,0,none⟩)]) ∧
   w'=(w.alloc (.cells #[x,y,z,u] 86)).alloc (.cells #[p,q,r] 41):=by
 go_enter Tryz.func76,Tryz.ntmps76
 go_wp2
 go_ret
 exact⟨rfl,rfl⟩
def zmt(x:PlN 2):Array Value:=#[.bool true,.int .i64 (if x.1=0 then 1 else 9)]
structure NotchOk (x:Raf) (q:Rat):Prop where
 b:Bd 12 q
 p:0<q
 r:q≤x.run - x.over
theorem zoJ(x:Raf)(hx:RafBd x)(q:Rat)(hq:NotchOk x q)(m:Nat)(hm:1≤m)(l Bn Bx:Nat)(J Jx:List (PlN 2)→World→Prop)(hPc:∀ pre W,J pre W→Env W)
  (hY:∀ pre y W,J pre W→zql pre y→YieldAt Fence.wide (m - 1) Tryz.prog l (zmt y) W fun e W' =>
   (e=.returned (.bool true)∧J (pre++[y]) W'∧zI [Bn,Bx] W W')∨(e=.returned (.bool false)∧Jx (pre++[y]) W'))
  (hJ:∀ pre W W',J pre W→Q W W'→J pre W')
  (W:World) (hBn:Blk W Bn [.string ⟨(ze (x.over:Rat)).toArray⟩,.string ⟨(ze q).toArray⟩,.string ⟨(ze (q*x.pitch)).toArray⟩] 41) (hBx:Blk W Bx (zlR x) 86) (h0:J [] W) :
  CallsIn Fence.wide m Tryz.prog 135 #[.func (.yield l) #[] #[],.pointer (some ⟨Bn,0,none⟩),.pointer (some ⟨Bx,0,none⟩)] W fun e W'=>(∃ v,e=.returned v) ∧
   ((∃ ys,UpN 2 ys∧J ys W')∨(∃ pre,(∃ k,k≤2∧UpN k pre)∧Jx pre W')):=by
 refine callsIn_of_wp Tryz.func135 rfl trivial ?_ rfl
 simp only[Tryz.ntmps135,List.size_toArray,List.length_cons,List.length_nil,Nat.reduceAdd,Nat.reduceSub,Array.replicate_succ,Array.replicate_zero,List.push_toArray,List.append_toArray,List.nil_append,List.cons_append]
 have hmix:Tryz.prog.follows .mixedOrders=true:=by kernel_rfl
 have bo:=hx.ov
 have bm:=hq.b.mul hx.p
 have HC:=LH (fun v W hW hv=>zjT [(x.over:Rat),q,q*x.pitch] (by
  intro y hy
  simp only[List.mem_cons,List.not_mem_nil,or_false]at hy
  rcases hy with rfl | rfl | rfl
  ·exact bo.mono (by decide)
  ·exact hq.b.mono (by decide)
  ·exact bm.mono (by decide)) (by simp) v W hW hv)
 have HM:=LH (fun w hw=>zai q x.pitch hq.b hx.p (by decide) w hw)
 have HO1:=LH (fun w hw=>zcD q 0 hq.b (zsw (n:=1) (by decide)) (by decide) w hw)
 rw[zkY hq.p,zah]at HO1
 have HR:=LH (fun w hw=>zfr x.dep (ze x.pitch) x.run (x.over:Rat) hx.r bo (by decide) w hw)
 have HO2:=LH (fun w hw=>zcD q (x.run - x.over) hq.b (hx.r.less bo) (by decide) w hw)
 have hor:zis q (x.run - x.over) = -1∨zis q (x.run - x.over)=0:=by
  by_cases h:q<x.run - x.over
  ·exact .inl (zkX h)
  ·exact .inr (by rw[← Rat.le_antisymm hq.r (Rat.not_lt.1 h),zkZ])
 generalize zis q (x.run - x.over)=od at *
 have hY0:=hY [] ⟨0,by decide⟩
 have hY1:=hY [⟨0,by decide⟩] ⟨1,by decide⟩
 have hp0:UpN 0 ([]:List (PlN 2)):=rfl
 have hp1:=hp0.next ⟨0,by decide⟩ rfl
 have hp2:=hp1.next ⟨1,by decide⟩ rfl
 unfold zmt at hY0 hY1
 simp only[if_true,Nat.one_ne_zero,if_false]at hY0 hY1
 unfold zlR at hBx
 simp only[List.map_cons,List.map_nil]at HC
 obtain⟨dp,pitch,run,over⟩:=x
 simp only at HC HM HR HO2 hBn hBx
 generalize ze (q*pitch)=HE at *
 generalize ze (run - (over:Rat))=RM at *
 generalize ze (over:Rat)=OV at *
 generalize ze pitch=PI at *
 generalize ze run=HI at *
 generalize ze q=SS at *
 have HY0:=LH hY0
 have HY1:=LH hY1
 clear bo bm hq hx hY hY0 hY1
 have n0:=hBn.cell 0
 have n1:=hBn.cell 1
 have n2:=hBn.cell 2
 simp only[zs4,zs5]at n0 n1 n2
 have hEw:=hPc _ _ h0
 have T:=Blk.new W [.string ⟨OV.toArray⟩,.string ⟨SS.toArray⟩,.string ⟨HE.toArray⟩] 30
 have hqT:Q W (W.alloc (.cells ([.string ⟨OV.toArray⟩,.string ⟨SS.toArray⟩,.string ⟨HE.toArray⟩]:List Value).toArray 30)):=(Below.refl _ W).alloc (Nat.le_refl _) _
 rcases hor with rfl | rfl
 all_goals
  gi_wp2
  refine⟨trivial,?_⟩
  refine(callsIn_wide.2 (HC.out _ _ (hEw.ofQ hqT) (zdh.three T))).mono ?_
  rintro e w3⟨rfl,hq3⟩
  have hqw:Q W w3:=Q.trans hqT hq3
  have hJ3:=hJ _ _ _ h0 hqw
  have hYK:=HY0.out w3 hJ3 rfl
  obtain⟨fn,tmps,assign,body,hy,hR⟩:=hYK
  gi_wp2
  refine hR.mono ?_
  rintro e W3 (⟨rfl,hJ4,hk4⟩|⟨rfl,hJx4⟩)
  ·have hkb:zI [Bn,Bx] W W3:=(zI.q hqw).trans hk4
   have hBn3:Blk W3 Bn [.string ⟨OV.toArray⟩,.string ⟨SS.toArray⟩,.string ⟨HE.toArray⟩] 41:=(hkb Bn (by simp) hBn.lt).trans hBn
   have hBx3:Blk W3 Bx [.int .i64 dp,.string ⟨PI.toArray⟩,.string ⟨HI.toArray⟩,.string ⟨OV.toArray⟩] 86:=(hkb Bx (by simp) hBx.lt).trans hBx
   have hE4:=hPc _ _ hJ4
   have a0:=hBn3.cell 0
   have a1:=hBn3.cell 1
   have a2:=hBn3.cell 2
   have b0:=hBx3.cell 0
   have b1:=hBx3.cell 1
   have b2:=hBx3.cell 2
   have b3:=hBx3.cell 3
   simp only[zs4,zs5]at a0 a1 a2 b0 b1 b2 b3
   clear n0 n1 n2 hR hy HY0
   gi_wp2
   refine⟨trivial,?_⟩
   refine(callsIn_wide.2 (HM.out _ hE4)).mono ?_
   rintro e w5⟨rfl,hq5⟩
   have hJ5:=hJ _ _ _ hJ4 hq5
   have hE5:=hPc _ _ hJ5
   have hEd:Env w5.drew:=hE5.ofQ (Below.drew (Q.refl w5))
   have c0:w5.drew.cell? ⟨Bn,0,none⟩=_:=za hq5 a0
   have c1:w5.drew.cell? ⟨Bn,1,none⟩=_:=za hq5 a1
   have c2:w5.drew.cell? ⟨Bn,2,none⟩=_:=za hq5 a2
   have d0:w5.drew.cell? ⟨Bx,0,none⟩=_:=za hq5 b0
   have d1:w5.drew.cell? ⟨Bx,1,none⟩=_:=za hq5 b1
   have d2:w5.drew.cell? ⟨Bx,2,none⟩=_:=za hq5 b2
   have d3:w5.drew.cell? ⟨Bx,3,none⟩=_:=za hq5 b3
   clear a0 a1 a2 b0 b1 b2 b3 HM
   gi_wp2
   refine RT.zaB 26 hmix (by kernel_rfl) rfl ?_
   refine RT.svp 0 ?_
   refine RT.svp 1 ?_
   refine RT.svq 2 rfl (by intro w' hq;have hc0:=za hq c0;go_simp;try with_reducible rfl) ?_
   refine RT.svp 3 ?_
   refine RT.svq 4 rfl (by intro w' hq;have hc0:=za hq d3;go_simp;try with_reducible rfl) ?_
   refine RT.svp 5 ?_
   refine RT.svp 6 ?_
   refine RT.svp 7 ?_
   refine RT.svq 8 rfl (by intro w' hq;have hc0:=za hq c1;go_simp;try with_reducible rfl) ?_
   refine RT.zf (i:=9) (v:=_) rfl rfl (by kernel_rfl) (by kernel_rfl) (fun _ _ _ h=>h) (by rfl) ?_ (fun w' hq=>HO1.out w' (hEd.ofQ hq)) ?_
   ·(intro w' hq;go_simp;try with_reducible rfl)
   simp only[Act.put,zs1,zs2,zs3]
   refine RT.svp 10 ?_
   refine RT.svp 11 ?_
   refine RT.svp 12 ?_
   refine RT.svp 13 ?_
   refine RT.svq 14 rfl (by intro w' hq;have hc0:=za hq c1;go_simp;try with_reducible rfl) ?_
   refine RT.svq 15 rfl (by intro w' hq;have hc0:=za hq d0;have hc1:=za hq d1;have hc2:=za hq d2;have hc3:=za hq d3;go_simp;try with_reducible rfl) ?_
   refine RT.zf (i:=16) (v:=_) rfl rfl (by kernel_rfl) (by kernel_rfl) (fun _ _ _ h=>h) (by rfl) ?_ (fun w' hq=>HR.out w' (hEd.ofQ hq)) ?_
   ·(intro w' hq;go_simp;try with_reducible rfl)
   simp only[Act.put,zs1,zs2,zs3]
   refine RT.zf (i:=17) (v:=_) rfl rfl (by kernel_rfl) (by kernel_rfl) (fun _ _ _ h=>h) (by rfl) ?_ (fun w' hq=>HO2.out w' (hEd.ofQ hq)) ?_
   ·(intro w' hq;go_simp;try with_reducible rfl)
   simp only[Act.put,zs1,zs2,zs3]
   refine RT.svp 18 ?_
   refine RT.svp 19 ?_
   refine RT.svp 20 ?_
   refine RT.svp 21 ?_
   refine RT.svq 22 rfl (by intro w' hq;have hc0:=za hq c2;go_simp;try with_reducible rfl) ?_
   refine RT.svp 23 ?_
   refine RT.svp 24 ?_
   refine RT.svp 25 ?_
   refine RT.zh (by kernel_rfl) (fun w7 hq7=>?_)
   simp only[List.drop_succ_cons,List.drop_zero]
   have hqq:Q w5 w7:=Q.trans (Below.drew (Q.refl w5)) hq7
   have hJ7:=hJ _ _ _ hJ5 hqq
   have hYK:=HY1.out w7 hJ7 rfl
   obtain⟨fn,tmps,assign,body,hy,hR⟩:=hYK
   clear c0 c1 c2 d0 d1 d2 d3 HO1 HO2 HR HC
   gi_wp2
   refine hR.mono ?_
   rintro e W9 (⟨rfl,hJ9,hk9⟩|⟨rfl,hJx9⟩)
   ·gi_wp2
    go_end0
    exact⟨⟨_,rfl⟩,.inl ⟨_,hp2,hJ9⟩⟩
   ·gi_wp2
    go_end0
    exact⟨⟨_,rfl⟩,.inr ⟨_,⟨2,by omega,hp2⟩,hJx9⟩⟩
  ·gi_wp2
   refine bodyPost_ret (results_none rfl _ _ _) rfl ?_
   exact⟨⟨_,rfl⟩,.inr ⟨_,⟨1,by omega,hp1⟩,hJx4⟩⟩
theorem znj(x:Raf)(hx:RafBd x)(q:Rat)(hq:NotchOk x q)(Bn Bx:Nat)(w:World)(m:Nat)(hm:1≤m)(hBn:Blk w Bn [.string ⟨(ze (x.over:Rat)).toArray⟩,.string ⟨(ze q).toArray⟩,.string ⟨(ze (q*x.pitch)).toArray⟩] 41)(hBx:Blk w Bx (zlR x) 86) :
  zfw m Tryz.prog 135 #[.pointer (some ⟨Bn,0,none⟩),.pointer (some ⟨Bx,0,none⟩)] zmt [Bn,Bx] (fun _ W=>Env W) zql (fun ys=>UpN 2 ys) (fun pre=>∃ k,k≤2∧UpN k pre) w:=fun l J Jx W hW hPc hst hY h0=>by
 refine(zoJ x hx q hq m hm l Bn Bx J Jx hPc hY hst W (zfx hBn hW) (zfx hBx hW) h0).mono ?_
 rintro e W'⟨hv,⟨ys,hys,hJ⟩|⟨pre,hp,hJx⟩⟩
 ·exact⟨hv,.inl ⟨_,hys,hJ⟩⟩
 ·exact⟨hv,.inr ⟨pre,hp,hJx⟩⟩
end
end Go.Proofs.YtbpghkdadajomaaGreatDoor
