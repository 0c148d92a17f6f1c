/-
  Walks of package bevel: the bevels of a hip, where no line is given.; The example of chapter 33: its plan, its members, their numbers.; The mathematics of backings: a plan with two faces at right angles.; Backings: the mathematics of their products with the line's length.; Walks of package slope: a pitch, and the length of the line between two faces.
-/
import Derived.Test.YthdpnkkddhcacaaGreatDoorBK24
import Derived.Test.YthdpnkkddhcacaaGreatDoorBK20
import Derived.Test.YthdpnkkddhcacaaGreatDoorBK19
set_option maxRecDepth 100000
set_option maxHeartbeats 8000000
namespace Go.Proofs.YthdpnkkddhcacaaGreatDoor
section
open Go.RowKit Go.Shelf Kp
attribute [local go_sem] Oper.semAt_some
def zjV(w:World):Prop:=0<w.heap.size∧∃ bm,bm<w.heap.size∧w.cell? ⟨0,0,none⟩=some (.map (some bm)) ∧
 ∃ o,w.heap[bm]? = some o∧∀ W:World,W.heap[bm]? = some o→(Instr.lookup 152 (.map (some bm)) (.int .i64 6) false).run Tryz.prog W=.ok (.func (.func 345) #[] #[]) W
theorem zjV.q{w w':World}(h:zjV w)(hq:Q w w'):zjV w':=by
 obtain⟨hg,bm,hb,hc,o,ho,hl⟩:=h
 exact⟨Nat.lt_of_lt_of_le hg hq.size,bm,Nat.lt_of_lt_of_le hb hq.size,by rw[hq.cell (p:=⟨0,0,none⟩) hg];exact hc,o,by rw[hq.block bm hb];exact ho,hl⟩
theorem znH(w:World):CR 159 #[.slice none 0 0,.func (.func 90) #[] #[]] w (.int .i64 (-1)):=by
 go_enter Tryz.func159,Tryz.ntmps159
 go_wp2
 refine wp_loop_rounds 1 ?_
 rw[rounds_succ]
 go_wp2
 go_ret
 exact⟨rfl,bt⟩
theorem zkf(w:World):CR 89 #[.slice none 0 0,.func (.func 90) #[] #[]] w (.bool false):=by
 have HI:=LH (znH w)
 go_enter Tryz.func89,Tryz.ntmps89
 go_wp2_with fail
 refine HI.out.mono ?_
 rintro e w1⟨rfl,hq1⟩
 go_wp2
 go_ret
 exact⟨rfl,hq1⟩
theorem znk{W:World}{b:Nat}{c0 c1 c2 c3 c4:Value}(h:Blk W b [c0,c1,c2,c3,c4] 85)(fn:Func)(m k:Nat)(hf:fn.results=#[.cell m 85,.tmp k])(tmps:Array Value)(u:Value)(hp:tmps.getD m undef=.pointer (some ⟨b,0,none⟩))(hk:tmps.getD k undef=u) :
  (results fn tmps).run Tryz.prog W=.ok (.tuple #[.agg #[c0,c1,c2,c3,c4],u]) W:=by
 have e0:=h.cell
 simp only[Array.getD_eq_getD_getElem?]at hp hk
 simp[results,hf,go_sem,hp,hk,e0]
theorem zss(F O W D:Int)(X1 X2 X3 X4 X5 X6:Str)(a:Option Addr)(nn cp:Nat)(L0 L1 L2:List (Rat × Nat))(w:World)(hE:Env w)(hA:zjV w)
  (HCP:Hid (∀ b cap ty W',Env W'→Q w W'→Blk W' b [.int .i64 6,.int .i64 F,.int .i64 O,.string ⟨X1.toArray⟩,.string ⟨X2.toArray⟩,.string ⟨X3.toArray⟩,.string ⟨X4.toArray⟩,.string ⟨X5.toArray⟩,.string ⟨X6.toArray⟩,.int .i64 W,.int .i64 D] ty→CR 23 #[.agg #[.slice a nn cp],.slice (some ⟨b,0,none⟩) 1 cap] W' (.int .i64 0)))
  (HSE:Hid (∀ W',Env W'→Q w W'→Calls Tryz.prog 41 #[.agg #[.int .i64 6,.int .i64 F,.int .i64 O,.string ⟨X1.toArray⟩,.string ⟨X2.toArray⟩,.string ⟨X3.toArray⟩,.string ⟨X4.toArray⟩,.string ⟨X5.toArray⟩,.string ⟨X6.toArray⟩,.int .i64 W,.int .i64 D]] W' (zm3 W' L0)))
  (H1:Hid (∀ W',Env W'→Q w W'→Calls Tryz.prog 9 #[.agg #[.slice a nn cp],.agg #[.int .i64 6,.int .i64 F,.int .i64 O,.string ⟨X1.toArray⟩,.string ⟨X2.toArray⟩,.string ⟨X3.toArray⟩,.string ⟨X4.toArray⟩,.string ⟨X5.toArray⟩,.string ⟨X6.toArray⟩,.int .i64 W,.int .i64 D],.int .i64 F] W' (zm3 W' L1)))
  (H2:Hid (∀ W',Env W'→Q w W'→Calls Tryz.prog 9 #[.agg #[.slice a nn cp],.agg #[.int .i64 6,.int .i64 F,.int .i64 O,.string ⟨X1.toArray⟩,.string ⟨X2.toArray⟩,.string ⟨X3.toArray⟩,.string ⟨X4.toArray⟩,.string ⟨X5.toArray⟩,.string ⟨X6.toArray⟩,.int .i64 W,.int .i64 D],.int .i64 O] W' (zm3 W' L2))) :
  Calls Tryz.prog 45 #[.agg #[.slice a nn cp,.slice none 0 0,.slice none 0 0,.slice none 0 0],.agg #[.int .i64 6,.int .i64 F,.int .i64 O,.string ⟨X1.toArray⟩,.string ⟨X2.toArray⟩,.string ⟨X3.toArray⟩,.string ⟨X4.toArray⟩,.string ⟨X5.toArray⟩,.string ⟨X6.toArray⟩,.int .i64 W,.int .i64 D]] w
   fun e w'=>∃ v0 v3 v4,e=.returned (.tuple #[.agg #[v0,.slice none 0 0,.slice none 0 0,v3,v4],.int .i64 0])∧Q w w'∧zH w' w.heap.size v0 L0∧zH w' w.heap.size v3 L1∧zH w' w.heap.size v4 L2:=by
 have HL:=LH zkf
 have HBK:=LH (fun ob c0 W' (hW:Env W') (hq:Q w W') (h1:w.heap.size≤ob) hb=>zkg 6 F O W D X1 X2 X3 X4 X5 X6 a nn cp ob c0 (.slice none 0 0) (.slice none 0 0) (.slice none 0 0) (.slice none 0 0) L1 L2 W' hW (Nat.le_trans hE.size h1) hb
  (LH (fun V hV hB=>H1.out V hV (Below.trans hq (hB.mono h1)))) (LH (fun V hV hB=>H2.out V hV (Below.trans hq (hB.mono h1)))))
 clear H1 H2
 obtain⟨W0,hW0⟩:∃ W0,((w.alloc (.cells #[.slice a nn cp,.slice none 0 0,.slice none 0 0,.slice none 0 0] 92)).alloc (.cells #[.int .i64 6,.int .i64 F,.int .i64 O,.string ⟨X1.toArray⟩,.string ⟨X2.toArray⟩,.string ⟨X3.toArray⟩,.string ⟨X4.toArray⟩,.string ⟨X5.toArray⟩,.string ⟨X6.toArray⟩,.int .i64 W,.int .i64 D] 37)).alloc (.cells #[.slice none 0 0,.slice none 0 0,.slice none 0 0,.slice none 0 0,.slice none 0 0] 85)=W0:=⟨_,rfl⟩
 have hq0:Q w W0:=by rw[← hW0];exact bt
 have BR:Blk W0 w.heap.size [.slice a nn cp,.slice none 0 0,.slice none 0 0,.slice none 0 0] 92:=by rw[← hW0];exact((Blk.new w _ _).alloc _).alloc _
 have BM:Blk W0 (w.heap.size+1) [.int .i64 6,.int .i64 F,.int .i64 O,.string ⟨X1.toArray⟩,.string ⟨X2.toArray⟩,.string ⟨X3.toArray⟩,.string ⟨X4.toArray⟩,.string ⟨X5.toArray⟩,.string ⟨X6.toArray⟩,.int .i64 W,.int .i64 D] 37:=by rw[← hW0];exact(Blk.new1 w _ _ _).alloc _
 have BZ:Blk W0 (w.heap.size+2) [.slice none 0 0,.slice none 0 0,.slice none 0 0,.slice none 0 0,.slice none 0 0] 85:=by rw[← hW0];exact Blk.new2 w _ _ _ _
 go_enter Tryz.func45,Tryz.ntmps45
 have hQ0:=Q.refl W0
 replace r0:=BR.cell
 replace lBR:=BR.lt
 replace m0:=BM.cell
 replace lBM:=BM.lt
 go_wp2_with fail
 clear hW0
 have BS:=Blk.new W0 [.int .i64 6,.int .i64 F,.int .i64 O,.string ⟨X1.toArray⟩,.string ⟨X2.toArray⟩,.string ⟨X3.toArray⟩,.string ⟨X4.toArray⟩,.string ⟨X5.toArray⟩,.string ⟨X6.toArray⟩,.int .i64 W,.int .i64 D] 37
 refine cx (HCP.out _ _ _ _ (hE.ofQ (Q.trans hq0 bt)) (Q.trans hq0 bt) BS) fun G1 hg1=>?_
 have hQ1:Q W0 G1:=Q.trans bt hg1
 replace BR:=BR.keep hQ1 BR.lt
 replace BM:=BM.keep hQ1 BM.lt
 clear BS hg1 HCP r0 lBR m0 lBM
 replace r0:=BR.cell
 replace lBR:=BR.lt
 replace m0:=BM.cell
 replace lBM:=BM.lt
 go_wp2_with fail
 refine cx (HL.out _) fun G2 hg2=>?_
 have hQ2:Q W0 G2:=Q.trans hQ1 hg2
 replace BR:=BR.keep hg2 BR.lt
 replace BM:=BM.keep hg2 BM.lt
 clear HL r0 lBR m0 lBM hQ1 hg2
 replace r0:=BR.cell
 replace lBR:=BR.lt
 replace m0:=BM.cell
 replace lBM:=BM.lt
 go_wp2_with fail
 have BO:=Blk.new G2 [.slice none 0 0,.slice none 0 0,.slice none 0 0,.slice none 0 0,.slice none 0 0] 85
 have hqa:Q G2 (G2.alloc (.cells ([.slice none 0 0,.slice none 0 0,.slice none 0 0,.slice none 0 0,.slice none 0 0]:List Value).toArray 85)):=bt
 have hw2:=Q.trans hq0 hQ2
 refine(HSE.out _ (hE.ofQ (Q.trans hw2 hqa)) (Q.trans hw2 hqa)).mono ?_
 rintro e G3⟨v0,rfl,hg3,hs0⟩
 obtain⟨g0,cap0,rfl,-⟩:=hs0.form
 have hq23:Q G2 G3:=Q.trans hqa hg3
 have hz0b:=BZ.lt
 replace BO:=BO.keep hg3 BO.lt
 replace BR:=BR.keep hq23 BR.lt
 replace BM:=BM.keep hq23 BM.lt
 replace BZ:=BZ.keep (Q.trans hQ2 hq23) BZ.lt
 have hz0:=hq0.size
 have hz2:=hQ2.size
 have ho0:w.heap.size+2<G2.heap.size:=Nat.lt_of_lt_of_le hz0b hz2
 have hs0':zH G3 (G2.heap.size+1) (.slice g0 L0.length cap0) L0:=by rw[World.size_alloc]at hs0;exact hs0
 generalize G2.heap.size=ob at *
 clear HSE hs0 hg3 r0 lBR m0 lBM
 have hQ0:=Q.refl G3
 replace r0:=BR.cell
 replace lBR:=BR.lt
 replace m0:=BM.cell
 replace lBM:=BM.lt
 replace o0:=BO.cell
 replace lBO:=BO.lt
 have fo:=BO.frozen
 have hw3:Q w G3:=Q.trans hw2 hq23
 obtain⟨X,hX⟩:∃ X,G3.setCell ⟨ob,0,none⟩ (.slice g0 L0.length cap0)=X:=⟨_,rfl⟩
 have hwX:Q w (G3.setCell ⟨ob,0,none⟩ (.slice g0 L0.length cap0)):=Below.setCell (p:=⟨ob,0,none⟩) hw3 (show w.heap.size≤ob by omega) _
 have BOX:=BO.set 0 (.slice g0 L0.length cap0)
 simp only[List.set_cons_zero]at BOX
 have BRX:=BR.setOther (show ob≠w.heap.size by omega) 0 (.slice g0 L0.length cap0)
 have BMX:=BM.setOther (show ob≠w.heap.size+1 by omega) 0 (.slice g0 L0.length cap0)
 have BZX:=BZ.setOther (show ob≠w.heap.size+2 by omega) 0 (.slice g0 L0.length cap0)
 have hsX:zH (G3.setCell ⟨ob,0,none⟩ (.slice g0 L0.length cap0)) (ob+1) (.slice g0 L0.length cap0) L0:=zaM hs0' (g:=ob) (by omega) 0 _
 obtain⟨hga,bm,hbm,hca,ob2,hob2,hlk⟩:=hA.q hwX
 have hlk':=hlk _ hob2
 rw[hX]at hwX BOX BRX BMX BZX hsX hca hlk'
 clear hga hbm hob2 hlk hs0' BZ
 have hnf:∀ w,(binOp BinOp.neq 151 (Value.func (Fn.func 345) #[] #[]) Value.nilFunc).run Tryz.prog w=.ok (.bool true) w:=fun w=>by kernel_rfl
 replace x0:=BRX.cell
 replace lBRX:=BRX.lt
 replace y0:=BMX.cell
 replace lBMX:=BMX.lt
 go_wp2_with fail
 refine(HBK.out ob _ X (hE.ofQ hwX) hwX (by omega) BOX).mono ?_
 rintro e V⟨v3,v4,rfl,hBV,hKV,BV,h3,h4⟩
 obtain⟨g3,cap3,rfl,-⟩:=h3.form
 obtain⟨g4,cap4,rfl,-⟩:=h4.form
 have BZV:=BZX.keep hBV (by omega)
 have hwV:Q w V:=Below.trans hwX (hBV.mono (by omega))
 have hs0V:zH V (ob+1) (.slice g0 L0.length cap0) L0:=by
  refine⟨hsX.1,hsX.2.elim .inl ?_⟩
  rintro⟨g,cap,cur,hv,hg,hc,r⟩
  exact .inr ⟨g,cap,cur,hv,hg,(hKV g (Array.getElem?_eq_some_iff.1 hc).1 (by omega)).trans hc,r⟩
 have hVw:w.heap.size≤X.heap.size:=hwX.size
 have b0:w.heap.size≤w.heap.size+2:=by omega
 have hQe:Q w (((((V.setCell ⟨w.heap.size+2,0,none⟩ (.slice g0 L0.length cap0)).setCell ⟨w.heap.size+2,1,none⟩ (.slice none 0 0)).setCell ⟨w.heap.size+2,2,none⟩ (.slice none 0 0)).setCell ⟨w.heap.size+2,3,none⟩ (.slice g3 L1.length cap3)).setCell ⟨w.heap.size+2,4,none⟩ (.slice g4 L2.length cap4)) :=
  ((((hwV.setCell (p:=⟨w.heap.size+2,0,none⟩) b0 _).setCell (p:=⟨w.heap.size+2,1,none⟩) b0 _).setCell (p:=⟨w.heap.size+2,2,none⟩) b0 _).setCell (p:=⟨w.heap.size+2,3,none⟩) b0 _).setCell (p:=⟨w.heap.size+2,4,none⟩) b0 _
 have up5:∀ {B:Nat} {v:Value} {L:List (Rat × Nat)},w.heap.size+3≤B→zH V B v L→zH (((((V.setCell ⟨w.heap.size+2,0,none⟩ (.slice g0 L0.length cap0)).setCell ⟨w.heap.size+2,1,none⟩ (.slice none 0 0)).setCell ⟨w.heap.size+2,2,none⟩ (.slice none 0 0)).setCell ⟨w.heap.size+2,3,none⟩ (.slice g3 L1.length cap3)).setCell ⟨w.heap.size+2,4,none⟩ (.slice g4 L2.length cap4)) w.heap.size v L:=fun hB h=>by
  refine Joins.ownsRow_le (zaM (zaM (zaM (zaM (zaM h (g:=w.heap.size+2) ?_ 0 _) (g:=w.heap.size+2) ?_ 1 _) (g:=w.heap.size+2) ?_ 2 _) (g:=w.heap.size+2) ?_ 3 _) (g:=w.heap.size+2) ?_ 4 _) (by omega) <;> omega
 have hXb:w.heap.size+3≤X.heap.size:=by have:=BOX.lt;omega
 have e0:=up5 (by omega) hs0V
 have e3:=up5 hXb h3
 have e4:=up5 hXb h4
 have fz:=BZV.frozen
 have hov:=BV.cell
 have BZe:=((((BZV.set 0 (.slice g0 L0.length cap0)).set 1 (.slice none 0 0)).set 2 (.slice none 0 0)).set 3 (.slice g3 L1.length cap3)).set 4 (.slice g4 L2.length cap4)
 simp only[List.set_cons_zero,List.set_cons_succ]at BZe
 clear HBK hlk' hca BRX BMX BZX BOX x0 lBRX y0 lBMX
 have hzc:=BZV.cell
 clear up5 hs0V h3 h4 hBV hKV
 go_wp2_with fail
 exact bodyPost_ret (znk BZe Tryz.f45 4 5 rfl _ _ rfl rfl) rfl ⟨_,_,_,rfl,hQe,e0,e3,e4⟩
def sqr:List Sd:=[⟨0,0,1,1,false,0,0⟩,⟨10,0,3,4,false,0,0⟩,⟨10,10,1,1,false,0,0⟩,⟨0,10,1,1,false,0,0⟩]
theorem zsF:zcZ [sqr]=0:=by kernel_rfl
theorem zqh:zaz [sqr]≤1000:=by
 rw[show zaz [sqr]=4 from by kernel_rfl]
 decide
def ex0:Fr:=⟨false,0,1,1,0⟩
def ex1:Fr:=⟨true,10,-1,4 / 3,0⟩
def ex3:Fr:=⟨true,0,1,1,0⟩
theorem zt0:(zbR [sqr])[0]? = some ex0:=by kernel_rfl
theorem ztZ:(zbR [sqr])[1]? = some ex1:=by kernel_rfl
theorem ztY:(zbR [sqr])[3]? = some ex3:=by kernel_rfl
theorem ztx:zol ex0=[.string ⟨(ze 0).toArray⟩,.string ⟨(ze 1).toArray⟩,.string ⟨(ze 0).toArray⟩]:=by kernel_rfl
theorem ztw:zol ex1=[.string ⟨(ze (-3 / 4)).toArray⟩,.string ⟨(ze 0).toArray⟩,.string ⟨(ze (15 / 2)).toArray⟩]:=by kernel_rfl
theorem ztv:zol ex3=[.string ⟨(ze 1).toArray⟩,.string ⟨(ze 0).toArray⟩,.string ⟨(ze 0).toArray⟩]:=by kernel_rfl
def exm:Vm:=⟨2,1,-1,⟨10,5,0⟩,⟨6,5,3⟩,50,100⟩
def exh:Vm:=⟨6,3,0,⟨0,0,0⟩,⟨4,4,4⟩,50,100⟩
theorem zuF:exm.c=[.int .i64 2,.int .i64 1,.int .i64 (-1),.string ⟨#[49,48]⟩,.string ⟨#[53]⟩,.string ⟨#[48]⟩,.string ⟨#[54]⟩,.string ⟨#[53]⟩,.string ⟨#[51]⟩,.int .i64 50,.int .i64 100]:=by kernel_rfl
theorem zun:exh.c=[.int .i64 6,.int .i64 3,.int .i64 0,.string ⟨#[48]⟩,.string ⟨#[48]⟩,.string ⟨#[48]⟩,.string ⟨#[52]⟩,.string ⟨#[52]⟩,.string ⟨#[52]⟩,.int .i64 50,.int .i64 100]:=by kernel_rfl
theorem zf5(z:Int)(h:z.natAbs<100:=by decide):Bd 12 (z:Rat):=zmI (by omega) (by decide)
theorem zoE:VmOk exm:=⟨⟨by decide,by decide,by decide,by decide,by decide,by decide⟩,⟨by decide,by decide⟩,⟨zf5 10,zf5 5,zf5 0⟩,⟨zf5 6,zf5 5,zf5 3⟩,by decide⟩
theorem zkF:VmOk exh:=⟨⟨by decide,by decide,by decide,by decide,by decide,by decide⟩,⟨by decide,by decide⟩,⟨zf5 0,zf5 0,zf5 0⟩,⟨zf5 4,zf5 4,zf5 4⟩,by decide⟩
def exd:P3:=⟨-4,0,3⟩
def exv:P3:=⟨4,4,4⟩
theorem znO:exm.t.sub exm.f=exd:=by kernel_rfl
theorem zmN:exh.t.sub exh.f=exv:=by kernel_rfl
theorem ztt:zaX (zl3 exd)=some [(3 / 4,1)]:=by kernel_rfl
theorem zr7:zaX (zja exd)=some [(4 / 3,1)]:=by kernel_rfl
theorem zsa:zaX (zjM (-3 / 4) 0 exd exv)=some [(5 / 4,1)]:=by kernel_rfl
theorem zsb:zaX (zhJ 1 0 exv)=some [(1 / 3,3)]:=by kernel_rfl
theorem zsc:zaX (zhJ 0 1 exv)=some [(1 / 3,3)]:=by kernel_rfl
theorem zr8:zaX (zl3 exv)=some [(1 / 2,2)]:=by kernel_rfl
theorem MkP.a{W:World}{T:List (Rat × Rat)}{C:List (Rat × Nat)}{e:Ending}{w':World}(h:MkP W T e w')(hm:zaX T=some C):zm3 W (zgj C) e w':=by
 obtain⟨v,E,rfl,hq,h | ⟨rfl,C',h1,h2⟩⟩:=h
 ·rw[hm]at h;cases h.1
 ·rw[hm]at h1
  cases h1
  exact⟨v,rfl,hq,h2⟩
theorem zlC(l:List Vm)(hl:∀ m∈l,VmOk m)(h2:l.length≤2)(a:Option Addr)(nn cp:Nat)(w:World)(hv:zgb w (.slice a nn cp) [sqr])(b cap:Nat)(ty:TypeId)(W:World)(hE:Env W)(hq:Q w W)(hb:Blk W b (l.flatMap Vm.c) ty) :
  CR 23 #[.agg #[.slice a nn cp],.slice (some ⟨b,0,none⟩) l.length cap] W (.int .i64 0) :=
 zff [sqr] zsF (by decide) zqh a nn cp l hl h2 b cap ty W hE (hv.keep hq) hb
theorem zq8(i:Nat)(F:Fr)(A B C:Rat)(hi:i<[sqr].flatten.length)(hg:(zcw [sqr].flatten i).gable=false)(hF:(zbR [sqr])[i]? = some F)(hs:F.speed≠0)(hp:zol F=[.string ⟨(ze A).toArray⟩,.string ⟨(ze B).toArray⟩,.string ⟨(ze C).toArray⟩])(a:Option Addr)(nn cp:Nat)(w:World)(hv:zgb w (.slice a nn cp) [sqr])(W:World)(hE:Env W)(hq:Q w W) :
  CR 24 #[.agg #[.slice a nn cp],.int .i64 i] W (.tuple #[.agg #[.string ⟨(ze A).toArray⟩,.string ⟨(ze B).toArray⟩,.string ⟨(ze C).toArray⟩],.int .i64 0]):=by
 have h:=zhI [sqr] zsF (by decide) a nn cp i hi hg F hF hs W hE (hv.keep hq)
 rw[hp]at h
 exact h
theorem ztJ(z:Int)(h:z.natAbs<100:=by decide):Bd 10 (z:Rat):=zmI (by omega) (by decide)
theorem zse(a:Option Addr)(nn cp:Nat)(w:World)(hE:Env w)(hv:zgb w (.slice a nn cp) [sqr]) :
  Calls Tryz.prog 43 #[.agg #[.slice a nn cp],.agg exm.c.toArray,.agg exh.c.toArray] w (zm3 w [(5 / 4,1)]):=by
 have h:=zn2 exm exh zoE zkF (by decide) (by decide) (-3 / 4) 0 (15 / 2) ⟨by decide +kernel,by decide +kernel⟩ (ztJ 0) (by rw[znO,zmN];decide +kernel) (by rw[znO];decide +kernel) (by rw[zmN];decide +kernel) a nn cp w hE
  (LH (fun b cap ty W hW hq hb=>zlC [exm,exh] (by intro x hx;simp only[List.mem_cons,List.not_mem_nil,or_false]at hx;rcases hx with rfl | rfl;exact zoE;exact zkF) (by decide) a nn cp w hv b cap ty W hW hq (by rw[List.flatMap_cons,List.flatMap_cons,List.flatMap_nil,List.append_nil];exact hb)))
  (LH (fun W hW hq=>zq8 1 ex1 (-3 / 4) 0 (15 / 2) (by decide) (by decide) ztZ (by decide +kernel) ztw a nn cp w hv W hW hq))
 rw[znO,zmN]at h
 exact h.mono fun _ _ h=>h.a zsa
theorem zkG(i:Nat)(F:Fr)(A B C:Rat)(bA:Bd 10 A)(bB:Bd 10 B)(hi:i<[sqr].flatten.length)(hg:(zcw [sqr].flatten i).gable=false)(hF:(zbR [sqr])[i]? = some F)(hs:F.speed≠0)(hp:zol F=[.string ⟨(ze A).toArray⟩,.string ⟨(ze B).toArray⟩,.string ⟨(ze C).toArray⟩])(hr:A*exv.x+B*exv.y=exv.z)(hm:zaX (zhJ A B exv)=some [(1 / 3,3)])(a:Option Addr)(nn cp:Nat)(w:World)(hv:zgb w (.slice a nn cp) [sqr])(W:World)(hE:Env W)(hq:Q w W) :
  Calls Tryz.prog 9 #[.agg #[.slice a nn cp],.agg exh.c.toArray,.int .i64 i] W (zm3 W [(1 / 3,3)]):=by
 have h:=zes exh zkF A B C bA bB (by rw[zmN];exact hr) (by rw[zmN];decide +kernel) a nn cp i W hE
  (LH (fun b cap ty W' hW hq' hb=>zlC [exh] (by intro x hx;rw[List.mem_singleton]at hx;rw[hx];exact zkF) (by decide) a nn cp w hv b cap ty W' hW (Q.trans hq hq') (by rw[List.flatMap_cons,List.flatMap_nil,List.append_nil];exact hb)))
  (LH (fun W' hW hq'=>zq8 i F A B C hi hg hF hs hp a nn cp w hv W' hW (Q.trans hq hq')))
 rw[zmN]at h
 exact h.mono fun _ _ h=>h.a hm
theorem ztu(w:World)(hE:Env w):Calls Tryz.prog 41 #[.agg exm.c.toArray] w (zm3 w [(3 / 4,1)]):=by
 have h:=zkN exm zoE (by rw[znO];decide +kernel) w hE
 rw[znO]at h
 exact h.mono fun _ _ h=>h.a ztt
theorem zr9(w:World)(hE:Env w):Calls Tryz.prog 41 #[.agg exh.c.toArray] w (zm3 w [(1 / 2,2)]):=by
 have h:=zkN exh zkF (by rw[zmN];decide +kernel) w hE
 rw[zmN]at h
 exact h.mono fun _ _ h=>h.a zr8
theorem zsd(w:World)(hE:Env w):Calls Tryz.prog 42 #[.agg exm.c.toArray] w (zm3 w [(4 / 3,1)]):=by
 have h:=zn1 exm zoE (by rw[znO];decide +kernel) w hE
 rw[znO]at h
 exact h.mono fun _ _ h=>h.a zr7
theorem zuG(a:Option Addr)(nn cp:Nat)(w:World)(hE:Env w)(hA:zjV w)(hv:zgb w (.slice a nn cp) [sqr]) :
  Calls Tryz.prog 45 #[.agg #[.slice a nn cp,.slice none 0 0,.slice none 0 0,.slice none 0 0],.agg exh.c.toArray] w
   fun e w'=>∃ v0 v3 v4,e=.returned (.tuple #[.agg #[v0,.slice none 0 0,.slice none 0 0,v3,v4],.int .i64 0])∧Q w w'∧zH w' w.heap.size v0 [(1 / 2,2)]∧zH w' w.heap.size v3 [(1 / 3,3)]∧zH w' w.heap.size v4 [(1 / 3,3)]:=by
 have hc:=fun b cap ty W hW hq hb=>zlC [exh] (by intro x hx;rw[List.mem_singleton]at hx;rw[hx];exact zkF) (by decide) a nn cp w hv b cap ty W hW hq hb
 have hs:=fun W hW=>zr9 W hW
 have h3:=fun W hW hq=>zkG 3 ex3 1 0 0 (ztJ 1) (ztJ 0) (by decide) (by decide) ztY (by decide +kernel) ztv (by decide +kernel) zsb a nn cp w hv W hW hq
 have h0:=fun W hW hq=>zkG 0 ex0 0 1 0 (ztJ 0) (ztJ 1) (by decide) (by decide) zt0 (by decide +kernel) ztx (by decide +kernel) zsc a nn cp w hv W hW hq
 simp only[List.flatMap_cons,List.flatMap_nil,List.append_nil]at hc
 rw[zun]at hc hs h3 h0 ⊢
 exact zss 3 0 50 100 [48] [48] [48] [52] [52] [52] a nn cp [(1 / 2,2)] [(1 / 3,3)] [(1 / 3,3)] w hE hA (LH hc) (LH (fun W hW _=>hs W hW)) (LH h3) (LH h0)
theorem zpf{W:World}{b:Nat}{c0 c1 c2 c3 c4 c5 c6:Value}(h:Blk W b [c0,c1,c2,c3,c4,c5,c6] 24)(fn:Func)(m:Nat)(hf:fn.results=#[.cell m 24])(tmps:Array Value)(hp:tmps.getD m undef=.pointer (some ⟨b,0,none⟩)) :
  (results fn tmps).run Tryz.prog W=.ok (.agg #[c0,c1,c2,c3,c4,c5,c6]) W :=
 results_cell_row hf tmps W b _ #[c0,c1,c2,c3,c4,c5,c6] (0,0) _ hp h Tryz.underlying24 rfl (by kernel_rfl)
theorem zo5(x y r n:Int)(w:World):CR 88 #[.int .i64 x,.int .i64 y,.int .i64 r,.int .i64 n] w (.agg #[.int .i64 x,.int .i64 y,.int .i64 r,.int .i64 n,.bool false,.int .i64 0,.int .i64 0]):=by
 go_enter Tryz.func88,Tryz.ntmps88
 go_wp2_with fail
 exact bodyPost_ret (zpf (Blk.new w [.int .i64 x,.int .i64 y,.int .i64 r,.int .i64 n,.bool false,.int .i64 0,.int .i64 0] 24) Tryz.f88 8 rfl _ rfl) rfl ⟨rfl,bt⟩
theorem zl7{W:World}{b:Nat}{c0:Value}(h:Blk W b [c0] 28)(fn:Func)(m:Nat)(hf:fn.results=#[.cell m 28])(tmps:Array Value)(hp:tmps.getD m undef=.pointer (some ⟨b,0,none⟩)) :
  (results fn tmps).run Tryz.prog W=.ok (.agg #[c0]) W :=
 results_cell_row hf tmps W b _ #[c0] (0,0) _ hp h Tryz.underlying28 rfl (by kernel_rfl)
theorem zmA(w:World):Calls Tryz.prog 44 #[] w fun e w'=>∃ a n c,e=.returned (.agg #[.slice a n c])∧Q w w'∧zgb w' (.slice a n c) [sqr]:=by
 have HS:=LH zo5
 have BZ:=Blk.new w [.slice none 0 0] 28
 have hq0:Q w (w.alloc (.cells ([.slice none 0 0]:List Value).toArray 28)):=bt
 go_enter Tryz.func44,Tryz.ntmps44
 go_wp2_with fail
 refine cx (HS.out _ _ _ _ _) fun w1 hq1=>?_
 go_wp2_with fail
 refine cx (HS.out _ _ _ _ _) fun w2 hq2=>?_
 go_wp2_with fail
 refine cx (HS.out _ _ _ _ _) fun w3 hq3=>?_
 go_wp2_with fail
 refine cx (HS.out _ _ _ _ _) fun w4 hq4=>?_
 have hz4:Q (w.alloc (.cells ([.slice none 0 0]:List Value).toArray 28)) w4:=Q.trans hq1 (Q.trans hq2 (Q.trans hq3 hq4))
 have BS:=(Blk.new w4 [.int .i64 0,.int .i64 0,.int .i64 1,.int .i64 1,.bool false,.int .i64 0,.int .i64 0,.int .i64 10,.int .i64 0,.int .i64 3,.int .i64 4,.bool false,.int .i64 0,.int .i64 0,.int .i64 10,.int .i64 10,.int .i64 1,.int .i64 1,.bool false,.int .i64 0,.int .i64 0,.int .i64 0,.int .i64 10,.int .i64 1,.int .i64 1,.bool false,.int .i64 0,.int .i64 0] 24).alloc (.cells #[.slice (some ⟨w4.heap.size,0,none⟩) 4 4] 25)
 have BL:=Blk.new1 w4 (.cells ([.int .i64 0,.int .i64 0,.int .i64 1,.int .i64 1,.bool false,.int .i64 0,.int .i64 0,.int .i64 10,.int .i64 0,.int .i64 3,.int .i64 4,.bool false,.int .i64 0,.int .i64 0,.int .i64 10,.int .i64 10,.int .i64 1,.int .i64 1,.bool false,.int .i64 0,.int .i64 0,.int .i64 0,.int .i64 10,.int .i64 1,.int .i64 1,.bool false,.int .i64 0,.int .i64 0]:List Value).toArray 24) [.slice (some ⟨w4.heap.size,0,none⟩) 4 4] 25
 have BZ4:=((BZ.keep hz4 BZ.lt).alloc (.cells ([.int .i64 0,.int .i64 0,.int .i64 1,.int .i64 1,.bool false,.int .i64 0,.int .i64 0,.int .i64 10,.int .i64 0,.int .i64 3,.int .i64 4,.bool false,.int .i64 0,.int .i64 0,.int .i64 10,.int .i64 10,.int .i64 1,.int .i64 1,.bool false,.int .i64 0,.int .i64 0,.int .i64 0,.int .i64 10,.int .i64 1,.int .i64 1,.bool false,.int .i64 0,.int .i64 0]:List Value).toArray 24)).alloc (.cells #[.slice (some ⟨w4.heap.size,0,none⟩) 4 4] 25)
 have hQ:Q w ((w4.alloc (.cells ([.int .i64 0,.int .i64 0,.int .i64 1,.int .i64 1,.bool false,.int .i64 0,.int .i64 0,.int .i64 10,.int .i64 0,.int .i64 3,.int .i64 4,.bool false,.int .i64 0,.int .i64 0,.int .i64 10,.int .i64 10,.int .i64 1,.int .i64 1,.bool false,.int .i64 0,.int .i64 0,.int .i64 0,.int .i64 10,.int .i64 1,.int .i64 1,.bool false,.int .i64 0,.int .i64 0]:List Value).toArray 24)).alloc (.cells #[.slice (some ⟨w4.heap.size,0,none⟩) 4 4] 25)):=Q.trans hq0 (Q.trans hz4 bt)
 have hlt4:w.heap.size<w4.heap.size:=Nat.lt_of_lt_of_le BZ.lt hz4.size
 generalize hW:World.alloc (w4.alloc _) _=W at *
 have hzc:=BZ4.cell
 have hzf:=BZ4.frozen
 have BZe:=BZ4.set 0 (.slice (some ⟨w4.heap.size+1,0,none⟩) 1 1)
 simp only[List.set_cons_zero]at BZe
 have BSe:=BS.setOther (show w.heap.size≠w4.heap.size by omega) 0 (.slice (some ⟨w4.heap.size+1,0,none⟩) 1 1)
 have BLe:=BL.setOther (show w.heap.size≠w4.heap.size+1 by omega) 0 (.slice (some ⟨w4.heap.size+1,0,none⟩) 1 1)
 have hQe:Q w (W.setCell ⟨w.heap.size,0,none⟩ (.slice (some ⟨w4.heap.size+1,0,none⟩) 1 1)):=Below.setCell (p:=⟨w.heap.size,0,none⟩) hQ (Nat.le_refl _) _
 have hrow:zcu 7 sdC (W.setCell ⟨w.heap.size,0,none⟩ (.slice (some ⟨w4.heap.size+1,0,none⟩) 1 1)) (.slice (some ⟨w4.heap.size,0,none⟩) 4 4) sqr :=
  zcu.of_row (B:=0) zhe (l:=sqr) ⟨rfl,.inr ⟨w4.heap.size,4,_,rfl,Nat.zero_le _,BSe,by decide,by unfold maxLen;decide,rfl,rfl⟩⟩
 go_wp2_with fail
 refine bodyPost_ret (zl7 BZe Tryz.f44 0 rfl _ rfl) rfl ⟨_,_,_,rfl,hQe,⟨_,_,rfl,fun i hi=>?_⟩⟩
 simp only[List.length_cons,List.length_nil]at hi
 obtain rfl:i=0:=by omega
 exact⟨w4.heap.size+1,0,_,rfl,BLe.lt,BLe.cell 0,hrow⟩
end
section
open Go.RowKit Kp
def bkR(a b c d:Int):List Sd:=[⟨0,0,c,d,false,0,0⟩,⟨1000,0,0,0,true,0,0⟩,⟨1000,1000,0,0,true,0,0⟩,⟨0,1000,a,b,false,0,0⟩]
structure Pt (a b:Int):Prop where
 a1:1≤a
 a2:a≤48
 b1:1≤b
 b2:b≤48
theorem zoL{a b:Int}(h:Pt a b){x y:Int}(hx:0≤x∧x≤1000)(hy:0≤y∧y≤1000):z8 ⟨x,y,a,b,false,0,0⟩=true:=by
 obtain⟨h1,h2,h3,h4⟩:=h
 unfold z8
 simp only
 simp <;> omega
theorem zso{a b c d:Int}(h:Pt a b)(k:Pt c d):zcZ [bkR a b c d]=0:=by
 unfold zcZ
 rw[if_neg (by show ¬ (false=true);decide),if_neg (by show ¬ ((4:Nat)=0);decide),if_neg (by show ¬ ((24:Nat)<4);decide)]
 rw[if_neg]
 ·rw[if_neg,if_neg,if_neg]
  ·show ¬ ((!zbL [bkR a b c d] || !zcU [bkR a b c d])=true)
   have e1:zbL [bkR a b c d]=true:=by kernel_rfl
   have e2:zcU [bkR a b c d]=true:=by kernel_rfl
   rw[e1,e2];decide
  ·have e1:zc2 [bkR a b c d]=false:=by kernel_rfl
   rw[e1];decide
  ·have e1:([bkR a b c d].any fun r=>!zao r)=false:=by kernel_rfl
   rw[e1];decide
 ·have e:([bkR a b c d].flatten.any fun s=>!z8 s)=false:=by
   show (!z8 ⟨0,0,c,d,false,0,0⟩ || (!z8 ⟨1000,0,0,0,true,0,0⟩ || (!z8 ⟨1000,1000,0,0,true,0,0⟩ || (!z8 ⟨0,1000,a,b,false,0,0⟩ || false))))=false
   rw[zoL k (by decide) (by decide),zoL h (by decide) (by decide)]
   rfl
  rw[e];decide
theorem zuJ(a b c d:Int):(zbR [bkR a b c d])[0]? = some ⟨false,0,1,Rat.divInt d c,0⟩:=by kernel_rfl
theorem zuI(a b c d:Int):(zbR [bkR a b c d])[3]? = some ⟨true,0,1,Rat.divInt b a,0⟩:=by kernel_rfl
theorem zrl{a b:Int}(h:Pt a b)(up:Bool):zgw ⟨up,0,1,Rat.divInt b a,0⟩=(a:Rat) / b∧zp0 ⟨up,0,1,Rat.divInt b a,0⟩=0∧Rat.divInt b a≠0:=by
 obtain⟨h1,h2,h3,h4⟩:=h
 have ha:(a:Rat)≠0:=fun e=>by rw[← Rat.intCast_zero,Rat.intCast_inj]at e;omega
 have hb:(b:Rat)≠0:=fun e=>by rw[← Rat.intCast_zero,Rat.intCast_inj]at e;omega
 have e1:zgw ⟨up,0,1,Rat.divInt b a,0⟩=(a:Rat) / b:=by
  unfold zgw
  rw[Rat.divInt_eq_div]
  show ((1:Int):Rat) / ((b:Rat) / (a:Rat))=_
  rw[show ((1:Int):Rat)=1 from rfl]
  grind
 refine⟨e1,?_,?_⟩
 ·unfold zp0
  show (0:Rat) - zgw _*((0:Int):Rat)=0
  rw[Rat.intCast_zero]
  grind
 ·rw[Rat.divInt_eq_div]
  intro e
  have:(b:Rat)=0:=by grind
  exact hb this
theorem zsu{q r z:Rat}(hq:0<q)(hr:0<r):flR ⟨z / q,z / r,z⟩ ⟨z / q,z / r,z⟩+z*z=z*z*(1 / (q*q)+1 / (r*r)+1):=by
 unfold flR
 have h1:=zaa hq
 have h2:=zaa hr
 simp only
 grind
theorem znz{a b:Rat}{k l:Nat}(ha:Bd k a)(hb:Bd l b)(h:k+l≤300):mulL a b=false:=by
 unfold mulL
 rw[zaN (n:=k+l) (zbd ha.1 hb.1) h,zaN (n:=k+l) (by rw[← Int.natCast_mul,Int.natAbs_natCast];exact zce ha hb) h]
 rfl
theorem zqG{x s:Rat}(hx:x≠0)(hs:0<s)(bs:Bd 90 s)(bl:Bd 40 ((leftOf s:Nat):Rat))(hm:mulL x (aOf s)=false)(bX:Bd 60 (x*aOf s)):∃ C,zaX [(x,s)]=some C:=by
 have hr:=bs.root90 (Nat.le_refl 90)
 have h9:r90 s=true:=by
  unfold r90
  rw[decide_eq_true hr.1,decide_eq_true hr.2]
  rfl
 have h1:zkR [] (x,s)=some [(x*aOf s,leftOf s)]:=by
  rw[zm4 hx (zaa hs) h9 (by have:=zdq bl (by decide);omega) hm rfl]
  rfl
 have hX:x*aOf s≠0:=fun e=>by
  rcases Rat.mul_eq_zero.1 e with e | e
  ·exact hx e
  ·exact zaa (zjR (npos hs)) e
 have sX:zbq (x*aOf s,leftOf s)=true:=by
  unfold zbq
  have l1:=zdq bX (by decide)
  have l2:=zdq bl (by decide)
  simp only[Bool.and_eq_true,decide_eq_true_eq]
  exact⟨by omega,by omega⟩
 unfold zaX
 have e:zd5 [(x,s)]=(zd5 []).bind fun cs=>zkR cs (x,s):=rfl
 rw[e,show zd5 []=some []from rfl]
 simp only[Option.bind_some]
 rw[h1]
 simp only[Option.bind_some]
 rw[znx hX,if_pos (by simp only[List.all_cons,List.all_nil,Bool.and_true];exact sX)]
 exact⟨_,rfl⟩
structure Pit (q:Rat):Prop where
 pos:0<q
 bd:Bd 2 q
theorem zsI{a b:Nat}(h1:1≤a)(h2:a≤48)(h3:1≤b)(h4:b≤48):Pit (Rat.divInt (a:Int) (b:Int)):=by
 refine⟨?_,zcQ (by omega) (by omega) (by omega)⟩
 rw[Rat.divInt_eq_div]
 exact zbV (by rw[Rat.intCast_natCast];exact Rat.natCast_pos.2 (by omega)) (by rw[Rat.intCast_natCast];exact Rat.natCast_pos.2 (by omega))
def zel(q r:Rat):Rat:=1+(1 / (q*q)+1 / (r*r))
theorem zfo{q r:Rat}(hq:Pit q)(hr:Pit r):0<zel q r:=by
 have h1:=zbV (show (0:Rat)<1 by decide) (Rat.mul_pos hq.pos hq.pos)
 have h2:=zbV (show (0:Rat)<1 by decide) (Rat.mul_pos hr.pos hr.pos)
 unfold zel
 grind
theorem zlv{q r:Rat}(hq:Pit q)(hr:Pit r):Bd 13 (zel q r):=by
 have h1:Bd 5 (1 / (q*q)):=zbs.quot (hq.bd.mul hq.bd) (npos (Rat.mul_pos hq.pos hq.pos))
 have h2:Bd 5 (1 / (r*r)):=zbs.quot (hr.bd.mul hr.bd) (npos (Rat.mul_pos hr.pos hr.pos))
 exact zbs.add (h1.add h2)
def bkD(q r z:Rat):P3:=⟨z / q,z / r,z⟩
theorem zn0{q r z:Rat}(hq:Pit q)(hr:Pit r):flR (bkD q r z) (bkD q r z)+(bkD q r z).z*(bkD q r z).z=z*z*zel q r:=by
 have:=zsu (z:=z) hq.pos hr.pos
 unfold bkD zel
 show _+z*z=_
 rw[this]
 grind
theorem zjO{q r z:Rat}(hq:Pit q)(hr:Pit r)(hz:0<z):0<flR (bkD q r z) (bkD q r z)+(bkD q r z).z*(bkD q r z).z:=by
 rw[zn0 hq hr]
 exact Rat.mul_pos (Rat.mul_pos hz hz) (zfo hq hr)
theorem zus{q r z:Rat}(hq:Pit q)(hr:Pit r)(hz:Bd 3 z):B3 12 (bkD q r z) :=
 ⟨(hz.quot hq.bd (npos hq.pos)).mono (by decide),(hz.quot hr.bd (npos hr.pos)).mono (by decide),hz.mono (by decide)⟩
def bkL(c q r z:Rat):List (Rat × Nat):=[(c*aOf (1 / (z*z*zel q r)),leftOf (1 / (z*z*zel q r)))]
def zpF(q r:Rat):List (Rat × Nat):=[(1*aOf (zel q r),leftOf (zel q r))]
theorem zoK{q r z:Rat}(hq:Pit q)(hr:Pit r)(hz:0<z):0<1 / (z*z*zel q r):=zbV (by decide) (Rat.mul_pos (Rat.mul_pos hz hz) (zfo hq hr))
theorem zrk{q r z:Rat}(hq:Pit q)(hr:Pit r)(hz:0<z)(bz:Bd 3 z):Bd 20 (1 / (z*z*zel q r)):=zbs.quot ((bz.mul bz).mul (zlv hq hr)) (npos (Rat.mul_pos (Rat.mul_pos hz hz) (zfo hq hr)))
theorem znW{q r z c:Rat}(hq:Pit q)(hr:Pit r)(hz:0<z)(bz:Bd 3 z)(hc:0<c)(bc:Bd 7 c):∃ C,zaX [(c,1 / (z*z*zel q r))]=some C∧zgj C=bkL c q r z∧FA (bkL c q r z)∧∀ c'∈bkL c q r z,zbq c'=true:=by
 have hs:=zoK hq hr hz
 have bs:=zrk hq hr hz bz
 have ba:=zm0 bs (npos hs)
 obtain⟨C,hC⟩:=zqG (zaa hc) hs (bs.mono (by decide)) (zmB bs (npos hs) (by decide)) (znz bc ba (by decide)) ((bc.mul ba).mono (by decide))
 obtain⟨h1,h2,h3⟩:=zom (zaa hc) hs hC
 rw[h1]at h2 h3
 exact⟨C,hC,h1,h2,h3⟩
theorem ztH{q r z c:Rat}(hq:Pit q)(hr:Pit r)(hz:0<z)(bz:Bd 3 z)(hc:0<c)(bc:Bd 7 c):(∀ cs,zd5 (zg9 (bkL c q r z) (zpF q r))=some cs→cs.length≤2)∧∃ C,zaX (zg9 (bkL c q r z) (zpF q r))=some C∧zgj C=[(c / z,1)]:=by
 have hs:=zoK hq hr hz
 have bs:=zrk hq hr hz bz
 have ba:=zm0 bs (npos hs)
 have bl:Bd 40 ((leftOf (1 / (z*z*zel q r)):Nat):Rat):=zmB bs (npos hs) (by decide)
 have hk:=zfo hq hr
 have bk:=zlv hq hr
 have ka:=zm0 bk (npos hk)
 have kl:Bd 26 ((leftOf (zel q r):Nat):Rat):=zmB bk (npos hk) (by decide)
 have ht:0<1 / z:=zbV (by decide) hz
 have hz0:=zaa hz
 have hk0:=zaa hk
 have hst:1 / (z*z*zel q r)*zel q r=1 / z*(1 / z):=by
  generalize zel q r=K at *
  grind
 obtain⟨h1,h2⟩:=zt1 (c1:=c) (c2:=1) hc (by decide) hs hk ht hst
 have p1:=zjR (npos hs)
 have p2:=zjR (npos hk)
 have e1:=zg7 (npos hs)
 have e2:=zg7 (npos hk)
 have n1:(0:Rat)<(leftOf (1 / (z*z*zel q r)):Rat):=Rat.natCast_pos.2 (zfp (npos hs)).1
 have n2:(0:Rat)<(leftOf (zel q r):Rat):=Rat.natCast_pos.2 (zfp (npos hk)).1
 have e:zg9 (bkL c q r z) (zpF q r)=[(c*aOf (1 / (z*z*zel q r))*(1*aOf (zel q r)),(leftOf (1 / (z*z*zel q r)):Rat)*(leftOf (zel q r):Rat))]:=rfl
 refine⟨h1,?_⟩
 have hC:∃ C,zaX (zg9 (bkL c q r z) (zpF q r))=some C:=by
  rw[e]
  generalize aOf (1 / (z*z*zel q r))=x at *
  generalize aOf (zel q r)=y at *
  generalize (leftOf (1 / (z*z*zel q r)):Rat)=m at *
  generalize (leftOf (zel q r):Rat)=n at *
  generalize 1 / (z*z*zel q r)=s at *
  generalize zel q r=K at *
  have bt:Bd 4 (1 / z):=zbs.quot bz (npos hz)
  have hr':0<1 / z / (x*y):=zbV ht (Rat.mul_pos p1 p2)
  have hx:=zaa p1
  have hy:=zaa p2
  have hmn:m*n=1 / z / (x*y)*(1 / z / (x*y)):=by
   have h3:x*x*m*(y*y*n)=1 / z*(1 / z):=by rw[e1,e2,hst]
   generalize 1 / z=t at *
   grind
  obtain⟨q1,q2⟩:=zkP hr'
  have b4:Bd 66 (x*y):=ba.mul ka
  have b5:Bd 70 (1 / z / (x*y)):=bt.quot b4 (npos (Rat.mul_pos p1 p2))
  have bcx:Bd 73 (c*x*(1*y)):=by
   rw[show (1:Rat)*y=y by grind]
   exact(bc.mul ba).mul ka
  refine zqG (zaa (Rat.mul_pos (Rat.mul_pos hc p1) (Rat.mul_pos (by decide) p2))) (Rat.mul_pos n1 n2) ((bl.mul kl).mono (by decide)) ?_ ?_ ?_
  ·rw[hmn,q2];exact zbs.mono (by decide)
  ·rw[hmn,q1];exact znz bcx b5 (by decide)
  ·rw[hmn,q1,show c*x*(1*y)*(1 / z / (x*y))=c*(1 / z) by grind]
   exact(bc.mul bt).mono (by decide)
 obtain⟨C,hC⟩:=hC
 refine⟨C,hC,?_⟩
 have:=h2 C hC
 rw[this,show c*1*(1 / z)=c / z by grind]
theorem zow{q r:Rat}(hq:Pit q)(hr:Pit r):∃ C,zaX [(1,zel q r)]=some C∧zgj C=zpF q r∧FA (zpF q r)∧∀ c'∈zpF q r,zbq c'=true:=by
 have hk:=zfo hq hr
 have bk:=zlv hq hr
 have ka:=zm0 bk (npos hk)
 obtain⟨C,hC⟩:=zqG (x:=1) (by decide) hk (bk.mono (by decide)) ((zmB bk (npos hk) (by decide)).mono (by decide)) (znz zbs ka (by decide)) ((zbs.mul ka).mono (by decide))
 obtain⟨h1,h2,h3⟩:=zom (by decide) hk hC
 rw[h1]at h2 h3
 exact⟨C,hC,h1,h2,h3⟩
end
section
open Go.RowKit Go.Shelf Kp
attribute [local go_sem] Oper.semAt_some
theorem zrJ(a b:Int)(w:World):(Builtin.max_ #[3,3] 3 #[.int .i64 a,.int .i64 b]).run Tryz.prog w=.ok (.int .i64 (max a b)) w:=by
 have h:∀ x y:Int,(if y > x then y else x)=max x y:=fun x y=>by
  rw[Int.max_def]
  split <;> split <;> omega
 simp only[Builtin.max_,Builtin.max2,List.foldlM_cons,List.foldlM_nil,Sem.run_bind,Sem.run_pure,Result.andThen_ok,h]
theorem zrI(a b:Int)(w:World):(Builtin.min_ #[3,3] 3 #[.int .i64 a,.int .i64 b]).run Tryz.prog w=.ok (.int .i64 (min a b)) w:=by
 have h:∀ x y:Int,(if y<x then y else x)=min x y:=fun x y=>by
  rw[Int.min_def]
  split <;> split <;> omega
 simp only[Builtin.min_,Builtin.min2,List.foldlM_cons,List.foldlM_nil,Sem.run_bind,Sem.run_pure,Result.andThen_ok,h]
theorem znh(a b:Nat)(h1:1≤a)(h2:a≤48)(h3:1≤b)(h4:b≤48)(w:World) :
  Calls Tryz.prog 14 #[.int .i64 a,.int .i64 b] w fun e w'=>e=.returned (.int .i64 0)∧w=w':=by
 have m1:=fun w=>zrI a b w
 have m2:=fun w=>zrJ a b w
 obtain⟨m,hm⟩:∃ m,min (a:Int) b=m:=⟨_,rfl⟩
 obtain⟨n,hn⟩:∃ n,max (a:Int) b=n:=⟨_,rfl⟩
 rw[hm]at m1
 rw[hn]at m2
 have k1:¬ m<1:=by omega
 have k2:¬ 48<n:=by omega
 clear hm hn
 go_enter Tryz.func14,Tryz.ntmps14
 go_wp2
 go_ret
 exact⟨rfl,rfl⟩
theorem zof(a b:Nat)(h1:1≤a)(h2:a≤48)(h3:1≤b)(h4:b≤48)(w:World)(hE:Env w) :
  CR 5 #[.int .i64 a,.int .i64 b] w (.tuple #[.string ⟨(ze (Rat.divInt (a:Int) (b:Int))).toArray⟩,.int .i64 0]):=by
 have HC:=LH (fun w=>znh a b h1 h2 h3 h4 w)
 have HO:=LH (fun w hw=>za3 (a:Int) b (by omega) (by omega) (by omega) w hw)
 generalize ze (Rat.divInt (a:Int) (b:Int))=R at *
 go_enter Tryz.func5,Tryz.ntmps5
 have hQ0:=Q.refl w
 go_wp2_with fail
 refine(HC.out _).mono ?_
 rintro e w1⟨rfl,rfl⟩
 go_wp2_with fail
 refine cx (HO.out _ hE) fun w2 hq2=>?_
 go_wp2
 go_ret2
 exact⟨rfl,hq2⟩
theorem zrK{q:Rat}(h:0<q):(ze q == [48])=false∧decide ((ze q).head? = some 45)=false:=by
 refine⟨?_,?_⟩
 ·rw[beq_eq_false_iff_ne]
  intro e
  have e2:ze q=ze 0:=by rw[e,zaw]
  rw[zaS e2]at h
  exact absurd h (by decide)
 ·rw[decide_eq_false_iff_not]
  have hn:=npos h
  unfold ze
  intro e
  split at e
  ·have e2:(Lib.itoa q.num++[]).head? = some 45:=by rw[List.append_nil];exact e
   have:=(zbC q.num []).1 e2
   omega
  ·have:=(zbC q.num _).1 e
   omega
theorem zfA(q:Rat)(h0:0<q)(hq:zah q=false)(w:World)(hE:Env w) :
  CR 69 #[.string ⟨(ze q).toArray⟩] w (.int .i64 0):=by
 have HC:=LH (zI q hq w hE)
 obtain⟨b1,b2⟩:=zrK h0
 have HT:=LH (fun w=>zY (ze q) w)
 rw[b2]at HT
 generalize ze q=S at *
 go_enter Tryz.func69,Tryz.ntmps69
 go_wp2_with fail
 refine HC.out.mono ?_
 rintro e w1⟨rfl,hq1⟩
 go_wp2_with fail
 refine(HT.out _).mono ?_
 rintro e w2⟨rfl,rfl⟩
 go_wp2
 go_ret
 exact⟨rfl,hq1⟩
def zkj(w:World)(b:Nat):Prop:=Blk w b [.int .i64 0] 121
theorem zkj.keep{w w':World}{b:Nat}(h:zkj w b)(hq:Q w w'):zkj w' b:=Blk.keep h hq (Blk.lt h)
theorem ziO(X:Str)(b:Nat)(w:World)(hb:zkj w b) :
  CR 68 #[.pointer (some ⟨b,0,none⟩),.string ⟨X.toArray⟩,.int .i64 0] w (.string ⟨X.toArray⟩):=by
 have B:Blk w b [.int .i64 0] 121:=hb
 have c0:=B.cell
 go_enter Tryz.func68,Tryz.ntmps68
 go_wp2
 go_ret
 exact⟨rfl,bt⟩
theorem zoa{k l:Nat}(x y:Rat)(hx:Bd k x)(hy:Bd l y)(h:k+l≤300)(b:Nat)(w:World)(hE:Env w)(hb:zkj w b) :
  CR 70 #[.pointer (some ⟨b,0,none⟩),.string ⟨(ze x).toArray⟩,.string ⟨(ze y).toArray⟩] w (.string ⟨(ze (x*y)).toArray⟩):=by
 have HD:=LH (fun w hw=>zbk x y hx hy h w hw)
 have HK:=LH (fun w hb=>ziO (ze (x*y)) b w hb)
 go_enter Tryz.func70,Tryz.ntmps70
 have hQ0:=Q.refl w
 go_wp2_with fail
 refine cx (HD.out _ hE) fun w1 hq1=>?_
 have hs1:Q w w1:=Q.trans bt hq1
 have hQ1:Q w w1:=Q.trans hQ0 hs1
 go_wp2_with fail
 refine cx (HK.out _ (hb.keep hq1)) fun w2 hq2=>?_
 have hs2:Q w1 w2:=Q.trans bt hq2
 have hQ2:Q w w2:=Q.trans hQ1 hs2
 go_wp2
 go_ret
 exact⟨rfl,bt⟩
theorem zoc{k l:Nat}(x y:Rat)(hx:Bd k x)(hy:Bd l y)(h:k+l+1≤300)(b:Nat)(w:World)(hE:Env w)(hb:zkj w b) :
  CR 34 #[.pointer (some ⟨b,0,none⟩),.string ⟨(ze x).toArray⟩,.string ⟨(ze y).toArray⟩] w (.string ⟨(ze (x+y)).toArray⟩):=by
 have HD:=LH (fun w hw=>zeV x y hx hy h w hw)
 have HK:=LH (fun w hb=>ziO (ze (x+y)) b w hb)
 go_enter Tryz.func34,Tryz.ntmps34
 have hQ0:=Q.refl w
 go_wp2_with fail
 refine cx (HD.out _ hE) fun w1 hq1=>?_
 have hs1:Q w w1:=Q.trans bt hq1
 have hQ1:Q w w1:=Q.trans hQ0 hs1
 go_wp2_with fail
 refine cx (HK.out _ (hb.keep hq1)) fun w2 hq2=>?_
 have hs2:Q w1 w2:=Q.trans bt hq2
 have hQ2:Q w w2:=Q.trans hQ1 hs2
 go_wp2
 go_ret
 exact⟨rfl,bt⟩
theorem zob{k l:Nat}(x y:Rat)(hx:Bd k x)(hy:Bd l y)(h0:y.num≠0)(h:k+l≤300)(b:Nat)(w:World)(hE:Env w)(hb:zkj w b) :
  CR 35 #[.pointer (some ⟨b,0,none⟩),.string ⟨(ze x).toArray⟩,.string ⟨(ze y).toArray⟩] w (.string ⟨(ze (x / y)).toArray⟩):=by
 have HD:=LH (fun w hw=>zbK x y hx hy h0 h w hw)
 have HK:=LH (fun w hb=>ziO (ze (x / y)) b w hb)
 go_enter Tryz.func35,Tryz.ntmps35
 have hQ0:=Q.refl w
 go_wp2_with fail
 refine cx (HD.out _ hE) fun w1 hq1=>?_
 have hs1:Q w w1:=Q.trans bt hq1
 have hQ1:Q w w1:=Q.trans hQ0 hs1
 go_wp2_with fail
 refine cx (HK.out _ (hb.keep hq1)) fun w2 hq2=>?_
 have hs2:Q w1 w2:=Q.trans bt hq2
 have hQ2:Q w w2:=Q.trans hQ1 hs2
 go_wp2
 go_ret
 exact⟨rfl,bt⟩
end
end Go.Proofs.YthdpnkkddhcacaaGreatDoor
