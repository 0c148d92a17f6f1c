/-
  Walks of package bevel: the bevels of a hip, where no line is given.; The example of chapter 33: its plan, its members, their numbers.; slices.Equal at surds of one term that read the same.
-/
import Derived.Test.YtjnhmfcklodfdaaGreatDoorIV26
import Derived.Test.YtjnhmfcklodfdaaGreatDoorIV25
set_option maxRecDepth 100000
set_option maxHeartbeats 8000000
namespace Go.Proofs.YtjnhmfcklodfdaaGreatDoor
section
open Go.RowKit Go.Shelf Kp
attribute [local go_sem] Oper.semAt_some
def zj3(w:World):Prop:=0<w.heap.size∧∃ bm,bm<w.heap.size∧w.cell? ⟨0,0,none⟩=some (.map (some bm)) ∧
 ∃ o,w.heap[bm]? = some o∧∀ W:World,W.heap[bm]? = some o→(Instr.lookup 102 (.map (some bm)) (.int .i64 6) false).run Tryz.prog W=.ok (.func (.func 335) #[] #[]) W
theorem zj3.q{w w':World}(h:zj3 w)(hq:Q w w'):zj3 w':=by
 obtain⟨hg,bm,hb,hc,o,ho,hl⟩:=h
 exact⟨Nat.lt_of_lt_of_le hg hq.size,bm,Nat.lt_of_lt_of_le hb hq.size,by rw[hq.cell (p:=⟨0,0,none⟩) hg];exact hc,o,by rw[hq.block bm hb];exact ho,hl⟩
theorem znX(w:World):CR 90 #[.slice none 0 0,.func (.func 49) #[] #[]] w (.int .i64 (-1)):=by
 go_enter Tryz.func90,Tryz.ntmps90
 go_wp2
 refine wp_loop_rounds 1 ?_
 rw[rounds_succ]
 go_wp2
 go_ret
 exact⟨rfl,bt⟩
theorem zko(w:World):CR 48 #[.slice none 0 0,.func (.func 49) #[] #[]] w (.bool false):=by
 have HI:=LH (znX w)
 go_enter Tryz.func48,Tryz.ntmps48
 go_wp2_with fail
 refine HI.out.mono ?_
 rintro e w1⟨rfl,hq1⟩
 go_wp2
 go_ret
 exact⟨rfl,hq1⟩
theorem zny{W:World}{b:Nat}{c0 c1 c2 c3 c4:Value}(h:Blk W b [c0,c1,c2,c3,c4] 52)(fn:Func)(m k:Nat)(hf:fn.results=#[.cell m 52,.tmp k])(tmps:Array Value)(u:Value)(hp:tmps.getD m undef=.pointer (some ⟨b,0,none⟩))(hk:tmps.getD k undef=u) :
  (results fn tmps).run Tryz.prog W=.ok (.tuple #[.agg #[c0,c1,c2,c3,c4],u]) W:=by
 have e0:=h.cell
 simp only[Array.getD_eq_getD_getElem?]at hp hk
 simp[results,hf,go_sem,hp,hk,e0]
theorem zsI(F O W D:Int)(X1 X2 X3 X4 X5 X6:Str)(a:Option Addr)(nn cp:Nat)(L0 L1 L2:List (Rat × Nat))(w:World)(hE:Env w)(hA:zj3 w)
  (HCP:Hid (∀ b cap ty W',Env W'→Q w W'→Blk W' b [.int .i64 6,.int .i64 F,.int .i64 O,.string ⟨X1.toArray⟩,.string ⟨X2.toArray⟩,.string ⟨X3.toArray⟩,.string ⟨X4.toArray⟩,.string ⟨X5.toArray⟩,.string ⟨X6.toArray⟩,.int .i64 W,.int .i64 D] ty→CR 42 #[.agg #[.slice a nn cp],.slice (some ⟨b,0,none⟩) 1 cap] W' (.int .i64 0)))
  (HSE:Hid (∀ W',Env W'→Q w W'→Calls Tryz.prog 6 #[.agg #[.int .i64 6,.int .i64 F,.int .i64 O,.string ⟨X1.toArray⟩,.string ⟨X2.toArray⟩,.string ⟨X3.toArray⟩,.string ⟨X4.toArray⟩,.string ⟨X5.toArray⟩,.string ⟨X6.toArray⟩,.int .i64 W,.int .i64 D]] W' (zrJ W' L0)))
  (H1:Hid (∀ W',Env W'→Q w W'→Calls Tryz.prog 337 #[.agg #[.slice a nn cp],.agg #[.int .i64 6,.int .i64 F,.int .i64 O,.string ⟨X1.toArray⟩,.string ⟨X2.toArray⟩,.string ⟨X3.toArray⟩,.string ⟨X4.toArray⟩,.string ⟨X5.toArray⟩,.string ⟨X6.toArray⟩,.int .i64 W,.int .i64 D],.int .i64 F] W' (zrJ W' L1)))
  (H2:Hid (∀ W',Env W'→Q w W'→Calls Tryz.prog 337 #[.agg #[.slice a nn cp],.agg #[.int .i64 6,.int .i64 F,.int .i64 O,.string ⟨X1.toArray⟩,.string ⟨X2.toArray⟩,.string ⟨X3.toArray⟩,.string ⟨X4.toArray⟩,.string ⟨X5.toArray⟩,.string ⟨X6.toArray⟩,.int .i64 W,.int .i64 D],.int .i64 O] W' (zrJ W' L2))) :
  Calls Tryz.prog 19 #[.agg #[.slice a nn cp,.slice none 0 0,.slice none 0 0,.slice none 0 0],.agg #[.int .i64 6,.int .i64 F,.int .i64 O,.string ⟨X1.toArray⟩,.string ⟨X2.toArray⟩,.string ⟨X3.toArray⟩,.string ⟨X4.toArray⟩,.string ⟨X5.toArray⟩,.string ⟨X6.toArray⟩,.int .i64 W,.int .i64 D]] w
   fun e w'=>∃ v0 v3 v4,e=.returned (.tuple #[.agg #[v0,.slice none 0 0,.slice none 0 0,v3,v4],.int .i64 0])∧Q w w'∧zK w' w.heap.size v0 L0∧zK w' w.heap.size v3 L1∧zK w' w.heap.size v4 L2:=by
 have HL:=LH zko
 have HBK:=LH (fun ob c0 W' (hW:Env W') (hq:Q w W') (h1:w.heap.size≤ob) hb=>zkp 6 F O W D X1 X2 X3 X4 X5 X6 a nn cp ob c0 (.slice none 0 0) (.slice none 0 0) (.slice none 0 0) (.slice none 0 0) L1 L2 W' hW (Nat.le_trans hE.size h1) hb
  (LH (fun V hV hB=>H1.out V hV (Below.trans hq (hB.mono h1)))) (LH (fun V hV hB=>H2.out V hV (Below.trans hq (hB.mono h1)))))
 clear H1 H2
 obtain⟨W0,hW0⟩:∃ W0,((w.alloc (.cells #[.slice a nn cp,.slice none 0 0,.slice none 0 0,.slice none 0 0] 59)).alloc (.cells #[.int .i64 6,.int .i64 F,.int .i64 O,.string ⟨X1.toArray⟩,.string ⟨X2.toArray⟩,.string ⟨X3.toArray⟩,.string ⟨X4.toArray⟩,.string ⟨X5.toArray⟩,.string ⟨X6.toArray⟩,.int .i64 W,.int .i64 D] 26)).alloc (.cells #[.slice none 0 0,.slice none 0 0,.slice none 0 0,.slice none 0 0,.slice none 0 0] 52)=W0:=⟨_,rfl⟩
 have hq0:Q w W0:=by rw[← hW0];exact bt
 have BR:Blk W0 w.heap.size [.slice a nn cp,.slice none 0 0,.slice none 0 0,.slice none 0 0] 59:=by rw[← hW0];exact((Blk.new w _ _).alloc _).alloc _
 have BM:Blk W0 (w.heap.size+1) [.int .i64 6,.int .i64 F,.int .i64 O,.string ⟨X1.toArray⟩,.string ⟨X2.toArray⟩,.string ⟨X3.toArray⟩,.string ⟨X4.toArray⟩,.string ⟨X5.toArray⟩,.string ⟨X6.toArray⟩,.int .i64 W,.int .i64 D] 26:=by rw[← hW0];exact(Blk.new1 w _ _ _).alloc _
 have BZ:Blk W0 (w.heap.size+2) [.slice none 0 0,.slice none 0 0,.slice none 0 0,.slice none 0 0,.slice none 0 0] 52:=by rw[← hW0];exact Blk.new2 w _ _ _ _
 go_enter Tryz.func19,Tryz.ntmps19
 have hQ0:=Q.refl W0
 replace r0:=BR.cell
 replace lBR:=BR.lt
 replace m0:=BM.cell
 replace lBM:=BM.lt
 go_wp2_with fail
 clear hW0
 have BS:=Blk.new W0 [.int .i64 6,.int .i64 F,.int .i64 O,.string ⟨X1.toArray⟩,.string ⟨X2.toArray⟩,.string ⟨X3.toArray⟩,.string ⟨X4.toArray⟩,.string ⟨X5.toArray⟩,.string ⟨X6.toArray⟩,.int .i64 W,.int .i64 D] 26
 refine cx (HCP.out _ _ _ _ (hE.ofQ (Q.trans hq0 bt)) (Q.trans hq0 bt) BS) fun G1 hg1=>?_
 have hQ1:Q W0 G1:=Q.trans bt hg1
 replace BR:=BR.keep hQ1 BR.lt
 replace BM:=BM.keep hQ1 BM.lt
 clear BS hg1 HCP r0 lBR m0 lBM
 replace r0:=BR.cell
 replace lBR:=BR.lt
 replace m0:=BM.cell
 replace lBM:=BM.lt
 go_wp2_with fail
 refine cx (HL.out _) fun G2 hg2=>?_
 have hQ2:Q W0 G2:=Q.trans hQ1 hg2
 replace BR:=BR.keep hg2 BR.lt
 replace BM:=BM.keep hg2 BM.lt
 clear HL r0 lBR m0 lBM hQ1 hg2
 replace r0:=BR.cell
 replace lBR:=BR.lt
 replace m0:=BM.cell
 replace lBM:=BM.lt
 go_wp2_with fail
 have BO:=Blk.new G2 [.slice none 0 0,.slice none 0 0,.slice none 0 0,.slice none 0 0,.slice none 0 0] 52
 have hqa:Q G2 (G2.alloc (.cells ([.slice none 0 0,.slice none 0 0,.slice none 0 0,.slice none 0 0,.slice none 0 0]:List Value).toArray 52)):=bt
 have hw2:=Q.trans hq0 hQ2
 refine(HSE.out _ (hE.ofQ (Q.trans hw2 hqa)) (Q.trans hw2 hqa)).mono ?_
 rintro e G3⟨v0,rfl,hg3,hs0⟩
 obtain⟨g0,cap0,rfl,-⟩:=hs0.form
 have hq23:Q G2 G3:=Q.trans hqa hg3
 have hz0b:=BZ.lt
 replace BO:=BO.keep hg3 BO.lt
 replace BR:=BR.keep hq23 BR.lt
 replace BM:=BM.keep hq23 BM.lt
 replace BZ:=BZ.keep (Q.trans hQ2 hq23) BZ.lt
 have hz0:=hq0.size
 have hz2:=hQ2.size
 have ho0:w.heap.size+2<G2.heap.size:=Nat.lt_of_lt_of_le hz0b hz2
 have hs0':zK G3 (G2.heap.size+1) (.slice g0 L0.length cap0) L0:=by rw[World.size_alloc]at hs0;exact hs0
 generalize G2.heap.size=ob at *
 clear HSE hs0 hg3 r0 lBR m0 lBM
 have hQ0:=Q.refl G3
 replace r0:=BR.cell
 replace lBR:=BR.lt
 replace m0:=BM.cell
 replace lBM:=BM.lt
 replace o0:=BO.cell
 replace lBO:=BO.lt
 have fo:=BO.frozen
 have hw3:Q w G3:=Q.trans hw2 hq23
 obtain⟨X,hX⟩:∃ X,G3.setCell ⟨ob,0,none⟩ (.slice g0 L0.length cap0)=X:=⟨_,rfl⟩
 have hwX:Q w (G3.setCell ⟨ob,0,none⟩ (.slice g0 L0.length cap0)):=Below.setCell (p:=⟨ob,0,none⟩) hw3 (show w.heap.size≤ob by omega) _
 have BOX:=BO.set 0 (.slice g0 L0.length cap0)
 simp only[List.set_cons_zero]at BOX
 have BRX:=BR.setOther (show ob≠w.heap.size by omega) 0 (.slice g0 L0.length cap0)
 have BMX:=BM.setOther (show ob≠w.heap.size+1 by omega) 0 (.slice g0 L0.length cap0)
 have BZX:=BZ.setOther (show ob≠w.heap.size+2 by omega) 0 (.slice g0 L0.length cap0)
 have hsX:zK (G3.setCell ⟨ob,0,none⟩ (.slice g0 L0.length cap0)) (ob+1) (.slice g0 L0.length cap0) L0:=zaM hs0' (g:=ob) (by omega) 0 _
 obtain⟨hga,bm,hbm,hca,ob2,hob2,hlk⟩:=hA.q hwX
 have hlk':=hlk _ hob2
 rw[hX]at hwX BOX BRX BMX BZX hsX hca hlk'
 clear hga hbm hob2 hlk hs0' BZ
 have hnf:∀ w,(binOp BinOp.neq 101 (Value.func (Fn.func 335) #[] #[]) Value.nilFunc).run Tryz.prog w=.ok (.bool true) w:=fun w=>by kernel_rfl
 replace x0:=BRX.cell
 replace lBRX:=BRX.lt
 replace y0:=BMX.cell
 replace lBMX:=BMX.lt
 go_wp2_with fail
 refine(HBK.out ob _ X (hE.ofQ hwX) hwX (by omega) BOX).mono ?_
 rintro e V⟨v3,v4,rfl,hBV,hKV,BV,h3,h4⟩
 obtain⟨g3,cap3,rfl,-⟩:=h3.form
 obtain⟨g4,cap4,rfl,-⟩:=h4.form
 have BZV:=BZX.keep hBV (by omega)
 have hwV:Q w V:=Below.trans hwX (hBV.mono (by omega))
 have hs0V:zK V (ob+1) (.slice g0 L0.length cap0) L0:=by
  refine⟨hsX.1,hsX.2.elim .inl ?_⟩
  rintro⟨g,cap,cur,hv,hg,hc,r⟩
  exact .inr ⟨g,cap,cur,hv,hg,(hKV g (Array.getElem?_eq_some_iff.1 hc).1 (by omega)).trans hc,r⟩
 have hVw:w.heap.size≤X.heap.size:=hwX.size
 have b0:w.heap.size≤w.heap.size+2:=by omega
 have hQe:Q w (((((V.setCell ⟨w.heap.size+2,0,none⟩ (.slice g0 L0.length cap0)).setCell ⟨w.heap.size+2,1,none⟩ (.slice none 0 0)).setCell ⟨w.heap.size+2,2,none⟩ (.slice none 0 0)).setCell ⟨w.heap.size+2,3,none⟩ (.slice g3 L1.length cap3)).setCell ⟨w.heap.size+2,4,none⟩ (.slice g4 L2.length cap4)) :=
  ((((hwV.setCell (p:=⟨w.heap.size+2,0,none⟩) b0 _).setCell (p:=⟨w.heap.size+2,1,none⟩) b0 _).setCell (p:=⟨w.heap.size+2,2,none⟩) b0 _).setCell (p:=⟨w.heap.size+2,3,none⟩) b0 _).setCell (p:=⟨w.heap.size+2,4,none⟩) b0 _
 have up5:∀ {B:Nat} {v:Value} {L:List (Rat × Nat)},w.heap.size+3≤B→zK V B v L→zK (((((V.setCell ⟨w.heap.size+2,0,none⟩ (.slice g0 L0.length cap0)).setCell ⟨w.heap.size+2,1,none⟩ (.slice none 0 0)).setCell ⟨w.heap.size+2,2,none⟩ (.slice none 0 0)).setCell ⟨w.heap.size+2,3,none⟩ (.slice g3 L1.length cap3)).setCell ⟨w.heap.size+2,4,none⟩ (.slice g4 L2.length cap4)) w.heap.size v L:=fun hB h=>by
  refine Joins.ownsRow_le (zaM (zaM (zaM (zaM (zaM h (g:=w.heap.size+2) ?_ 0 _) (g:=w.heap.size+2) ?_ 1 _) (g:=w.heap.size+2) ?_ 2 _) (g:=w.heap.size+2) ?_ 3 _) (g:=w.heap.size+2) ?_ 4 _) (by omega) <;> omega
 have hXb:w.heap.size+3≤X.heap.size:=by have:=BOX.lt;omega
 have e0:=up5 (by omega) hs0V
 have e3:=up5 hXb h3
 have e4:=up5 hXb h4
 have fz:=BZV.frozen
 have hov:=BV.cell
 have BZe:=((((BZV.set 0 (.slice g0 L0.length cap0)).set 1 (.slice none 0 0)).set 2 (.slice none 0 0)).set 3 (.slice g3 L1.length cap3)).set 4 (.slice g4 L2.length cap4)
 simp only[List.set_cons_zero,List.set_cons_succ]at BZe
 clear HBK hlk' hca BRX BMX BZX BOX x0 lBRX y0 lBMX
 have hzc:=BZV.cell
 clear up5 hs0V h3 h4 hBV hKV
 go_wp2_with fail
 exact bodyPost_ret (zny BZe Tryz.f19 4 5 rfl _ _ rfl rfl) rfl ⟨_,_,_,rfl,hQe,e0,e3,e4⟩
def sqr:List Sd:=[⟨0,0,1,1,false,0,0⟩,⟨10,0,3,4,false,0,0⟩,⟨10,10,1,1,false,0,0⟩,⟨0,10,1,1,false,0,0⟩]
theorem zsW:zdR [sqr]=0:=by kernel_rfl
theorem zqn:zaF [sqr]≤1000:=by
 rw[show zaF [sqr]=4 from by kernel_rfl]
 decide
def ex0:Fr:=⟨false,0,1,1,0⟩
def ex1:Fr:=⟨true,10,-1,4 / 3,0⟩
def ex3:Fr:=⟨true,0,1,1,0⟩
theorem zuq:(zb9 [sqr])[0]? = some ex0:=by kernel_rfl
theorem zup:(zb9 [sqr])[1]? = some ex1:=by kernel_rfl
theorem zuo:(zb9 [sqr])[3]? = some ex3:=by kernel_rfl
theorem ztS:zrL ex0=[.string ⟨(ze 0).toArray⟩,.string ⟨(ze 1).toArray⟩,.string ⟨(ze 0).toArray⟩]:=by kernel_rfl
theorem ztR:zrL ex1=[.string ⟨(ze (-3 / 4)).toArray⟩,.string ⟨(ze 0).toArray⟩,.string ⟨(ze (15 / 2)).toArray⟩]:=by kernel_rfl
theorem ztQ:zrL ex3=[.string ⟨(ze 1).toArray⟩,.string ⟨(ze 0).toArray⟩,.string ⟨(ze 0).toArray⟩]:=by kernel_rfl
def exm:Vm:=⟨2,1,-1,⟨10,5,0⟩,⟨6,5,3⟩,50,100⟩
def exh:Vm:=⟨6,3,0,⟨0,0,0⟩,⟨4,4,4⟩,50,100⟩
theorem zu1:exm.c=[.int .i64 2,.int .i64 1,.int .i64 (-1),.string ⟨#[49,48]⟩,.string ⟨#[53]⟩,.string ⟨#[48]⟩,.string ⟨#[54]⟩,.string ⟨#[53]⟩,.string ⟨#[51]⟩,.int .i64 50,.int .i64 100]:=by kernel_rfl
theorem zuH:exh.c=[.int .i64 6,.int .i64 3,.int .i64 0,.string ⟨#[48]⟩,.string ⟨#[48]⟩,.string ⟨#[48]⟩,.string ⟨#[52]⟩,.string ⟨#[52]⟩,.string ⟨#[52]⟩,.int .i64 50,.int .i64 100]:=by kernel_rfl
theorem ziw(z:Int)(h:z.natAbs<100:=by decide):Bd 12 (z:Rat):=zoC (by omega) (by decide)
theorem zoH:VmOk exm:=⟨⟨by decide,by decide,by decide,by decide,by decide,by decide⟩,⟨by decide,by decide⟩,⟨ziw 10,ziw 5,ziw 0⟩,⟨ziw 6,ziw 5,ziw 3⟩,by decide⟩
theorem zkR:VmOk exh:=⟨⟨by decide,by decide,by decide,by decide,by decide,by decide⟩,⟨by decide,by decide⟩,⟨ziw 0,ziw 0,ziw 0⟩,⟨ziw 4,ziw 4,ziw 4⟩,by decide⟩
def exd:P3:=⟨-4,0,3⟩
def exv:P3:=⟨4,4,4⟩
theorem zn4:exm.t.sub exm.f=exd:=by kernel_rfl
theorem zm2:exh.t.sub exh.f=exv:=by kernel_rfl
theorem ztO:zaR (zd4 exd)=some [(3 / 4,1)]:=by kernel_rfl
theorem zsr:zaR (zc2 exd)=some [(4 / 3,1)]:=by kernel_rfl
theorem zsu:zaR (zjS (-3 / 4) 0 exd exv)=some [(5 / 4,1)]:=by kernel_rfl
theorem zsv:zaR (zl2 1 0 exv)=some [(1 / 3,3)]:=by kernel_rfl
theorem zsw:zaR (zl2 0 1 exv)=some [(1 / 3,3)]:=by kernel_rfl
theorem zss:zaR (zd4 exv)=some [(1 / 2,2)]:=by kernel_rfl
theorem MkP.a{W:World}{T:List (Rat × Rat)}{C:List (Rat × Nat)}{e:Ending}{w':World}(h:MkP W T e w')(hm:zaR T=some C):zrJ W (zgj C) e w':=by
 obtain⟨v,E,rfl,hq,h | ⟨rfl,C',h1,h2⟩⟩:=h
 ·rw[hm]at h;cases h.1
 ·rw[hm]at h1
  cases h1
  exact⟨v,rfl,hq,h2⟩
theorem zlS(l:List Vm)(hl:∀ m∈l,VmOk m)(h2:l.length≤2)(a:Option Addr)(nn cp:Nat)(w:World)(hv:zj0 w (.slice a nn cp) [sqr])(b cap:Nat)(ty:TypeId)(W:World)(hE:Env W)(hq:Q w W)(hb:Blk W b (l.flatMap Vm.c) ty) :
  CR 42 #[.agg #[.slice a nn cp],.slice (some ⟨b,0,none⟩) l.length cap] W (.int .i64 0) :=
 zjU [sqr] zsW (by decide) zqn a nn cp l hl h2 b cap ty W hE (hv.keep hq) hb
theorem zrr(i:Nat)(F:Fr)(A B C:Rat)(hi:i<[sqr].flatten.length)(hg:(zcN [sqr].flatten i).gable=false)(hF:(zb9 [sqr])[i]? = some F)(hs:F.speed≠0)(hp:zrL F=[.string ⟨(ze A).toArray⟩,.string ⟨(ze B).toArray⟩,.string ⟨(ze C).toArray⟩])(a:Option Addr)(nn cp:Nat)(w:World)(hv:zj0 w (.slice a nn cp) [sqr])(W:World)(hE:Env W)(hq:Q w W) :
  CR 43 #[.agg #[.slice a nn cp],.int .i64 i] W (.tuple #[.agg #[.string ⟨(ze A).toArray⟩,.string ⟨(ze B).toArray⟩,.string ⟨(ze C).toArray⟩],.int .i64 0]):=by
 have h:=zp1 [sqr] zsW (by decide) a nn cp i hi hg F hF hs W hE (hv.keep hq)
 rw[hp]at h
 exact h
theorem zuM(z:Int)(h:z.natAbs<100:=by decide):Bd 10 (z:Rat):=zoC (by omega) (by decide)
theorem zsy(a:Option Addr)(nn cp:Nat)(w:World)(hE:Env w)(hv:zj0 w (.slice a nn cp) [sqr]) :
  Calls Tryz.prog 17 #[.agg #[.slice a nn cp],.agg exm.c.toArray,.agg exh.c.toArray] w (zrJ w [(5 / 4,1)]):=by
 have h:=zoc exm exh zoH zkR (by decide) (by decide) (-3 / 4) 0 (15 / 2) ⟨by decide +kernel,by decide +kernel⟩ (zuM 0) (by rw[zn4,zm2];decide +kernel) (by rw[zn4];decide +kernel) (by rw[zm2];decide +kernel) a nn cp w hE
  (LH (fun b cap ty W hW hq hb=>zlS [exm,exh] (by intro x hx;simp only[List.mem_cons,List.not_mem_nil,or_false]at hx;rcases hx with rfl | rfl;exact zoH;exact zkR) (by decide) a nn cp w hv b cap ty W hW hq (by rw[List.flatMap_cons,List.flatMap_cons,List.flatMap_nil,List.append_nil];exact hb)))
  (LH (fun W hW hq=>zrr 1 ex1 (-3 / 4) 0 (15 / 2) (by decide) (by decide) zup (by decide +kernel) ztR a nn cp w hv W hW hq))
 rw[zn4,zm2]at h
 exact h.mono fun _ _ h=>h.a zsu
theorem zkS(i:Nat)(F:Fr)(A B C:Rat)(bA:Bd 10 A)(bB:Bd 10 B)(hi:i<[sqr].flatten.length)(hg:(zcN [sqr].flatten i).gable=false)(hF:(zb9 [sqr])[i]? = some F)(hs:F.speed≠0)(hp:zrL F=[.string ⟨(ze A).toArray⟩,.string ⟨(ze B).toArray⟩,.string ⟨(ze C).toArray⟩])(hr:A*exv.x+B*exv.y=exv.z)(hm:zaR (zl2 A B exv)=some [(1 / 3,3)])(a:Option Addr)(nn cp:Nat)(w:World)(hv:zj0 w (.slice a nn cp) [sqr])(W:World)(hE:Env W)(hq:Q w W) :
  Calls Tryz.prog 337 #[.agg #[.slice a nn cp],.agg exh.c.toArray,.int .i64 i] W (zrJ W [(1 / 3,3)]):=by
 have h:=zl0 exh zkR A B C bA bB (by rw[zm2];exact hr) (by rw[zm2];decide +kernel) a nn cp i W hE
  (LH (fun b cap ty W' hW hq' hb=>zlS [exh] (by intro x hx;rw[List.mem_singleton]at hx;rw[hx];exact zkR) (by decide) a nn cp w hv b cap ty W' hW (Q.trans hq hq') (by rw[List.flatMap_cons,List.flatMap_nil,List.append_nil];exact hb)))
  (LH (fun W' hW hq'=>zrr i F A B C hi hg hF hs hp a nn cp w hv W' hW (Q.trans hq hq')))
 rw[zm2]at h
 exact h.mono fun _ _ h=>h.a hm
theorem ztP(w:World)(hE:Env w):Calls Tryz.prog 6 #[.agg exm.c.toArray] w (zrJ w [(3 / 4,1)]):=by
 have h:=zhL exm zoH (by rw[zn4];decide +kernel) w hE
 rw[zn4]at h
 exact h.mono fun _ _ h=>h.a ztO
theorem zst(w:World)(hE:Env w):Calls Tryz.prog 6 #[.agg exh.c.toArray] w (zrJ w [(1 / 2,2)]):=by
 have h:=zhL exh zkR (by rw[zm2];decide +kernel) w hE
 rw[zm2]at h
 exact h.mono fun _ _ h=>h.a zss
theorem zsx(w:World)(hE:Env w):Calls Tryz.prog 7 #[.agg exm.c.toArray] w (zrJ w [(4 / 3,1)]):=by
 have h:=zjV exm zoH (by rw[zn4];decide +kernel) w hE
 rw[zn4]at h
 exact h.mono fun _ _ h=>h.a zsr
theorem zu3(a:Option Addr)(nn cp:Nat)(w:World)(hE:Env w)(hA:zj3 w)(hv:zj0 w (.slice a nn cp) [sqr]) :
  Calls Tryz.prog 19 #[.agg #[.slice a nn cp,.slice none 0 0,.slice none 0 0,.slice none 0 0],.agg exh.c.toArray] w
   fun e w'=>∃ v0 v3 v4,e=.returned (.tuple #[.agg #[v0,.slice none 0 0,.slice none 0 0,v3,v4],.int .i64 0])∧Q w w'∧zK w' w.heap.size v0 [(1 / 2,2)]∧zK w' w.heap.size v3 [(1 / 3,3)]∧zK w' w.heap.size v4 [(1 / 3,3)]:=by
 have hc:=fun b cap ty W hW hq hb=>zlS [exh] (by intro x hx;rw[List.mem_singleton]at hx;rw[hx];exact zkR) (by decide) a nn cp w hv b cap ty W hW hq hb
 have hs:=fun W hW=>zst W hW
 have h3:=fun W hW hq=>zkS 3 ex3 1 0 0 (zuM 1) (zuM 0) (by decide) (by decide) zuo (by decide +kernel) ztQ (by decide +kernel) zsv a nn cp w hv W hW hq
 have h0:=fun W hW hq=>zkS 0 ex0 0 1 0 (zuM 0) (zuM 1) (by decide) (by decide) zuq (by decide +kernel) ztS (by decide +kernel) zsw a nn cp w hv W hW hq
 simp only[List.flatMap_cons,List.flatMap_nil,List.append_nil]at hc
 rw[zuH]at hc hs h3 h0 ⊢
 exact zsI 3 0 50 100 [48] [48] [48] [52] [52] [52] a nn cp [(1 / 2,2)] [(1 / 3,3)] [(1 / 3,3)] w hE hA (LH hc) (LH (fun W hW _=>hs W hW)) (LH h3) (LH h0)
theorem zpf{W:World}{b:Nat}{c0 c1 c2 c3 c4 c5 c6:Value}(h:Blk W b [c0,c1,c2,c3,c4,c5,c6] 93)(fn:Func)(m:Nat)(hf:fn.results=#[.cell m 93])(tmps:Array Value)(hp:tmps.getD m undef=.pointer (some ⟨b,0,none⟩)) :
  (results fn tmps).run Tryz.prog W=.ok (.agg #[c0,c1,c2,c3,c4,c5,c6]) W :=
 results_cell_row hf tmps W b _ #[c0,c1,c2,c3,c4,c5,c6] (0,0) _ hp h Tryz.underlying93 rfl (by kernel_rfl)
theorem zo5(x y r n:Int)(w:World):CR 47 #[.int .i64 x,.int .i64 y,.int .i64 r,.int .i64 n] w (.agg #[.int .i64 x,.int .i64 y,.int .i64 r,.int .i64 n,.bool false,.int .i64 0,.int .i64 0]):=by
 go_enter Tryz.func47,Tryz.ntmps47
 go_wp2_with fail
 exact bodyPost_ret (zpf (Blk.new w [.int .i64 x,.int .i64 y,.int .i64 r,.int .i64 n,.bool false,.int .i64 0,.int .i64 0] 93) Tryz.f47 8 rfl _ rfl) rfl ⟨rfl,bt⟩
theorem zmr{W:World}{b:Nat}{c0:Value}(h:Blk W b [c0] 49)(fn:Func)(m:Nat)(hf:fn.results=#[.cell m 49])(tmps:Array Value)(hp:tmps.getD m undef=.pointer (some ⟨b,0,none⟩)) :
  (results fn tmps).run Tryz.prog W=.ok (.agg #[c0]) W :=
 results_cell_row hf tmps W b _ #[c0] (0,0) _ hp h Tryz.underlying49 rfl (by kernel_rfl)
theorem zmR(w:World):Calls Tryz.prog 18 #[] w fun e w'=>∃ a n c,e=.returned (.agg #[.slice a n c])∧Q w w'∧zj0 w' (.slice a n c) [sqr]:=by
 have HS:=LH zo5
 have BZ:=Blk.new w [.slice none 0 0] 49
 have hq0:Q w (w.alloc (.cells ([.slice none 0 0]:List Value).toArray 49)):=bt
 go_enter Tryz.func18,Tryz.ntmps18
 go_wp2_with fail
 refine cx (HS.out _ _ _ _ _) fun w1 hq1=>?_
 go_wp2_with fail
 refine cx (HS.out _ _ _ _ _) fun w2 hq2=>?_
 go_wp2_with fail
 refine cx (HS.out _ _ _ _ _) fun w3 hq3=>?_
 go_wp2_with fail
 refine cx (HS.out _ _ _ _ _) fun w4 hq4=>?_
 have hz4:Q (w.alloc (.cells ([.slice none 0 0]:List Value).toArray 49)) w4:=Q.trans hq1 (Q.trans hq2 (Q.trans hq3 hq4))
 have BS:=(Blk.new w4 [.int .i64 0,.int .i64 0,.int .i64 1,.int .i64 1,.bool false,.int .i64 0,.int .i64 0,.int .i64 10,.int .i64 0,.int .i64 3,.int .i64 4,.bool false,.int .i64 0,.int .i64 0,.int .i64 10,.int .i64 10,.int .i64 1,.int .i64 1,.bool false,.int .i64 0,.int .i64 0,.int .i64 0,.int .i64 10,.int .i64 1,.int .i64 1,.bool false,.int .i64 0,.int .i64 0] 93).alloc (.cells #[.slice (some ⟨w4.heap.size,0,none⟩) 4 4] 95)
 have BL:=Blk.new1 w4 (.cells ([.int .i64 0,.int .i64 0,.int .i64 1,.int .i64 1,.bool false,.int .i64 0,.int .i64 0,.int .i64 10,.int .i64 0,.int .i64 3,.int .i64 4,.bool false,.int .i64 0,.int .i64 0,.int .i64 10,.int .i64 10,.int .i64 1,.int .i64 1,.bool false,.int .i64 0,.int .i64 0,.int .i64 0,.int .i64 10,.int .i64 1,.int .i64 1,.bool false,.int .i64 0,.int .i64 0]:List Value).toArray 93) [.slice (some ⟨w4.heap.size,0,none⟩) 4 4] 95
 have BZ4:=((BZ.keep hz4 BZ.lt).alloc (.cells ([.int .i64 0,.int .i64 0,.int .i64 1,.int .i64 1,.bool false,.int .i64 0,.int .i64 0,.int .i64 10,.int .i64 0,.int .i64 3,.int .i64 4,.bool false,.int .i64 0,.int .i64 0,.int .i64 10,.int .i64 10,.int .i64 1,.int .i64 1,.bool false,.int .i64 0,.int .i64 0,.int .i64 0,.int .i64 10,.int .i64 1,.int .i64 1,.bool false,.int .i64 0,.int .i64 0]:List Value).toArray 93)).alloc (.cells #[.slice (some ⟨w4.heap.size,0,none⟩) 4 4] 95)
 have hQ:Q w ((w4.alloc (.cells ([.int .i64 0,.int .i64 0,.int .i64 1,.int .i64 1,.bool false,.int .i64 0,.int .i64 0,.int .i64 10,.int .i64 0,.int .i64 3,.int .i64 4,.bool false,.int .i64 0,.int .i64 0,.int .i64 10,.int .i64 10,.int .i64 1,.int .i64 1,.bool false,.int .i64 0,.int .i64 0,.int .i64 0,.int .i64 10,.int .i64 1,.int .i64 1,.bool false,.int .i64 0,.int .i64 0]:List Value).toArray 93)).alloc (.cells #[.slice (some ⟨w4.heap.size,0,none⟩) 4 4] 95)):=Q.trans hq0 (Q.trans hz4 bt)
 have hlt4:w.heap.size<w4.heap.size:=Nat.lt_of_lt_of_le BZ.lt hz4.size
 generalize hW:World.alloc (w4.alloc _) _=W at *
 have hzc:=BZ4.cell
 have hzf:=BZ4.frozen
 have BZe:=BZ4.set 0 (.slice (some ⟨w4.heap.size+1,0,none⟩) 1 1)
 simp only[List.set_cons_zero]at BZe
 have BSe:=BS.setOther (show w.heap.size≠w4.heap.size by omega) 0 (.slice (some ⟨w4.heap.size+1,0,none⟩) 1 1)
 have BLe:=BL.setOther (show w.heap.size≠w4.heap.size+1 by omega) 0 (.slice (some ⟨w4.heap.size+1,0,none⟩) 1 1)
 have hQe:Q w (W.setCell ⟨w.heap.size,0,none⟩ (.slice (some ⟨w4.heap.size+1,0,none⟩) 1 1)):=Below.setCell (p:=⟨w.heap.size,0,none⟩) hQ (Nat.le_refl _) _
 have hrow:zdc 7 sdC (W.setCell ⟨w.heap.size,0,none⟩ (.slice (some ⟨w4.heap.size+1,0,none⟩) 1 1)) (.slice (some ⟨w4.heap.size,0,none⟩) 4 4) sqr :=
  zdc.of_row (B:=0) ziX (l:=sqr) ⟨rfl,.inr ⟨w4.heap.size,4,_,rfl,Nat.zero_le _,BSe,by decide,by unfold maxLen;decide,rfl,rfl⟩⟩
 go_wp2_with fail
 refine bodyPost_ret (zmr BZe Tryz.f18 0 rfl _ rfl) rfl ⟨_,_,_,rfl,hQe,⟨_,_,rfl,fun i hi=>?_⟩⟩
 simp only[List.length_cons,List.length_nil]at hi
 obtain rfl:i=0:=by omega
 exact⟨w4.heap.size+1,0,_,rfl,BLe.lt,BLe.cell 0,hrow⟩
theorem zn5(A B:Str)(w:World):(Op.equalIn 10000 37 (.agg #[.string ⟨A.toArray⟩,.string ⟨B.toArray⟩]) (.agg #[.string ⟨A.toArray⟩,.string ⟨B.toArray⟩])).run Tryz.prog w=.ok true w:=by
 have u3:=Tryz.underlying22
 have a3:=Tryz.isAgg22
 have z3:=Tryz.sizeOf22
 rw[show (10000:Nat)=9999+1 from rfl,Op.equalIn]
 simp only[Sem.run_bind,run_underlying Tryz.underlying37,Result.andThen_ok]
 go_simp
theorem zm4(s1 s2:Str)(B1 B2:Nat)(v1 v2:Value)(w:World)(h1:TSl w B1 v1 [(s1,s2)])(h2:TSl w B2 v2 [(s1,s2)]) :
  CR 9 #[v1,v2] w (.bool true):=by
 obtain⟨a1,c1,rfl,-,k1⟩:=h1
 obtain⟨a2,c2,rfl,-,k2⟩:=h2
 obtain⟨b1,o1,rfl,l1,e1,e2⟩:=k1 0 (by simp)
 obtain⟨b2,o2,rfl,l2,f1,f2⟩:=k2 0 (by simp)
 rw[Nat.zero_mul,Nat.add_zero]at e1 e2 f1 f2
 have hq:=fun w=>zn5 s1 s2 w
 simp only[List.getD_cons_zero]at e1 e2 f1 f2
 clear k1 k2
 go_enter Tryz.func9,Tryz.ntmps9
 go_wp2
 refine wp_loop_rounds 2 ?_
 rw[rounds_succ]
 go_wp2_with fail
 have d1:w.drew.cell? ⟨b1,o1,none⟩=some (.string ⟨s1.toArray⟩):=e1
 have d2:w.drew.cell? ⟨b1,o1+1,none⟩=some (.string ⟨s2.toArray⟩):=e2
 have g1:w.drew.cell? ⟨b2,o2,none⟩=some (.string ⟨s1.toArray⟩):=f1
 have g2:w.drew.cell? ⟨b2,o2+1,none⟩=some (.string ⟨s2.toArray⟩):=f2
 refine zm 9 rfl (by kernel_rfl) rfl ?_
 refine svp 0 ?_
 refine svp 1 ?_
 refine svp 2 ?_
 refine svq 3 rfl (by intro w' hq;have hc0:=za hq d1;have hc1:=za hq d2;go_simp;try with_reducible rfl) ?_
 refine svp 4 ?_
 refine svp 5 ?_
 refine svp 6 ?_
 refine svq 7 rfl (by intro w' hq;have hc0:=za hq g1;have hc1:=za hq g2;go_simp;try with_reducible rfl) ?_
 refine svp 8 ?_
 refine zi (by kernel_rfl) (fun w3 hq3=>?_)
 simp only[List.drop_succ_cons,List.drop_nil]
 have hQ:Q w w3:=Q.trans (Below.drew (Q.refl w)) hq3
 clear d1 d2 g1 g2 e1 e2 f1 f2
 go_wp2
 rw[rounds_succ]
 go_wp2
 go_ret
 exact⟨rfl,hQ⟩
end
end Go.Proofs.YtjnhmfcklodfdaaGreatDoor
