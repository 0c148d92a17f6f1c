/-
  Walks of package ridgeline: the planes on both sides of a line.; Walks of package ridgeline: how a line bends.; Walks of package ridgeline: the angle at a line.; Chapter 21's example: a hip of a square.; Chapter 21's example: it is awake.
-/
import Derived.Test.YtapnkgdnflofbaaGreatDoorCH26
import Derived.Test.YtapnkgdnflofbaaGreatDoorCH20
set_option maxRecDepth 100000
set_option maxHeartbeats 8000000
namespace Go.Proofs.YtapnkgdnflofbaaGreatDoor
section
open Go.RowKit Go.Shelf Kp
attribute [local go_sem] Oper.semAt_some
theorem znB{w:World}{b:Nat}{x y z:Value}{t:TypeId}(h:Blk w b [x,y,z] t):w.setCell ⟨b,0,none⟩ x=w∧w.setCell ⟨b,1,none⟩ y=w∧w.setCell ⟨b,2,none⟩ z=w:=by
 unfold Blk at h
 cases w with
 | mk heap tape drawn os output =>
  refine⟨?_,?_,?_⟩
  all_goals
   unfold World.setCell
   congr 1
   apply Array.ext_getElem?
   intro i
   rw[Array.getElem?_modify]
   split
   ·rename_i e
    subst e
    simp only at h
    rw[h]
    rfl
   ·rfl
theorem zlw{W:World}{b b':Nat}{x y z x' y' z':Value}(h:Blk W b [x,y,z] 87)(h':Blk W b' [x',y',z'] 87)(fn:Func)(m m' k:Nat)(hf:fn.results=#[.cell m 87,.cell m' 87,.tmp k])(tmps:Array Value)(u:Value)(hp:tmps.getD m undef=.pointer (some ⟨b,0,none⟩))(hp':tmps.getD m' undef=.pointer (some ⟨b',0,none⟩))(hk:tmps.getD k undef=u) :
  (results fn tmps).run Tryz.prog W=.ok (.tuple #[.agg #[x,y,z],.agg #[x',y',z'],u]) W:=by
 have c0:=h.cell
 have c1:=h'.cell
 simp only[Array.getD_eq_getD_getElem?]at hp hp' hk
 simp[results,hf,go_sem,hp,hp',hk,c0,c1]
def ztR(F:Fr)(A B C:Str):Prop:=∀ w,Env w→CR 62 #[.agg (frC F).toArray] w (.tuple #[.agg #[.string ⟨A.toArray⟩,.string ⟨B.toArray⟩,.string ⟨C.toArray⟩],.int .i64 0])
theorem zlt(R:List (List Sd))(hp:zdb R=0)(hlen:R.length≤1000)(i j:Nat)(hi:i<R.flatten.length)(hj:j<R.flatten.length)(hij:i≠j)(k:Int)(f t:P3)(ok:LvOk ⟨k,f,t,i,j⟩)(gi:(zcf R.flatten i).gable=false)(gj:(zcf R.flatten j).gable=false)
  (F G:Fr)(hF:(za2 R)[i]? = some F)(hG:(za2 R)[j]? = some G)(hl:(za2 R).length=R.flatten.length)(A B C A' B' C':Str)(HF:Hid (ztR F A B C))(HG:Hid (ztR G A' B' C'))
  (a:Option Addr)(nn cp:Nat)(w:World)(hE:Env w)(hSA:za9 w)(hv:zi9 w (.slice a nn cp) R) :
  CR 40 #[.agg #[.slice a nn cp],.agg (Lv.c ⟨k,f,t,i,j⟩).toArray] w (.tuple #[.agg #[.string ⟨A.toArray⟩,.string ⟨B.toArray⟩,.string ⟨C.toArray⟩],.agg #[.string ⟨A'.toArray⟩,.string ⟨B'.toArray⟩,.string ⟨C'.toArray⟩],.int .i64 0]):=by
 have HR:=LH (fun W hW (hq:Q w W)=>zjG R hp hlen ⟨k,f,t,i,j⟩ ok (by simp only;omega) (by simp only;omega) a nn cp W hW (hSA.q hq) (hv.keep hq))
 have HT:=LH (fun w=>zil i j ⟨by omega,by omega,by omega⟩ w)
 have hn0:(0:Int)≤i:=by omega
 have hm0:(0:Int)≤j:=by omega
 clear hSA hv hp hlen ok hij
 unfold Lv.c at *
 unfold ztR frC at HF HG
 simp only at *
 generalize ze f.x=X at *
 generalize ze f.y=Y at *
 generalize ze f.z=Z at *
 generalize ze t.x=X' at *
 generalize ze t.y=Y' at *
 generalize ze t.z=Z' at *
 obtain⟨W0,hW0⟩:∃ W0,(((w.alloc (.cells #[.slice a nn cp] 48)).alloc (.cells #[.int .i64 k,.string ⟨X.toArray⟩,.string ⟨Y.toArray⟩,.string ⟨Z.toArray⟩,.string ⟨X'.toArray⟩,.string ⟨Y'.toArray⟩,.string ⟨Z'.toArray⟩,.int .i64 i,.int .i64 j] 34)).alloc (.cells #[.string ⟨#[]⟩,.string ⟨#[]⟩,.string ⟨#[]⟩] 87)).alloc (.cells #[.string ⟨#[]⟩,.string ⟨#[]⟩,.string ⟨#[]⟩] 87)=W0:=⟨_,rfl⟩
 have hq0:Q w W0:=by rw[← hW0];exact bt
 have BP:Blk W0 w.heap.size [.slice a nn cp] 48:=by rw[← hW0];exact(((Blk.new w _ _).alloc _).alloc _).alloc _
 have BL:Blk W0 (w.heap.size+1) [.int .i64 k,.string ⟨X.toArray⟩,.string ⟨Y.toArray⟩,.string ⟨Z.toArray⟩,.string ⟨X'.toArray⟩,.string ⟨Y'.toArray⟩,.string ⟨Z'.toArray⟩,.int .i64 i,.int .i64 j] 34:=by rw[← hW0];exact((Blk.new1 w _ _ _).alloc _).alloc _
 have BU:Blk W0 (w.heap.size+2) [.string ⟨#[]⟩,.string ⟨#[]⟩,.string ⟨#[]⟩] 87:=by rw[← hW0];exact(Blk.new2 w _ _ _ _).alloc _
 have BV:Blk W0 (w.heap.size+3) [.string ⟨#[]⟩,.string ⟨#[]⟩,.string ⟨#[]⟩] 87:=by rw[← hW0];have h3:=Blk.new2 (w.alloc (.cells #[.slice a nn cp] 48)) (.cells #[.int .i64 k,.string ⟨X.toArray⟩,.string ⟨Y.toArray⟩,.string ⟨Z.toArray⟩,.string ⟨X'.toArray⟩,.string ⟨Y'.toArray⟩,.string ⟨Z'.toArray⟩,.int .i64 i,.int .i64 j] 34) (.cells #[.string ⟨#[]⟩,.string ⟨#[]⟩,.string ⟨#[]⟩] 87) [.string ⟨#[]⟩,.string ⟨#[]⟩,.string ⟨#[]⟩] 87;rw[World.size_alloc]at h3;exact h3
 have hQ0:=Q.refl W0
 replace p0:=BP.cell
 replace lBP:=BP.lt
 replace n0:=BL.cell
 replace lBL:=BL.lt
 replace u0:=BU.cell
 replace lBU:=BU.lt
 replace v0:=BV.cell
 replace lBV:=BV.lt
 go_enter Tryz.func40,Tryz.ntmps40
 go_wp2_with fail
 refine(HR.out _ (hE.ofQ hq0) hq0).mono ?_
 rintro e G1⟨vs,vf,rfl,hq1,hgr⟩
 have hs1:Q W0 G1:=Q.trans bt hq1
 have hQ1:Q W0 G1:=Q.trans hQ0 hs1
 replace BP:=BP.keep hs1 BP.lt
 replace p0:=BP.cell
 replace lBP:=BP.lt
 replace BL:=BL.keep hs1 BL.lt
 replace n0:=BL.cell
 replace lBL:=BL.lt
 replace BU:=BU.keep hs1 BU.lt
 replace u0:=BU.cell
 replace lBU:=BU.lt
 replace BV:=BV.keep hs1 BV.lt
 replace v0:=BV.cell
 replace lBV:=BV.lt
 clear hW0 HR
 obtain⟨g,cap,rfl,hfc⟩:=hgr.front hF hl
 obtain⟨g',cap',e',hfd⟩:=hgr.front hG hl
 obtain⟨rfl⟩:g=g':=by simpa using(Value.slice.inj e').1
 clear e'
 obtain⟨⟨sa,scap,rfl,hrw⟩,-⟩:=hgr
 obtain⟨bi,oi,hsa,hli,hdi⟩:=hrw i hi
 obtain⟨bj,oj,hsj,hlj,hdj⟩:=hrw j hj
 subst hsa
 obtain⟨rfl,rfl⟩:bi=bj∧oi=oj:=by
  simp at hsj
  exact hsj
 have d4:G1.cell? ⟨bi,oi+i*7+4,none⟩=some (.bool (zcf R.flatten i).gable):=hdi 4 _ (by rw[← zcN hi];rfl)
 have e4:G1.cell? ⟨bi,oi+j*7+4,none⟩=some (.bool (zcf R.flatten j).gable):=hdj 4 _ (by rw[← zcN hj];rfl)
 rw[gi]at d4
 rw[gj]at e4
 have hlni:(i:Int)<R.flatten.length:=by omega
 have hlnj:(j:Int)<R.flatten.length:=by omega
 unfold frC at hfc hfd
 have f0:=hfc 0 _ (by decide) rfl
 have f1:=hfc 1 _ (by decide) rfl
 have f2:=hfc 2 _ (by decide) rfl
 have f3:=hfc 3 _ (by decide) rfl
 have f4:=hfc 4 _ (by decide) rfl
 have c0:=hfd 0 _ (by decide) rfl
 have c1:=hfd 1 _ (by decide) rfl
 have c2:=hfd 2 _ (by decide) rfl
 have c3:=hfd 3 _ (by decide) rfl
 have c4:=hfd 4 _ (by decide) rfl
 rw[Nat.add_zero]at f0 c0
 have hgl:g<G1.heap.size:=World.block_lt_of_cell? _ _ f0
 clear hrw hdi hdj gi gj hfc hfd hF hG hl hsj
 generalize R.flatten.length=n at *
 have BG0:=Blk.new G1 [.slice (some ⟨bi,oi,none⟩) n scap,.slice (some ⟨g,0,none⟩) n cap] 78
 go_wp2_with fail
 refine(HT.out _).mono ?_
 rintro e W1⟨rfl,rfl⟩
 go_wp2_with fail
 have hgu:g≠w.heap.size+2:=by
  rintro rfl
  rw[BU.cell]at f0
  match i*5,f0 with
  | 0,h=>cases h
  | 1,h=>cases h
  | 2,h=>cases h
  | m+3,h=>simp at h
 have hgv:g≠w.heap.size+3:=by
  rintro rfl
  rw[BV.cell]at f0
  match i*5,f0 with
  | 0,h=>cases h
  | 1,h=>cases h
  | 2,h=>cases h
  | m+3,h=>simp at h
 refine cx (HF.out _ (hE.ofQ (Q.trans hq0 (Q.trans hQ1 bt)))) fun G2 hq2=>?_
 have hq12:Q G1 G2:=Q.trans bt hq2
 have hw2:Q w G2:=Q.trans hq0 (Q.trans hQ1 hq12)
 rw[← hq12.cell (p:=⟨g,j*5,none⟩) hgl]at c0
 rw[← hq12.cell (p:=⟨g,j*5+1,none⟩) hgl]at c1
 rw[← hq12.cell (p:=⟨g,j*5+2,none⟩) hgl]at c2
 rw[← hq12.cell (p:=⟨g,j*5+3,none⟩) hgl]at c3
 rw[← hq12.cell (p:=⟨g,j*5+4,none⟩) hgl]at c4
 replace BU:=BU.keep hq12 BU.lt
 replace BV:=BV.keep hq12 BV.lt
 replace BL:=BL.keep hq12 BL.lt
 have BG:=BG0.keep hq2 BG0.lt
 have hzg:w.heap.size+3<G1.heap.size:=lBV
 have hz2:w.heap.size+2≠w.heap.size+1:=by omega
 have hz3:w.heap.size+2≠w.heap.size+3:=by omega
 have hz4:w.heap.size+2≠G1.heap.size:=by omega
 have hz5:w.heap.size+3≠w.heap.size+2:=by omega
 have hi1:=BU.frozen
 obtain⟨V2,hV2⟩:∃ V2,((G2.setCell ⟨w.heap.size+2,0,none⟩ (.string ⟨A.toArray⟩)).setCell ⟨w.heap.size+2,1,none⟩ (.string ⟨B.toArray⟩)).setCell ⟨w.heap.size+2,2,none⟩ (.string ⟨C.toArray⟩)=V2:=⟨_,rfl⟩
 have hw3:Q w V2:=by rw[← hV2];exact((hw2.setCell (p:=⟨w.heap.size+2,0,none⟩) (by simp) _).setCell (p:=⟨w.heap.size+2,1,none⟩) (by simp) _).setCell (p:=⟨w.heap.size+2,2,none⟩) (by simp) _
 have BU2:=((BU.set 0 (.string ⟨A.toArray⟩)).set 1 (.string ⟨B.toArray⟩)).set 2 (.string ⟨C.toArray⟩)
 have BV2:=((BV.setOther hz3 0 (.string ⟨A.toArray⟩)).setOther hz3 1 (.string ⟨B.toArray⟩)).setOther hz3 2 (.string ⟨C.toArray⟩)
 have BL2:=((BL.setOther hz2 0 (.string ⟨A.toArray⟩)).setOther hz2 1 (.string ⟨B.toArray⟩)).setOther hz2 2 (.string ⟨C.toArray⟩)
 have BG2:=((BG.setOther hz4 0 (.string ⟨A.toArray⟩)).setOther hz4 1 (.string ⟨B.toArray⟩)).setOther hz4 2 (.string ⟨C.toArray⟩)
 simp only[List.set_cons_zero,List.set_cons_succ]at BU2
 have hblk:V2.heap[g]? = G2.heap[g]?:=by rw[← hV2];exact(zdU hgu 2 _).trans ((zdU hgu 1 _).trans (zdU hgu 0 _))
 rw[← World.cell?_of_block (w:=G2) hblk]at c0 c1 c2 c3 c4
 rw[hV2]at BU2 BV2 BL2 BG2
 clear f0 f1 f2 f3 f4 d4 e4 HF p0 BP lBP hq2 hlj hli
 have y8:=BL2.cell 8
 have x1:=BG2.cell 1
 have q0:=BU.cell
 try simp only[zs4,zs5]at y8 x1
 go_wp2_with fail
 clear hV2 q0 y8 x1 c0 c1 c2 c3 c4 BU BV BL BG hi1 u0 lBU v0 lBV n0 lBL
 refine cx (HG.out _ (hE.ofQ hw3)) fun G3 hq3=>?_
 replace BU2:=BU2.keep hq3 BU2.lt
 replace BV2:=BV2.keep hq3 BV2.lt
 have hw4:Q w G3:=Q.trans hw3 hq3
 have fv:=BV2.frozen
 have q0:=BV2.cell
 obtain⟨V4,hV4⟩:∃ V4,((G3.setCell ⟨w.heap.size+3,0,none⟩ (.string ⟨A'.toArray⟩)).setCell ⟨w.heap.size+3,1,none⟩ (.string ⟨B'.toArray⟩)).setCell ⟨w.heap.size+3,2,none⟩ (.string ⟨C'.toArray⟩)=V4:=⟨_,rfl⟩
 have hw5:Q w V4:=by rw[← hV4];exact((hw4.setCell (p:=⟨w.heap.size+3,0,none⟩) (by simp) _).setCell (p:=⟨w.heap.size+3,1,none⟩) (by simp) _).setCell (p:=⟨w.heap.size+3,2,none⟩) (by simp) _
 have BV4:=((BV2.set 0 (.string ⟨A'.toArray⟩)).set 1 (.string ⟨B'.toArray⟩)).set 2 (.string ⟨C'.toArray⟩)
 have BU4:=((BU2.setOther hz5 0 (.string ⟨A'.toArray⟩)).setOther hz5 1 (.string ⟨B'.toArray⟩)).setOther hz5 2 (.string ⟨C'.toArray⟩)
 simp only[List.set_cons_zero,List.set_cons_succ]at BV4
 rw[hV4]at BV4 BU4
 have a0:=BU4.cell
 have b0:=BV4.cell
 have fa:=BU4.frozen
 have fb:=BV4.frozen
 go_wp2_with fail
 clear hV4 q0
 obtain⟨s0,s1,s2⟩:=znB BU4.drew
 obtain⟨s3,s4,s5⟩:=znB BV4.drew
 have hwe:Q w V4.drew:=Q.trans hw5 (Below.drew (Q.refl V4))
 go_region
 all_goals go_wp2
 all_goals exact bodyPost_ret (zlw BU4.drew BV4.drew Tryz.f40 4 5 6 rfl _ _ rfl rfl rfl) rfl ⟨rfl,hwe⟩
theorem zow(k l r:Int)(f t:P3)(bf:B3 5 f)(bt:B3 5 t)(A B C A' B' C':Rat)(hA:Bd 5 A)(hB:Bd 5 B)(hA':Bd 5 A')(hB':Bd 5 B')(bd:B3 11 (t.sub f))(b1:Bd 11 (B - B'))(b2:Bd 11 (A - A'))(a:Option Addr)(nn cp:Nat)(w:World)(hE:Env w)
  (HP:Hid (∀ W,Env W→Q w W→CR 40 #[.agg #[.slice a nn cp],.agg (Lv.c ⟨k,f,t,l,r⟩).toArray] W (.tuple #[.agg #[.string ⟨(ze A).toArray⟩,.string ⟨(ze B).toArray⟩,.string ⟨(ze C).toArray⟩],.agg #[.string ⟨(ze A').toArray⟩,.string ⟨(ze B').toArray⟩,.string ⟨(ze C').toArray⟩],.int .i64 0])))(n:Int)(hn:n=if (B - B')*(t.sub f).x<(A - A')*(t.sub f).y then -1 else if (B - B')*(t.sub f).x=(A - A')*(t.sub f).y then 0 else 1) :
  CR 18 #[.agg #[.slice a nn cp],.agg (Lv.c ⟨k,f,t,l,r⟩).toArray] w (.tuple #[.int .i64 n,.int .i64 0]):=by
 have HS:=LH (fun w hw=>zjC t f bt bf (by decide) w hw)
 have H1:=LH (fun w hw=>zbd B B' hB hB' (by decide) w hw)
 have H2:=LH (fun w hw=>zaZ (B - B') (t.sub f).x b1 bd.1 (by decide) w hw)
 have H3:=LH (fun w hw=>zbd A A' hA hA' (by decide) w hw)
 have H4:=LH (fun w hw=>zaZ (A - A') (t.sub f).y b2 bd.2.1 (by decide) w hw)
 have H5:=zrS (b1.mul bd.1) (b2.mul bd.2.1) (by decide)
 rw[← hn]at H5
 have HC:=LH H5
 unfold zqZ at HC
 clear bf bt hA hB hA' hB' bd b1 b2 H5 hn
 unfold Lv.c at *
 unfold V3 at *
 simp only at *
 generalize ze ((B - B')*(t.sub f).x)=P1 at *
 generalize ze ((A - A')*(t.sub f).y)=P2 at *
 generalize ze (B - B')=S1 at *
 generalize ze (A - A')=S2 at *
 generalize ze A=SA at *
 generalize ze B=SB at *
 generalize ze C=SC at *
 generalize ze A'=TA at *
 generalize ze B'=TB at *
 generalize ze C'=TC at *
 generalize ze (t.sub f).x=DX at *
 generalize ze (t.sub f).y=DY at *
 generalize ze (t.sub f).z=DZ at *
 generalize ze f.x=X at *
 generalize ze f.y=Y at *
 generalize ze f.z=Z at *
 generalize ze t.x=X' at *
 generalize ze t.y=Y' at *
 generalize ze t.z=Z' at *
 obtain⟨W0,hW0⟩:∃ W0,(w.alloc (.cells #[.slice a nn cp] 48)).alloc (.cells #[.int .i64 k,.string ⟨X.toArray⟩,.string ⟨Y.toArray⟩,.string ⟨Z.toArray⟩,.string ⟨X'.toArray⟩,.string ⟨Y'.toArray⟩,.string ⟨Z'.toArray⟩,.int .i64 l,.int .i64 r] 34)=W0:=⟨_,rfl⟩
 have hq0:Q w W0:=by rw[← hW0];exact bt
 have BP:Blk W0 w.heap.size [.slice a nn cp] 48:=by rw[← hW0];exact(Blk.new w _ _).alloc _
 have BL:Blk W0 (w.heap.size+1) [.int .i64 k,.string ⟨X.toArray⟩,.string ⟨Y.toArray⟩,.string ⟨Z.toArray⟩,.string ⟨X'.toArray⟩,.string ⟨Y'.toArray⟩,.string ⟨Z'.toArray⟩,.int .i64 l,.int .i64 r] 34:=by rw[← hW0];exact Blk.new1 w _ _ _
 have hQ0:=Q.refl W0
 replace p0:=BP.cell
 replace lBP:=BP.lt
 replace n0:=BL.cell
 replace lBL:=BL.lt
 go_enter Tryz.func18,Tryz.ntmps18
 go_wp2_with fail
 refine cx (HP.out _ (hE.ofQ hq0) hq0) fun G1 hq1=>?_
 have hs1:Q W0 G1:=Q.trans bt hq1
 have hQ1:Q W0 G1:=Q.trans hQ0 hs1
 replace BP:=BP.keep hs1 BP.lt
 replace p0:=BP.cell
 replace lBP:=BP.lt
 replace BL:=BL.keep hs1 BL.lt
 replace n0:=BL.cell
 replace lBL:=BL.lt
 clear hW0 HP
 have BU:=(Blk.new G1 [.string ⟨SA.toArray⟩,.string ⟨SB.toArray⟩,.string ⟨SC.toArray⟩] 87).alloc (.cells #[.string ⟨TA.toArray⟩,.string ⟨TB.toArray⟩,.string ⟨TC.toArray⟩] 87)
 have BV:=Blk.new1 G1 (.cells #[.string ⟨SA.toArray⟩,.string ⟨SB.toArray⟩,.string ⟨SC.toArray⟩] 87) [.string ⟨TA.toArray⟩,.string ⟨TB.toArray⟩,.string ⟨TC.toArray⟩] 87
 go_wp2_with fail
 refine cx (HS.out _ (hE.ofQ (Q.trans hq0 (Q.trans hQ1 bt)))) fun G2 hq2=>?_
 have hw2:Q w G2:=Q.trans hq0 (Q.trans hQ1 (Q.trans bt hq2))
 replace BU:=BU.keep hq2 BU.lt
 replace BV:=BV.keep hq2 BV.lt
 have BD:=Blk.new G2 [.string ⟨DX.toArray⟩,.string ⟨DY.toArray⟩,.string ⟨DZ.toArray⟩] 32
 clear hQ0 hQ1 hq1 hs1 hq2 p0 n0 lBP lBL HS BP BL
 have hQ0:=Q.refl G2
 replace u0:=BU.cell
 replace lBU:=BU.lt
 replace v0:=BV.cell
 replace lBV:=BV.lt
 go_wp2_with fail
 refine cx (H1.out _ (hE.ofQ (Q.trans hw2 bt))) fun G3 hq3=>?_
 have hw3:Q w G3:=Q.trans hw2 (Q.trans bt hq3)
 replace BU:=BU.keep (show Q G2 G3 from Q.trans bt hq3) BU.lt
 replace BV:=BV.keep (show Q G2 G3 from Q.trans bt hq3) BV.lt
 replace BD:=BD.keep hq3 BD.lt
 clear hQ0 hq3 hw2 u0 lBU v0 lBV H1
 generalize G2.heap.size=gd at *
 have hQ0:=Q.refl G3
 replace u0:=BU.cell
 replace lBU:=BU.lt
 replace v0:=BV.cell
 replace lBV:=BV.lt
 replace d0:=BD.cell
 replace lBD:=BD.lt
 go_wp2_with fail
 refine cx (H2.out _ (hE.ofQ hw3)) fun H1 hq1=>?_
 have hs1:Q G3 H1:=Q.trans bt hq1
 have hQ1:Q G3 H1:=Q.trans hQ0 hs1
 replace BU:=BU.keep hs1 BU.lt
 replace u0:=BU.cell
 replace lBU:=BU.lt
 replace BV:=BV.keep hs1 BV.lt
 replace v0:=BV.cell
 replace lBV:=BV.lt
 replace BD:=BD.keep hs1 BD.lt
 replace d0:=BD.cell
 replace lBD:=BD.lt
 go_wp2_with fail
 refine cx (H3.out _ (hE.ofQ (Q.trans hw3 hQ1))) fun H2 hq2=>?_
 have hs2:Q H1 H2:=Q.trans bt hq2
 have hQ2:Q G3 H2:=Q.trans hQ1 hs2
 replace BU:=BU.keep hs2 BU.lt
 replace u0:=BU.cell
 replace lBU:=BU.lt
 replace BV:=BV.keep hs2 BV.lt
 replace v0:=BV.cell
 replace lBV:=BV.lt
 replace BD:=BD.keep hs2 BD.lt
 replace d0:=BD.cell
 replace lBD:=BD.lt
 go_wp2_with fail
 refine cx (H4.out _ (hE.ofQ (Q.trans hw3 hQ2))) fun H3 hq3=>?_
 have hs3:Q H2 H3:=Q.trans bt hq3
 have hQ3:Q G3 H3:=Q.trans hQ2 hs3
 replace BU:=BU.keep hs3 BU.lt
 replace u0:=BU.cell
 replace lBU:=BU.lt
 replace BV:=BV.keep hs3 BV.lt
 replace v0:=BV.cell
 replace lBV:=BV.lt
 replace BD:=BD.keep hs3 BD.lt
 replace d0:=BD.cell
 replace lBD:=BD.lt
 go_wp2_with fail
 refine cx (HC.out _ (hE.ofQ (Q.trans hw3 hQ3))) fun H4 hq4=>?_
 have hs4:Q H3 H4:=Q.trans bt hq4
 have hQ4:Q G3 H4:=Q.trans hQ3 hs4
 replace BU:=BU.keep hs4 BU.lt
 replace u0:=BU.cell
 replace lBU:=BU.lt
 replace BV:=BV.keep hs4 BV.lt
 replace v0:=BV.cell
 replace lBV:=BV.lt
 replace BD:=BD.keep hs4 BD.lt
 replace d0:=BD.cell
 replace lBD:=BD.lt
 have hwe:=Q.trans hw3 hQ4
 go_wp2
 go_ret2
 exact⟨rfl,hwe⟩
theorem zjk(k l r:Int)(f t:P3)(A B C A' B' C':Rat)(hA:Bd 5 A)(hB:Bd 5 B)(hC:Bd 10 C)(hA':Bd 5 A')(hB':Bd 5 B')(hC':Bd 10 C')(c s:Rat)(hc:A*A'+B*B'+1=c)(hs:(A*A+B*B+1)*(A'*A'+B'*B'+1)=s)(bs:Bd 42 s)(s0:s.num≠0)(htw:TW (c,1 / s))(h2:∀ cs,zhz [(c,1 / s)]=some cs→cs.length≤2)(a:Option Addr)(nn cp:Nat)(w:World)(hE:Env w)
  (HP:Hid (∀ W,Env W→Q w W→CR 40 #[.agg #[.slice a nn cp],.agg (Lv.c ⟨k,f,t,l,r⟩).toArray] W (.tuple #[.agg #[.string ⟨(ze A).toArray⟩,.string ⟨(ze B).toArray⟩,.string ⟨(ze C).toArray⟩],.agg #[.string ⟨(ze A').toArray⟩,.string ⟨(ze B').toArray⟩,.string ⟨(ze C').toArray⟩],.int .i64 0])))(L:List (Rat × Nat))(hL:zg0 [(c,1 / s)]=some L) :
  Calls Tryz.prog 21 #[.agg #[.slice a nn cp],.agg (Lv.c ⟨k,f,t,l,r⟩).toArray] w fun e w'=>∃ v,e=.returned (.tuple #[v,.int .i64 0])∧Q w w'∧w'.ownsRow w.heap.size 60 2 v ((znx L).map ofC).length (zeo ((znx L).map ofC)):=by
 have HN0:=fun w hw=>zkx A B C A' B' C' hA hB hC hA' hB' hC' w hw
 rw[hc,hs]at HN0
 have HN:=LH HN0
 have HD0:=fun w hw=>zc1 1 s zj4 bs s0 (by decide) w hw
 rw[zdW]at HD0
 have HD:=LH HD0
 have HM0:∀ v w,Env w→TSl w w.heap.size v [(ze c,ze (1 / s))]→_:=fun v w hw hv=>(zlf [(c,1 / s)] (by intro t ht;rw[List.mem_singleton]at ht;rw[ht];exact htw) (by simp) h2 v w hw hv)
 have HM:=LH (fun v w hw hv=>(HM0 v w hw hv).mono (fun e w' h=>(show ∃ v',e=.returned (.tuple #[v',.int .i64 0])∧Q w w'∧w'.ownsRow w.heap.size 60 2 v' ((znx L).map ofC).length (zeo ((znx L).map ofC))from by
  obtain⟨h1,-,h3⟩:=h
  obtain⟨v',e1,e2⟩:=h3 L hL
  exact⟨v',e1,h1,e2⟩)))
 clear hA hB hC hA' hB' hC' bs s0 htw h2 HN0 HD0 HM0 hL hc hs
 unfold Lv.c at *
 simp only at *
 generalize ze (1 / s)=S1 at *
 generalize ze s=SS at *
 generalize ze c=CC at *
 generalize ze A=SA at *
 generalize ze B=SB at *
 generalize ze C=SC at *
 generalize ze A'=TA at *
 generalize ze B'=TB at *
 generalize ze C'=TC at *
 generalize ze f.x=X at *
 generalize ze f.y=Y at *
 generalize ze f.z=Z at *
 generalize ze t.x=X' at *
 generalize ze t.y=Y' at *
 generalize ze t.z=Z' at *
 obtain⟨W0,hW0⟩:∃ W0,(w.alloc (.cells #[.slice a nn cp] 48)).alloc (.cells #[.int .i64 k,.string ⟨X.toArray⟩,.string ⟨Y.toArray⟩,.string ⟨Z.toArray⟩,.string ⟨X'.toArray⟩,.string ⟨Y'.toArray⟩,.string ⟨Z'.toArray⟩,.int .i64 l,.int .i64 r] 34)=W0:=⟨_,rfl⟩
 have hq0:Q w W0:=by rw[← hW0];exact bt
 have BP:Blk W0 w.heap.size [.slice a nn cp] 48:=by rw[← hW0];exact(Blk.new w _ _).alloc _
 have BL:Blk W0 (w.heap.size+1) [.int .i64 k,.string ⟨X.toArray⟩,.string ⟨Y.toArray⟩,.string ⟨Z.toArray⟩,.string ⟨X'.toArray⟩,.string ⟨Y'.toArray⟩,.string ⟨Z'.toArray⟩,.int .i64 l,.int .i64 r] 34:=by rw[← hW0];exact Blk.new1 w _ _ _
 have hQ0:=Q.refl W0
 replace p0:=BP.cell
 replace lBP:=BP.lt
 replace n0:=BL.cell
 replace lBL:=BL.lt
 go_enter Tryz.func21,Tryz.ntmps21
 go_wp2_with fail
 refine cx (HP.out _ (hE.ofQ hq0) hq0) fun G1 hq1=>?_
 have hs1:Q W0 G1:=Q.trans bt hq1
 have hQ1:Q W0 G1:=Q.trans hQ0 hs1
 replace BP:=BP.keep hs1 BP.lt
 replace p0:=BP.cell
 replace lBP:=BP.lt
 replace BL:=BL.keep hs1 BL.lt
 replace n0:=BL.cell
 replace lBL:=BL.lt
 clear hW0 HP
 go_wp2_with fail
 refine cx (HN.out _ (hE.ofQ (Q.trans hq0 (Q.trans hQ1 bt)))) fun G2 hq2=>?_
 have hs2:Q G1 G2:=Q.trans bt hq2
 have hQ2:Q W0 G2:=Q.trans hQ1 hs2
 replace BP:=BP.keep hs2 BP.lt
 replace p0:=BP.cell
 replace lBP:=BP.lt
 replace BL:=BL.keep hs2 BL.lt
 replace n0:=BL.cell
 replace lBL:=BL.lt
 go_wp2_with fail
 refine cx (HD.out _ (hE.ofQ (Q.trans hq0 hQ2))) fun G3 hq3=>?_
 have hs3:Q G2 G3:=Q.trans bt hq3
 have hQ3:Q W0 G3:=Q.trans hQ2 hs3
 replace BP:=BP.keep hs3 BP.lt
 replace p0:=BP.cell
 replace lBP:=BP.lt
 replace BL:=BL.keep hs3 BL.lt
 replace n0:=BL.cell
 replace lBL:=BL.lt
 have BT:=Blk.new G3 [.string ⟨CC.toArray⟩,.string ⟨S1.toArray⟩] 60
 go_wp2_with fail
 refine(HM.out _ _ (hE.ofQ (Q.trans hq0 (Q.trans hQ3 bt))) (TSl.one BT 1)).mono ?_
 rintro e G4⟨v,rfl,hq4,hr⟩
 have hwe:=Q.trans hq0 (Q.trans hQ3 (Q.trans bt hq4))
 have hr':=Joins.ownsRow_le hr (show w.heap.size≤_ from Nat.le_trans (Q.trans hq0 hQ3).size (by rw[World.size_alloc];omega))
 go_wp2
 go_ret2
 exact⟨_,rfl,hwe,hr'⟩
def sqn:List Sd:=[⟨0,0,1,1,false,0,0⟩,⟨10,0,1,1,false,0,0⟩,⟨10,10,1,1,false,0,0⟩,⟨0,10,1,1,false,0,0⟩]
theorem zny:zdb [sqn]=0:=by kernel_rfl
def en0:Fr:=⟨false,0,1,1,0⟩
def en3:Fr:=⟨true,0,1,1,0⟩
theorem zli:(za2 [sqn])[0]? = some en0:=by kernel_rfl
theorem zlh:(za2 [sqn])[3]? = some en3:=by kernel_rfl
theorem zkc:(za2 [sqn]).length=[sqn].flatten.length:=by kernel_rfl
theorem zqK:ztk en0=[.string ⟨(ze 0).toArray⟩,.string ⟨(ze 1).toArray⟩,.string ⟨(ze 0).toArray⟩]:=by kernel_rfl
theorem zqJ:ztk en3=[.string ⟨(ze 1).toArray⟩,.string ⟨(ze 0).toArray⟩,.string ⟨(ze 0).toArray⟩]:=by kernel_rfl
def hpf:P3:=⟨0,0,0⟩
def hpt:P3:=⟨5,5,5⟩
def hpl:Lv:=⟨2,hpf,hpt,(3:Nat),(0:Nat)⟩
theorem ztW:hpl.c=[.int .i64 2,.string ⟨#[48]⟩,.string ⟨#[48]⟩,.string ⟨#[48]⟩,.string ⟨#[53]⟩,.string ⟨#[53]⟩,.string ⟨#[53]⟩,.int .i64 3,.int .i64 0]:=by kernel_rfl
theorem bdn(n:Nat)(z:Int)(h:z.natAbs<10:=by decide)(hn:0<n:=by decide):Bd n (z:Rat):=⟨Nat.lt_of_lt_of_le h (by
 cases n with
 | zero=>omega
 | succ n=>rw[Nat.pow_succ];have:=Nat.pow_pos (n:=n) (show 0<10 by decide);omega),by rw[show ((z:Rat)).den=1 from rfl];exact Nat.one_lt_pow (by omega) (by decide)⟩
theorem znY:LvOk hpl:=⟨by decide,by decide,⟨bdn 12 0,bdn 12 0,bdn 12 0⟩,⟨bdn 12 5,bdn 12 5,bdn 12 5⟩,by decide,by decide,by decide,by decide,by decide,fun _=>by decide,fun h=>(by cases h),fun h=>(by cases h),fun _=>by decide⟩
theorem ztX(s:Nat)(hs:s=3∨s=0)(vs vf:Value)(W:World)(hE:Env W)(hG:zmr W [sqn] vs vf) :
  CR 37 #[.agg #[vs,vf],.int .i64 s,.agg hpl.c.toArray] W (.tuple #[.bool true,.int .i64 0]):=by
 have ok:=zgc zny
 rcases hs with rfl | rfl
 ·exact ztD [sqn] 3 (by decide) en3 zlh zkc (ze5 ok.rg _ (List.mem_of_getElem? zlh)) (by decide) 1 0 0 zqJ (bdn 5 1) (bdn 5 0) (bdn 10 0) hpl ⟨bdn 5 0,bdn 5 0,bdn 5 0⟩ ⟨bdn 5 5,bdn 5 5,bdn 5 5⟩ (by kernel_rfl) (by kernel_rfl) vs vf W hE hG
 ·exact ztD [sqn] 0 (by decide) en0 zli zkc (ze5 ok.rg _ (List.mem_of_getElem? zli)) (by decide) 0 1 0 zqK (bdn 5 0) (bdn 5 1) (bdn 10 0) hpl ⟨bdn 5 0,bdn 5 0,bdn 5 0⟩ ⟨bdn 5 5,bdn 5 5,bdn 5 5⟩ (by kernel_rfl) (by kernel_rfl) vs vf W hE hG
theorem zsN(a:Option Addr)(nn cp:Nat)(w:World)(hE:Env w)(hS:za9 w)(hv:zi9 w (.slice a nn cp) [sqn]) :
  CR 15 #[.agg #[.slice a nn cp],.agg hpl.c.toArray] w (.tuple #[.bool true,.int .i64 0]) :=
 zjj [sqn] zny (by decide) 3 0 (by decide) (by decide) hpf hpt znY (by decide) (by decide) a nn cp
  (LH fun vs vf W hW hG s hs=>ztX s hs vs vf W hW hG)
  (LH fun vs vf W hW hG=>zkX [sqn] 3 0 (by decide) (by decide) (by decide) en3 en0 zlh zli zkc rfl rfl hpf hpt vs vf W hW hG) w hE hS hv
theorem ztw{F:Fr}{A B C:Rat}(h:FrOk F)(hs:F.speed≠0)(e:ztk F=[.string ⟨(ze A).toArray⟩,.string ⟨(ze B).toArray⟩,.string ⟨(ze C).toArray⟩]):ztR F (ze A) (ze B) (ze C):=fun w hE=>by
 have:=ziY F h hs w hE
 rw[e]at this
 exact this
theorem zmd(a:Option Addr)(nn cp:Nat)(w:World)(hE:Env w)(hS:za9 w)(hv:zi9 w (.slice a nn cp) [sqn]) :
  CR 40 #[.agg #[.slice a nn cp],.agg hpl.c.toArray] w (.tuple #[.agg #[.string ⟨(ze 1).toArray⟩,.string ⟨(ze 0).toArray⟩,.string ⟨(ze 0).toArray⟩],.agg #[.string ⟨(ze 0).toArray⟩,.string ⟨(ze 1).toArray⟩,.string ⟨(ze 0).toArray⟩],.int .i64 0]) :=
 have ok:=zgc zny
 zlt [sqn] zny (by decide) 3 0 (by decide) (by decide) (by decide) 2 hpf hpt znY (by decide) (by decide) en3 en0 zlh zli zkc _ _ _ _ _ _
  (LH (ztw (ze5 ok.rg _ (List.mem_of_getElem? zlh)) (by decide) zqJ)) (LH (ztw (ze5 ok.rg _ (List.mem_of_getElem? zli)) (by decide) zqK)) a nn cp w hE hS hv
theorem zsd:hpt.sub hpf=⟨5,5,5⟩:=by kernel_rfl
theorem ztB:(hpt.sub hpf).sq=75:=by kernel_rfl
theorem zsM:(hpt.flat.sub hpf.flat)=⟨5,5,0⟩:=by kernel_rfl
theorem zse:(hpt.flat.sub hpf.flat).sq=50:=by kernel_rfl
theorem zsO(a:Option Addr)(nn cp:Nat)(w:World)(hE:Env w)(hS:za9 w)(hv:zi9 w (.slice a nn cp) [sqn]) :
  CR 18 #[.agg #[.slice a nn cp],.agg hpl.c.toArray] w (.tuple #[.int .i64 (-1),.int .i64 0]) :=
 zow 2 (3:Nat) (0:Nat) hpf hpt ⟨bdn 5 0,bdn 5 0,bdn 5 0⟩ ⟨bdn 5 5,bdn 5 5,bdn 5 5⟩ 1 0 0 0 1 0 (bdn 5 1) (bdn 5 0) (bdn 5 0) (bdn 5 1) (by rw[zsd];exact⟨bdn 11 5,bdn 11 5,bdn 11 5⟩) (by rw[show (0 - 1:Rat)=((-1:Int):Rat) by kernel_rfl];exact bdn 11 (-1)) (by rw[show (1 - 0:Rat)=((1:Int):Rat) by kernel_rfl];exact bdn 11 1) a nn cp w hE
  (LH fun W hW hq=>zmd a nn cp W hW (hS.q hq) (hv.keep hq)) (-1) (by kernel_rfl)
theorem zp8{w:World}{B:Nat}{v:Value}{s:Rat}{s1 s2:Str}(h:LenAt w B v s)(hs:s≠0)(e:(ze (aOf s),Lib.itoa (leftOf s:Int))=(s1,s2)):TSl w w.heap.size v [(s1,s2)]:=by
 rcases h with⟨h1,-⟩|⟨-,h1⟩
 ·exact absurd h1 hs
 ·obtain⟨rfl,rfl⟩:=Prod.mk.inj e
  exact TSl.of_row (l:=[(ze (aOf s),Lib.itoa (leftOf s:Int))]) h1
theorem zqr(w:World)(hE:Env w)(hS:za9 w):Calls Tryz.prog 19 #[.agg hpl.c.toArray] w fun e w'=>∃ v,e=.returned (.tuple #[v,.int .i64 0])∧Q w w'∧TSl w' w'.heap.size v [([53],[51])] :=
 (zlu hpl znY 11 (by rw[show hpl.t.sub hpl.f=⟨5,5,5⟩from zsd];exact⟨bdn 11 5,bdn 11 5,bdn 11 5⟩) (by decide) (by rw[show (hpl.t.sub hpl.f).sq=75 from ztB];exact⟨by decide,by decide⟩) w hE hS).mono fun e w' h=>by
  obtain⟨v,rfl,hq,hl⟩:=h
  rw[show (hpl.t.sub hpl.f).sq=75 from ztB]at hl
  exact⟨v,rfl,hq,zp8 hl (by decide) (by kernel_rfl)⟩
theorem zsL(w:World)(hE:Env w)(hS:za9 w):Calls Tryz.prog 20 #[.agg hpl.c.toArray] w fun e w'=>∃ v,e=.returned (.tuple #[v,.int .i64 0])∧Q w w'∧TSl w' w'.heap.size v [([53],[50])] :=
 (zov hpl znY 11 (by rw[show hpl.t.flat.sub hpl.f.flat=⟨5,5,0⟩from zsM];exact⟨bdn 11 5,bdn 11 5,bdn 11 0⟩) (by decide) (by rw[show (hpl.t.flat.sub hpl.f.flat).sq=50 from zse];exact⟨by decide,by decide⟩) w hE hS).mono fun e w' h=>by
  obtain⟨v,rfl,hq,hl⟩:=h
  rw[show (hpl.t.flat.sub hpl.f.flat).sq=50 from zse]at hl
  exact⟨v,rfl,hq,zp8 hl (by decide) (by kernel_rfl)⟩
theorem ztC(a:Option Addr)(nn cp:Nat)(w:World)(hE:Env w)(hS:za9 w)(hv:zi9 w (.slice a nn cp) [sqn]) :
  Calls Tryz.prog 21 #[.agg #[.slice a nn cp],.agg hpl.c.toArray] w fun e w'=>∃ v,e=.returned (.tuple #[v,.int .i64 0])∧Q w w'∧TSl w' w'.heap.size v [([49,47,50],[49])] :=
 (zjk 2 (3:Nat) (0:Nat) hpf hpt 1 0 0 0 1 0 (bdn 5 1) (bdn 5 0) (bdn 10 0) (bdn 5 0) (bdn 5 1) (bdn 10 0) 1 4 (by kernel_rfl) (by kernel_rfl) (bdn 42 4) (by decide) ⟨by kernel_rfl,by kernel_rfl,of_decide_eq_true (by kernel_rfl)⟩ (fun cs h=>by
   have e:zhz [((1:Rat),1 / 4)]=some [(1 / 2,1)]:=by kernel_rfl
   rw[e]at h
   obtain rfl:=Option.some.inj h
   decide) a nn cp w hE
  (LH fun W hW hq=>zmd a nn cp W hW (hS.q hq) (hv.keep hq)) [(1 / 2,1)] (by kernel_rfl)).mono fun e w' h=>by
  obtain⟨v,rfl,hq,hr⟩:=h
  refine⟨v,rfl,hq,?_⟩
  have:=TSl.of_row (l:=(znx [((1 / 2:Rat),1)]).map ofC) hr
  rw[show (znx [((1 / 2:Rat),1)]).map ofC=[([49,47,50],[49])] by kernel_rfl]at this
  exact this
theorem zqD(A B:Str)(w:World):(Op.equalIn 10000 60 (.agg #[.string ⟨A.toArray⟩,.string ⟨B.toArray⟩]) (.agg #[.string ⟨A.toArray⟩,.string ⟨B.toArray⟩])).run Tryz.prog w=.ok true w:=by
 have u3:=Tryz.underlying30
 have a3:=Tryz.isAgg30
 have z3:=Tryz.sizeOf30
 rw[show (10000:Nat)=9999+1 from rfl,Op.equalIn]
 simp only[Sem.run_bind,run_underlying Tryz.underlying60,Result.andThen_ok]
 go_simp
theorem zsV(s1 s2:Str)(B1 B2:Nat)(v1 v2:Value)(w:World)(h1:TSl w B1 v1 [(s1,s2)])(h2:TSl w B2 v2 [(s1,s2)]) :
  CR 22 #[v1,v2] w (.bool true):=by
 obtain⟨a1,c1,rfl,-,k1⟩:=h1
 obtain⟨a2,c2,rfl,-,k2⟩:=h2
 obtain⟨b1,o1,rfl,l1,e1,e2⟩:=k1 0 (by simp)
 obtain⟨b2,o2,rfl,l2,f1,f2⟩:=k2 0 (by simp)
 rw[Nat.zero_mul,Nat.add_zero]at e1 e2 f1 f2
 have hq:=fun w=>zqD s1 s2 w
 simp only[List.getD_cons_zero]at e1 e2 f1 f2
 clear k1 k2
 go_enter Tryz.func22,Tryz.ntmps22
 go_wp2
 refine wp_loop_rounds 2 ?_
 rw[rounds_succ]
 go_wp2_with fail
 have d1:w.drew.cell? ⟨b1,o1,none⟩=some (.string ⟨s1.toArray⟩):=e1
 have d2:w.drew.cell? ⟨b1,o1+1,none⟩=some (.string ⟨s2.toArray⟩):=e2
 have g1:w.drew.cell? ⟨b2,o2,none⟩=some (.string ⟨s1.toArray⟩):=f1
 have g2:w.drew.cell? ⟨b2,o2+1,none⟩=some (.string ⟨s2.toArray⟩):=f2
 refine zn 9 rfl (by kernel_rfl) rfl ?_
 refine svp 0 ?_
 refine svp 1 ?_
 refine svp 2 ?_
 refine svq 3 rfl (by intro w' hq;have hc0:=za hq d1;have hc1:=za hq d2;go_simp;try with_reducible rfl) ?_
 refine svp 4 ?_
 refine svp 5 ?_
 refine svp 6 ?_
 refine svq 7 rfl (by intro w' hq;have hc0:=za hq g1;have hc1:=za hq g2;go_simp;try with_reducible rfl) ?_
 refine svp 8 ?_
 refine zh (by kernel_rfl) (fun w3 hq3=>?_)
 simp only[List.drop_succ_cons,List.drop_nil]
 have hQ:Q w w3:=Q.trans (Below.drew (Q.refl w)) hq3
 clear d1 d2 g1 g2 e1 e2 f1 f2
 go_wp2
 rw[rounds_succ]
 go_wp2
 go_ret
 exact⟨rfl,hQ⟩
theorem zmH{W:World}{b:Nat}{c0 c1 c2 c3 c4 c5 c6:Value}(h:Blk W b [c0,c1,c2,c3,c4,c5,c6] 82)(fn:Func)(m:Nat)(hf:fn.results=#[.cell m 82])(tmps:Array Value)(hp:tmps.getD m undef=.pointer (some ⟨b,0,none⟩)) :
  (results fn tmps).run Tryz.prog W=.ok (.agg #[c0,c1,c2,c3,c4,c5,c6]) W :=
 results_cell_row hf tmps W b _ #[c0,c1,c2,c3,c4,c5,c6] (0,0) _ hp h Tryz.underlying82 rfl (by kernel_rfl)
theorem zrb(x y:Int)(w:World):CR 39 #[.int .i64 x,.int .i64 y] w (.agg #[.int .i64 x,.int .i64 y,.int .i64 1,.int .i64 1,.bool false,.int .i64 0,.int .i64 0]):=by
 go_enter Tryz.func39,Tryz.ntmps39
 go_wp2_with fail
 exact bodyPost_ret (zmH (Blk.new w [.int .i64 x,.int .i64 y,.int .i64 1,.int .i64 1,.bool false,.int .i64 0,.int .i64 0] 82) Tryz.f39 4 rfl _ rfl) rfl ⟨rfl,bt⟩
theorem zko{W:World}{b:Nat}{c0:Value}(h:Blk W b [c0] 48)(fn:Func)(m:Nat)(hf:fn.results=#[.cell m 48])(tmps:Array Value)(hp:tmps.getD m undef=.pointer (some ⟨b,0,none⟩)) :
  (results fn tmps).run Tryz.prog W=.ok (.agg #[c0]) W :=
 results_cell_row hf tmps W b _ #[c0] (0,0) _ hp h Tryz.underlying48 rfl (by kernel_rfl)
theorem zl0(w:World):Calls Tryz.prog 16 #[] w fun e w'=>∃ a n c,e=.returned (.agg #[.slice a n c])∧Q w w'∧zi9 w' (.slice a n c) [sqn]:=by
 have HS:=LH zrb
 have BZ:=Blk.new w [.slice none 0 0] 48
 have hq0:Q w (w.alloc (.cells ([.slice none 0 0]:List Value).toArray 48)):=bt
 go_enter Tryz.func16,Tryz.ntmps16
 go_wp2_with fail
 refine cx (HS.out _ _ _) fun w1 hq1=>?_
 go_wp2_with fail
 refine cx (HS.out _ _ _) fun w2 hq2=>?_
 go_wp2_with fail
 refine cx (HS.out _ _ _) fun w3 hq3=>?_
 go_wp2_with fail
 refine cx (HS.out _ _ _) fun w4 hq4=>?_
 have hz4:Q (w.alloc (.cells ([.slice none 0 0]:List Value).toArray 48)) w4:=Q.trans hq1 (Q.trans hq2 (Q.trans hq3 hq4))
 have BS:=(Blk.new w4 [.int .i64 0,.int .i64 0,.int .i64 1,.int .i64 1,.bool false,.int .i64 0,.int .i64 0,.int .i64 10,.int .i64 0,.int .i64 1,.int .i64 1,.bool false,.int .i64 0,.int .i64 0,.int .i64 10,.int .i64 10,.int .i64 1,.int .i64 1,.bool false,.int .i64 0,.int .i64 0,.int .i64 0,.int .i64 10,.int .i64 1,.int .i64 1,.bool false,.int .i64 0,.int .i64 0] 82).alloc (.cells #[.slice (some ⟨w4.heap.size,0,none⟩) 4 4] 75)
 have BL:=Blk.new1 w4 (.cells ([.int .i64 0,.int .i64 0,.int .i64 1,.int .i64 1,.bool false,.int .i64 0,.int .i64 0,.int .i64 10,.int .i64 0,.int .i64 1,.int .i64 1,.bool false,.int .i64 0,.int .i64 0,.int .i64 10,.int .i64 10,.int .i64 1,.int .i64 1,.bool false,.int .i64 0,.int .i64 0,.int .i64 0,.int .i64 10,.int .i64 1,.int .i64 1,.bool false,.int .i64 0,.int .i64 0]:List Value).toArray 82) [.slice (some ⟨w4.heap.size,0,none⟩) 4 4] 75
 have BZ4:=((BZ.keep hz4 BZ.lt).alloc (.cells ([.int .i64 0,.int .i64 0,.int .i64 1,.int .i64 1,.bool false,.int .i64 0,.int .i64 0,.int .i64 10,.int .i64 0,.int .i64 1,.int .i64 1,.bool false,.int .i64 0,.int .i64 0,.int .i64 10,.int .i64 10,.int .i64 1,.int .i64 1,.bool false,.int .i64 0,.int .i64 0,.int .i64 0,.int .i64 10,.int .i64 1,.int .i64 1,.bool false,.int .i64 0,.int .i64 0]:List Value).toArray 82)).alloc (.cells #[.slice (some ⟨w4.heap.size,0,none⟩) 4 4] 75)
 have hQ:Q w ((w4.alloc (.cells ([.int .i64 0,.int .i64 0,.int .i64 1,.int .i64 1,.bool false,.int .i64 0,.int .i64 0,.int .i64 10,.int .i64 0,.int .i64 1,.int .i64 1,.bool false,.int .i64 0,.int .i64 0,.int .i64 10,.int .i64 10,.int .i64 1,.int .i64 1,.bool false,.int .i64 0,.int .i64 0,.int .i64 0,.int .i64 10,.int .i64 1,.int .i64 1,.bool false,.int .i64 0,.int .i64 0]:List Value).toArray 82)).alloc (.cells #[.slice (some ⟨w4.heap.size,0,none⟩) 4 4] 75)):=Q.trans hq0 (Q.trans hz4 bt)
 have hlt4:w.heap.size<w4.heap.size:=Nat.lt_of_lt_of_le BZ.lt hz4.size
 generalize hW:World.alloc (w4.alloc _) _=W at *
 have hzc:=BZ4.cell
 have hzf:=BZ4.frozen
 have BZe:=BZ4.set 0 (.slice (some ⟨w4.heap.size+1,0,none⟩) 1 1)
 simp only[List.set_cons_zero]at BZe
 have BSe:=BS.setOther (show w.heap.size≠w4.heap.size by omega) 0 (.slice (some ⟨w4.heap.size+1,0,none⟩) 1 1)
 have BLe:=BL.setOther (show w.heap.size≠w4.heap.size+1 by omega) 0 (.slice (some ⟨w4.heap.size+1,0,none⟩) 1 1)
 have hQe:Q w (W.setCell ⟨w.heap.size,0,none⟩ (.slice (some ⟨w4.heap.size+1,0,none⟩) 1 1)):=Below.setCell (p:=⟨w.heap.size,0,none⟩) hQ (Nat.le_refl _) _
 have hrow:zba 7 sdC (W.setCell ⟨w.heap.size,0,none⟩ (.slice (some ⟨w4.heap.size+1,0,none⟩) 1 1)) (.slice (some ⟨w4.heap.size,0,none⟩) 4 4) sqn :=
  zba.of_row (B:=0) zid (l:=sqn) ⟨rfl,.inr ⟨w4.heap.size,4,_,rfl,Nat.zero_le _,BSe,by decide,by unfold maxLen;decide,rfl,rfl⟩⟩
 go_wp2_with fail
 refine bodyPost_ret (zko BZe Tryz.f16 0 rfl _ rfl) rfl ⟨_,_,_,rfl,hQe,⟨_,_,rfl,fun i hi=>?_⟩⟩
 simp only[List.length_cons,List.length_nil]at hi
 obtain rfl:i=0:=by omega
 exact⟨w4.heap.size+1,0,_,rfl,BLe.lt,BLe.cell 0,hrow⟩
theorem zoy{W:World}{b:Nat}{c0 c1 c2 c3 c4 c5 c6 c7 c8:Value}(h:Blk W b [c0,c1,c2,c3,c4,c5,c6,c7,c8] 34)(fn:Func)(m:Nat)(hf:fn.results=#[.cell m 34])(tmps:Array Value)(hp:tmps.getD m undef=.pointer (some ⟨b,0,none⟩)) :
  (results fn tmps).run Tryz.prog W=.ok (.agg #[c0,c1,c2,c3,c4,c5,c6,c7,c8]) W :=
 results_cell_row hf tmps W b _ #[c0,c1,c2,c3,c4,c5,c6,c7,c8] (0,0) _ hp h Tryz.underlying34 rfl (by kernel_rfl)
theorem zqc(w:World):CR 17 #[] w (.agg hpl.c.toArray):=by
 rw[ztW]
 go_enter Tryz.func17,Tryz.ntmps17
 go_wp2_with fail
 exact bodyPost_ret (zoy (Blk.new w [.int .i64 2,.string ⟨#[48]⟩,.string ⟨#[48]⟩,.string ⟨#[48]⟩,.string ⟨#[53]⟩,.string ⟨#[53]⟩,.string ⟨#[53]⟩,.int .i64 3,.int .i64 0] 34) Tryz.f17 0 rfl _ rfl) rfl ⟨rfl,bt⟩
theorem TSl.up{w w':World}{v:Value}{l:List (Str × Str)}(h:TSl w w.heap.size v l)(hq:Q w w'):TSl w' w'.heap.size v l:=(TSl.keep h hq (Nat.le_refl _)).raise hq.size (Nat.le_refl _)
theorem znp(w:World)(hE:Env w)(hS:za9 w):CR 5 #[] w (.bool true):=by
 have HQ:=LH zl0
 have HH:=LH zqc
 have H1:=LH zsN
 have H2:=LH zsO
 have H3:=LH zqr
 have H4:=LH zsL
 have H5:=LH ztC
 have HEQ:=LH zsV
 have hmx:∀ w,(Builtin.max_ #[26,26,26,26,26] 26 #[.int .i64 0,.int .i64 0,.int .i64 0,.int .i64 0,.int .i64 0]).run Tryz.prog w=.ok (.int .i64 0) w:=fun w=>by kernel_rfl
 generalize hpl.c.toArray=HP at *
 go_enter Tryz.func5,Tryz.ntmps5
 go_wp2_with fail
 refine(HQ.out _).mono ?_
 rintro e w1⟨a1,n1,c1,rfl,q1,v1⟩
 go_wp2_with fail
 refine cx (HH.out _) fun w2 q2=>?_
 go_wp2_with fail
 refine cx (H1.out _ _ _ _ (hE.ofQ (Q.trans q1 q2)) (hS.q (Q.trans q1 q2)) (v1.keep q2)) fun w3 q3=>?_
 have p3:=Q.trans q1 (Q.trans q2 q3)
 clear q1 q2 q3 v1
 go_wp2_with fail
 refine(HQ.out _).mono ?_
 rintro e w4⟨a4,n4,c4,rfl,q4,v4⟩
 go_wp2_with fail
 refine cx (HH.out _) fun w5 q5=>?_
 have p5:=Q.trans p3 (Q.trans q4 q5)
 go_wp2_with fail
 refine cx (H2.out _ _ _ _ (hE.ofQ p5) (hS.q p5) (v4.keep q5)) fun w6 q6=>?_
 have p6:=Q.trans p5 q6
 clear p3 q4 q5 q6 v4 p5
 go_wp2_with fail
 refine cx (HH.out _) fun w7 q7=>?_
 have p7:=Q.trans p6 q7
 go_wp2_with fail
 refine(H3.out _ (hE.ofQ p7) (hS.q p7)).mono ?_
 rintro e w8⟨va,rfl,q8,s1⟩
 have p8:=Q.trans p7 q8
 clear p6 q7 p7 q8
 go_wp2_with fail
 refine cx (HH.out _) fun w9 q9=>?_
 have p9:=Q.trans p8 q9
 replace s1:=s1.up q9
 go_wp2_with fail
 refine(H4.out _ (hE.ofQ p9) (hS.q p9)).mono ?_
 rintro e wa⟨vb,rfl,qa,s2⟩
 have pa:=Q.trans p9 qa
 replace s1:=s1.up qa
 clear p8 q9 p9 qa
 go_wp2_with fail
 refine(HQ.out _).mono ?_
 rintro e wb⟨ab,nb,cb,rfl,qb,vv⟩
 go_wp2_with fail
 refine cx (HH.out _) fun wc qc=>?_
 have pc:=Q.trans pa (Q.trans qb qc)
 replace s1:=s1.up (Q.trans qb qc)
 replace s2:=s2.up (Q.trans qb qc)
 go_wp2_with fail
 refine(H5.out _ _ _ _ (hE.ofQ pc) (hS.q pc) (vv.keep qc)).mono ?_
 rintro e wd⟨vc,rfl,qd,s3⟩
 have pd:=Q.trans pc qd
 replace s1:=s1.up qd
 replace s2:=s2.up qd
 clear pa qb qc pc qd vv H1 H2 H3 H4 H5 HQ HH
 go_wp2_with fail
 have k1:Q wd (wd.alloc (.cells ([.string ⟨#[53]⟩,.string ⟨#[51]⟩]:List Value).toArray 60)):=bt
 refine cx (HEQ.out [53] [51] _ _ _ _ _ (s1.up k1) (TSl.one (Blk.new wd _ _) 1)) fun we qe=>?_
 have g1:=Q.trans k1 qe
 replace s2:=s2.up g1
 replace s3:=s3.up g1
 have pe:=Q.trans pd g1
 clear s1 k1 qe g1 pd
 go_wp2_with fail
 have k1:Q we (we.alloc (.cells ([.string ⟨#[53]⟩,.string ⟨#[50]⟩]:List Value).toArray 60)):=bt
 refine cx (HEQ.out [53] [50] _ _ _ _ _ (s2.up k1) (TSl.one (Blk.new we _ _) 1)) fun wf qf=>?_
 have g1:=Q.trans k1 qf
 replace s3:=s3.up g1
 have pf:=Q.trans pe g1
 clear s2 k1 qf g1 pe
 go_wp2_with fail
 have k1:Q wf (wf.alloc (.cells ([.string ⟨#[49,47,50]⟩,.string ⟨#[49]⟩]:List Value).toArray 60)):=bt
 refine cx (HEQ.out [49,47,50] [49] _ _ _ _ _ (s3.up k1) (TSl.one (Blk.new wf _ _) 1)) fun wg qg=>?_
 have pg:=Q.trans pf (Q.trans k1 qg)
 clear s3 k1 qg pf
 go_wp2
 go_ret
 exact⟨rfl,pg⟩
end
end Go.Proofs.YtapnkgdnflofbaaGreatDoor
