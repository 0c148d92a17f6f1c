/-
  Walks of package front: the plane of a front; of package bevel: a face.; Walks of package joint: what is known of a rafter at an eaves of a plan.; Walks of package joint: Birdsmouth, Deepest, of whatever rafter at an eaves.; Walks of package bevel: the plane of a side's front.; Walks of package bevel: the backing of a member against a face.
-/
import Derived.Test.YthdpnkkddhcacaaGreatDoorBK22
import Derived.Test.YthdpnkkddhcacaaGreatDoorBK15
import Derived.Laws.CopyRow
import Derived.Laws.CopyOwn
set_option maxRecDepth 100000
set_option maxHeartbeats 8000000
namespace Go.Proofs.YthdpnkkddhcacaaGreatDoor
section
open Go.RowKit Go.Shelf Kp
attribute [local go_sem] Oper.semAt_some
theorem zq2{m n:Nat}(x y:Rat)(hx:Bd m x)(hy:Bd n y)(h0:y.num≠0)(h:m+n≤300)(w:World)(hE:Env w) :
  CR 120 #[.string ⟨(ze x).toArray⟩,.string ⟨(ze y).toArray⟩] w (.string ⟨(ze (x / y)).toArray⟩):=by
 have HD:=LH (fun w hw=>zbK x y hx hy h0 h w hw)
 generalize ze (x / y)=R at *
 generalize ze x=X at *
 generalize ze y=Y at *
 go_enter Tryz.func120,Tryz.ntmps120
 have hQ0:=Q.refl w
 go_wp2_with fail
 refine cx (HD.out _ (hE.ofQ bt)) fun w1 hq1=>?_
 have hs1:Q w w1:=Q.trans bt hq1
 have hQ1:Q w w1:=Q.trans hQ0 hs1
 go_wp2
 go_ret
 exact⟨rfl,bt⟩
def zgw(f:Fr):Rat:=(f.dir:Rat) / f.speed
def zp0(f:Fr):Rat:=f.start - zgw f*(f.coord:Rat)
def zol(f:Fr):List Value:=if f.up then [.string ⟨(ze (zgw f)).toArray⟩,.string ⟨#[48]⟩,.string ⟨(ze (zp0 f)).toArray⟩]else [.string ⟨#[48]⟩,.string ⟨(ze (zgw f)).toArray⟩,.string ⟨(ze (zp0 f)).toArray⟩]
theorem zeb{W:World}{b:Nat}{x y z:Value}(h:Blk W b [x,y,z] 62)(fn:Func)(m k:Nat)(hf:fn.results=#[.cell m 62,.tmp k])(tmps:Array Value)(u:Value)(hp:tmps.getD m undef=.pointer (some ⟨b,0,none⟩))(hk:tmps.getD k undef=u) :
  (results fn tmps).run Tryz.prog W=.ok (.tuple #[.agg #[x,y,z],u]) W:=by
 have c0:=h.cell
 simp only[Array.getD_eq_getD_getElem?]at hp hk
 simp[results,hf,go_sem,hp,hk,c0]
theorem znL(f:Fr)(h:FrOk f)(hs:f.speed≠0)(w:World)(hE:Env w) :
  CR 61 #[.agg (frC f).toArray] w (.tuple #[.agg (zol f).toArray,.int .i64 0]):=by
 have HC:=LH (fun w hw=>znM f h w hw)
 have n0:f.speed.num≠0:=fun e=>hs (Rat.num_eq_zero.1 e)
 have bd:Bd 5 (f.dir:Rat):=zmI (by rcases h.d with e | e <;> rw[e] <;> decide) (by decide)
 have bc:Bd 5 (f.coord:Rat):=zmI (by have:=h.c0;have:=h.c1;omega) (by decide)
 have br:Bd 10 (zgw f):=bd.quot h.s (by have:=h.s0;omega)
 have HW1:=LH (fun w hw=>zjF f.dir (by rcases h.d with e | e <;> rw[e] <;> decide) w hw)
 have HW2:=LH (fun w hw=>zjF f.coord (by have:=h.c0;have:=h.c1;omega) w hw)
 have HD:=LH (fun w hw=>zq2 (f.dir:Rat) f.speed bd h.s n0 (by decide) w hw)
 have HM:=LH (fun w hw=>zq1 (zgw f) (f.coord:Rat) br bc (by decide) w hw)
 have HS:=LH (fun w hw=>zq0 f.start (zgw f*(f.coord:Rat)) h.p (br.mul bc) (by decide) w hw)
 rw[show (f.dir:Rat) / f.speed=zgw f from rfl]at HD
 rw[show f.start - zgw f*(f.coord:Rat)=zp0 f from rfl]at HS
 have hz:(ze f.speed == [48])=false:=by
  rw[beq_eq_false_iff_ne,← zaw];exact fun e=>hs (zaS e)
 clear h hs n0 bd bc br
 unfold zol frC at *
 generalize ze (zgw f*(f.coord:Rat))=RC at *
 generalize ze (zp0 f)=BB at *
 generalize ze (zgw f)=RR at *
 generalize ze (f.dir:Rat)=DD at *
 generalize ze (f.coord:Rat)=CC at *
 generalize ze f.speed=SS at *
 generalize ze f.start=ST at *
 obtain⟨up,co,di,sp,st⟩:=f
 simp only at *
 go_enter Tryz.func61,Tryz.ntmps61
 obtain⟨W0,hW0⟩:∃ W0,(w.alloc (.cells #[.bool up,.int .i64 co,.int .i64 di,.string ⟨SS.toArray⟩,.string ⟨ST.toArray⟩] 113)).alloc (.cells #[.string ⟨#[]⟩,.string ⟨#[]⟩,.string ⟨#[]⟩] 62)=W0:=⟨_,rfl⟩
 have hq0:Q w W0:=by rw[← hW0];exact bt
 have BF:Blk W0 w.heap.size [.bool up,.int .i64 co,.int .i64 di,.string ⟨SS.toArray⟩,.string ⟨ST.toArray⟩] 113:=by rw[← hW0];exact(Blk.new w _ _).alloc _
 have BZ:Blk W0 (w.heap.size+1) [.string ⟨#[]⟩,.string ⟨#[]⟩,.string ⟨#[]⟩] 62:=by rw[← hW0];exact Blk.new1 w _ _ _
 have hE0:=hE.ofQ hq0
 have hQ0:=Q.refl W0
 replace f0:=BF.cell 0
 replace f1:=BF.cell 1
 replace f2:=BF.cell 2
 replace f3:=BF.cell 3
 replace f4:=BF.cell 4
 simp only[zs4,zs5]at f0 f1 f2 f3 f4
 replace lBF:=BF.lt
 replace z0:=BZ.cell
 replace lBZ:=BZ.lt
 go_wp2_with fail
 refine cx (HC.out _ hE0) fun G1 hq1=>?_
 have hs1:Q W0 G1:=Q.trans bt hq1
 have hQ1:Q W0 G1:=Q.trans hQ0 hs1
 replace BF:=BF.keep hs1 BF.lt
 replace f0:=BF.cell 0
 replace f1:=BF.cell 1
 replace f2:=BF.cell 2
 replace f3:=BF.cell 3
 replace f4:=BF.cell 4
 simp only[zs4,zs5]at f0 f1 f2 f3 f4
 replace lBF:=BF.lt
 replace BZ:=BZ.keep hs1 BZ.lt
 replace z0:=BZ.cell
 replace lBZ:=BZ.lt
 clear hW0 HC
 go_wp2_with fail
 have hEd:Env G1.drew:=hE0.ofQ (Q.trans hQ1 bt)
 refine zm 6 rfl (by kernel_rfl) rfl ?_
 refine svp 0 ?_
 refine svq 1 rfl (by intro w' hq;have hc0:=za hq f2;go_simp;try with_reducible rfl) ?_
 refine zh (i:=2) (v:=_) rfl rfl (by kernel_rfl) (by kernel_rfl) (fun _ _ _ h=>h) (by rfl) ?_ (fun w' hq=>HW1.out w' (hEd.ofQ hq)) ?_
 ·(intro w' hq;go_simp;try with_reducible rfl)
 simp only[Act.put,zs1,zs2,zs3]
 refine svp 3 ?_
 refine svq 4 rfl (by intro w' hq;have hc0:=za hq f3;go_simp;try with_reducible rfl) ?_
 refine zh (i:=5) (v:=_) rfl rfl (by kernel_rfl) (by kernel_rfl) (fun _ _ _ h=>h) (by rfl) ?_ (fun w' hq=>HD.out w' (hEd.ofQ hq)) ?_
 ·(intro w' hq;go_simp;try with_reducible rfl)
 simp only[Act.put,zs1,zs2,zs3]
 refine zi (by kernel_rfl) (fun w3 hq3=>?_)
 simp only[List.drop_succ_cons,List.drop_zero]
 have hq4:Q W0 w3:=Q.trans hQ1 (Q.trans (Below.drew (Q.refl G1)) hq3)
 replace BF:=BF.keep (Q.trans (Below.drew (Q.refl G1)) hq3) BF.lt
 replace BZ:=BZ.keep (Q.trans (Below.drew (Q.refl G1)) hq3) BZ.lt
 clear hq3 hEd HW1 HD hz
 have hQ0:=Q.refl w3
 replace f0:=BF.cell 0
 replace f1:=BF.cell 1
 replace f2:=BF.cell 2
 replace f3:=BF.cell 3
 replace f4:=BF.cell 4
 simp only[zs4,zs5]at f0 f1 f2 f3 f4
 replace lBF:=BF.lt
 replace z0:=BZ.cell
 replace lBZ:=BZ.lt
 go_wp2_with fail
 have hEd:Env w3.drew:=hE0.ofQ (Q.trans hq4 bt)
 refine zm 11 rfl (by kernel_rfl) rfl ?_
 refine svp 0 ?_
 refine svp 1 ?_
 refine svq 2 rfl (by intro w' hq;have hc0:=za hq f4;go_simp;try with_reducible rfl) ?_
 refine svp 3 ?_
 refine svp 4 ?_
 refine svq 5 rfl (by intro w' hq;have hc0:=za hq f1;go_simp;try with_reducible rfl) ?_
 refine zh (i:=6) (v:=_) rfl rfl (by kernel_rfl) (by kernel_rfl) (fun _ _ _ h=>h) (by rfl) ?_ (fun w' hq=>HW2.out w' (hEd.ofQ hq)) ?_
 ·(intro w' hq;go_simp;try with_reducible rfl)
 simp only[Act.put,zs1,zs2,zs3]
 refine zh (i:=7) (v:=_) rfl rfl (by kernel_rfl) (by kernel_rfl) (fun _ _ _ h=>h) (by rfl) ?_ (fun w' hq=>HM.out w' (hEd.ofQ hq)) ?_
 ·(intro w' hq;go_simp;try with_reducible rfl)
 simp only[Act.put,zs1,zs2,zs3]
 refine zh (i:=8) (v:=_) rfl rfl (by kernel_rfl) (by kernel_rfl) (fun _ _ _ h=>h) (by rfl) ?_ (fun w' hq=>HS.out w' (hEd.ofQ hq)) ?_
 ·(intro w' hq;go_simp;try with_reducible rfl)
 simp only[Act.put,zs1,zs2,zs3]
 refine svp 9 ?_
 refine zaC (i:=10) (.cells #[.string ⟨#[]⟩,.string ⟨#[]⟩,.string ⟨#[]⟩] 62) rfl rfl (by kernel_rfl) (by rfl) (fun w' hq=>by go_simp;try with_reducible rfl) (fun w6 hq6=>?_)
 simp only[Act.put,zs1,zs2,zs3]
 have BP:=Blk.new w6 [.string ⟨#[]⟩,.string ⟨#[]⟩,.string ⟨#[]⟩] 62
 refine zi (by kernel_rfl) (fun w7 hq7=>?_)
 simp only[List.drop_succ_cons,List.drop_zero]
 have hqc:Q w3 w7:=Q.trans (Below.drew (Q.refl w3)) (Q.trans hq6 (Q.trans ((Below.refl _ w6).alloc (Nat.le_refl _) _) hq7))
 have hq6':Q w3 w6:=Q.trans (Below.drew (Q.refl w3)) hq6
 have lz6:w.heap.size+1<w6.heap.size:=Nat.lt_of_lt_of_le BZ.lt hq6'.size
 have lf6:w.heap.size<w6.heap.size:=by omega
 have P:=BP.keep hq7 (by simp)
 have hw7:Q w w7:=Q.trans hq0 (Q.trans hq4 hqc)
 replace BF:=BF.keep hqc BF.lt
 replace BZ:=BZ.keep hqc BZ.lt
 generalize w6.heap.size=p at *
 clear hq6 hq7 hqc hq6' BP hEd HW2 HM HS hQ0 hE0 hq0 hq1 hs1 hQ1 hq4
 have hnp:p≠w.heap.size+1:=by omega
 have hnf:p≠w.heap.size:=by omega
 obtain⟨V,hV⟩:∃ V,w7.setRow p ([.string ⟨#[48]⟩,.string ⟨RR.toArray⟩,.string ⟨BB.toArray⟩]:List Value).toArray=V:=⟨_,rfl⟩
 have PV:Blk V p [.string ⟨#[48]⟩,.string ⟨RR.toArray⟩,.string ⟨BB.toArray⟩] 62:=by rw[← hV];exact setRow_heap _ _ _ _ _ _ P
 have FV:=BF.setRow (fun e=>hnf e.symm) ([.string ⟨#[48]⟩,.string ⟨RR.toArray⟩,.string ⟨BB.toArray⟩]:List Value).toArray
 have ZV:=BZ.setRow (fun e=>hnp e.symm) ([.string ⟨#[48]⟩,.string ⟨RR.toArray⟩,.string ⟨BB.toArray⟩]:List Value).toArray
 rw[hV]at FV ZV
 have hwV:Q w V:=by rw[← hV];exact below_setRow hw7 (by omega) _
 have hQ0:=Q.refl V
 replace f0:=FV.cell 0
 replace f1:=FV.cell 1
 replace f2:=FV.cell 2
 replace f3:=FV.cell 3
 replace f4:=FV.cell 4
 simp only[zs4,zs5]at f0 f1 f2 f3 f4
 replace lFV:=FV.lt
 replace z0:=ZV.cell
 replace lZV:=ZV.lt
 replace p0:=PV.cell
 replace lPV:=PV.lt
 have pf:=PV.frozen
 have zf:=ZV.frozen
 clear BF BZ f0 f1 f2 f3 f4 z0
 have ff:=FV.cell
 have zz:=ZV.cell
 cases up
 ·go_wp2_with (refine zdJ rfl 62 (.tmp 5) (.tmp 29) rfl p 0 P [.string ⟨#[48]⟩,.string ⟨RR.toArray⟩,.string ⟨BB.toArray⟩] [.string ⟨#[48]⟩,.string ⟨RR.toArray⟩,.string ⟨BB.toArray⟩] rfl rfl (by simp) rfl (by kernel_rfl) (by simp[Value.oneCell']) ?_;rw[hV])
  have R:=((ZV.set 0 (.string ⟨#[48]⟩)).set 1 (.string ⟨RR.toArray⟩)).set 2 (.string ⟨BB.toArray⟩)
  simp only[List.set_cons_zero,List.set_cons_succ]at R
  have hQ:=((hwV.setCell (p:=⟨w.heap.size+1,0,none⟩) (by simp) (.string ⟨#[48]⟩)).setCell (p:=⟨w.heap.size+1,1,none⟩) (by simp) (.string ⟨RR.toArray⟩)).setCell (p:=⟨w.heap.size+1,2,none⟩) (by simp) (.string ⟨BB.toArray⟩)
  refine bodyPost_ret (zeb R Tryz.f61 2 3 rfl _ _ rfl rfl) rfl ⟨rfl,hQ⟩
 ·have R0:=((ZV.setOther hnp 0 (.string ⟨RR.toArray⟩)).setOther hnp 1 (.string ⟨#[48]⟩))
  have R:=((R0.set 0 (.string ⟨RR.toArray⟩)).set 1 (.string ⟨#[48]⟩)).set 2 (.string ⟨BB.toArray⟩)
  simp only[List.set_cons_zero,List.set_cons_succ]at R
  have hQ:=((((hwV.setCell (p:=⟨p,0,none⟩) (show w.heap.size≤p by omega) (.string ⟨RR.toArray⟩)).setCell (p:=⟨p,1,none⟩) (show w.heap.size≤p by omega) (.string ⟨#[48]⟩)).setCell (p:=⟨w.heap.size+1,0,none⟩) (by simp) (.string ⟨RR.toArray⟩)).setCell (p:=⟨w.heap.size+1,1,none⟩) (by simp) (.string ⟨#[48]⟩)).setCell (p:=⟨w.heap.size+1,2,none⟩) (by simp) (.string ⟨BB.toArray⟩)
  clear R0
  go_wp2_with (refine zdJ rfl 62 (.tmp 5) (.tmp 29) rfl p 0 P [.string ⟨#[48]⟩,.string ⟨RR.toArray⟩,.string ⟨BB.toArray⟩] [.string ⟨#[48]⟩,.string ⟨RR.toArray⟩,.string ⟨BB.toArray⟩] rfl rfl (by simp) rfl (by kernel_rfl) (by simp[Value.oneCell']) ?_;rw[hV])
  refine bodyPost_ret (zeb R Tryz.f61 2 3 rfl _ _ rfl rfl) rfl ⟨rfl,hQ⟩
theorem zts(f:Fr):(frC f).length=5:=rfl
structure Sl3 where
 a:Option Addr
 n:Nat
 c:Nat
def Sl3.v(s:Sl3):Value:=.slice s.a s.n s.c
theorem zhI(R:List (List Sd))(hp:zcZ R=0)(hlen:R.length≤1000)(a:Option Addr)(nn cp:Nat)(i:Nat)(hi:i<R.flatten.length)(hg:(zcw R.flatten i).gable=false)(F:Fr)(hF:(zbR R)[i]? = some F)(hs:F.speed≠0)(w:World)(hE:Env w)(hv:zgb w (.slice a nn cp) R) :
  CR 24 #[.agg #[.slice a nn cp],.int .i64 i] w (.tuple #[.agg (zol F).toArray,.int .i64 0]):=by
 have ok:=ziv hp
 have HV:=LH hv
 have HS1:Hid (∀ W,Q w W→Calls Tryz.prog 59 #[.agg #[.slice a nn cp]] W fun e w'=>∃ v',e=.returned (.tuple #[v',.int .i64 0])∧Q W w'∧zcu 7 sdC w' v' R.flatten):=LH (fun W hq=>zkr R hp hlen _ W (HV.out.keep hq))
 have HA:Hid (∀ W,Env W→Q w W→Calls Tryz.prog 60 #[.agg #[.slice a nn cp]] W fun e w'=>∃ v',e=.returned (.tuple #[v',.int .i64 0])∧w'.ownsRow W.heap.size 113 5 v' R.flatten.length (rowOf frC (zbR R))∧Q W w'):=LH (fun W hW hq=>zq3 R hp hlen _ W hW (HV.out.keep hq))
 have hrl:0<R.flatten.length:=by omega
 have h24:R.flatten.length≤24:=by rw[count_flatten];exact ok.le
 have hfl:i<(zbR R).length:=(List.getElem?_eq_some_iff.1 hF).1
 have hFe:(zbR R)[i]=F:=(List.getElem?_eq_some_iff.1 hF).2
 have okF:=zpK ok.rg _ (List.getElem_mem hfl)
 rw[hFe]at okF
 have hpf:=fun w hw=>znL F okF hs w hw
 obtain⟨X,Y,Z,hpl⟩:∃ X Y Z:Str,zol F=[.string ⟨X.toArray⟩,.string ⟨Y.toArray⟩,.string ⟨Z.toArray⟩]:=by
  unfold zol
  split
  ·exact⟨_,[48],_,rfl⟩
  ·exact⟨[48],_,_,rfl⟩
 rw[hpl]at hpf ⊢
 have HP:=LH hpf
 clear hpf hpl
 obtain⟨W0,hW0⟩:∃ W0,(w.alloc (.cells #[.slice a nn cp] 28)).alloc (.cells #[.string ⟨#[]⟩,.string ⟨#[]⟩,.string ⟨#[]⟩] 62)=W0:=⟨_,rfl⟩
 have hq0:Q w W0:=by rw[← hW0];exact bt
 have BR:Blk W0 w.heap.size [.slice a nn cp] 28:=by rw[← hW0];exact(Blk.new w _ _).alloc _
 have BZ:Blk W0 (w.heap.size+1) [.string ⟨#[]⟩,.string ⟨#[]⟩,.string ⟨#[]⟩] 62:=by rw[← hW0];exact Blk.new1 w _ _ _
 have hE0:=hE.ofQ hq0
 clear hv HV hp ok hF hE hs okF
 generalize hS:R.flatten=S at *
 have hQ0:=Q.refl W0
 replace r0:=BR.cell
 replace lBR:=BR.lt
 replace z0:=BZ.cell 0
 replace z1:=BZ.cell 1
 replace z2:=BZ.cell 2
 simp only[zs4,zs5]at z0 z1 z2
 replace lBZ:=BZ.lt
 go_enter Tryz.func24,Tryz.ntmps24
 go_wp2_with fail
 refine(HS1.out _ hq0).mono ?_
 rintro e U1⟨vs,rfl,hq1,hrow⟩
 have hs1:Q W0 U1:=Q.trans bt hq1
 have hQ1:Q W0 U1:=Q.trans hQ0 hs1
 replace BR:=BR.keep hs1 BR.lt
 replace r0:=BR.cell
 replace lBR:=BR.lt
 replace BZ:=BZ.keep hs1 BZ.lt
 replace z0:=BZ.cell 0
 replace z1:=BZ.cell 1
 replace z2:=BZ.cell 2
 simp only[zs4,zs5]at z0 z1 z2
 replace lBZ:=BZ.lt
 obtain⟨ra,rcap,rfl,-⟩:=id hrow
 clear HS1 hW0
 have hln:(i:Int)<S.length:=by omega
 have hn0:(0:Int)≤i:=by omega
 obtain⟨-,hrw,-⟩:=zcu.at hrow
 obtain⟨b,o,rfl,hd⟩:=hrw i hi
 have d4:U1.cell? ⟨b,o+i*7+4,none⟩=some (.bool (zcw S i).gable):=hd 4 _ rfl
 rw[hg]at d4
 clear hd hrw
 go_wp2_with fail
 refine(HA.out _ (hE0.ofQ bt) (Q.trans hq0 hQ1)).mono ?_
 rintro e U2⟨vf,rfl,hown,hq2⟩
 have hs2:Q U1 U2:=Q.trans bt hq2
 have hQ2:Q W0 U2:=Q.trans hQ1 hs2
 replace BR:=BR.keep hs2 BR.lt
 replace r0:=BR.cell
 replace lBR:=BR.lt
 replace BZ:=BZ.keep hs2 BZ.lt
 replace z0:=BZ.cell 0
 replace z1:=BZ.cell 1
 replace z2:=BZ.cell 2
 simp only[zs4,zs5]at z0 z1 z2
 replace lBZ:=BZ.lt
 clear HA d4
 obtain⟨fg,fcap,rfl⟩:=zni hown hrl
 have hfc:∀ j u,j<5→(frC F)[j]? = some u→U2.cell? ⟨fg,i*5+j,none⟩=some u:=fun j u hj hu=>by
  have:=hown.cells rfl (i*5+j) u (by rw[zda zts _ i hfl j hj,hFe];exact hu)
  rw[Addr.add_lit,Nat.zero_add]at this
  exact this
 clear hown hrow
 unfold frC at hfc HP
 have f0:=hfc 0 _ (by decide) rfl
 have f1:=hfc 1 _ (by decide) rfl
 have f2:=hfc 2 _ (by decide) rfl
 have f3:=hfc 3 _ (by decide) rfl
 have f4:=hfc 4 _ (by decide) rfl
 rw[Nat.add_zero]at f0
 clear hfc
 generalize hl:S.length=rl at *
 go_wp2_with fail
 refine cx (HP.out _ (hE0.ofQ hQ2)) fun U3 hq3=>?_
 have B3:=BZ.keep hq3 BZ.lt
 have z3:=B3.cell
 have zf:=B3.frozen
 have hw3:Q w U3:=Q.trans hq0 (Q.trans hQ2 hq3)
 have R3:=((B3.set 0 (.string ⟨X.toArray⟩)).set 1 (.string ⟨Y.toArray⟩)).set 2 (.string ⟨Z.toArray⟩)
 simp only[List.set_cons_zero,List.set_cons_succ]at R3
 have hQ:=((hw3.setCell (p:=⟨w.heap.size+1,0,none⟩) (by simp) (.string ⟨X.toArray⟩)).setCell (p:=⟨w.heap.size+1,1,none⟩) (by simp) (.string ⟨Y.toArray⟩)).setCell (p:=⟨w.heap.size+1,2,none⟩) (by simp) (.string ⟨Z.toArray⟩)
 clear f0 f1 f2 f3 f4 hq3
 go_wp2
 refine bodyPost_ret (zeb R3 Tryz.f24 4 5 rfl _ _ rfl rfl) rfl ⟨rfl,hQ⟩
theorem zff(R:List (List Sd))(hp:zcZ R=0)(hlen:R.length≤1000)(hcn:zaz R≤1000)(a:Option Addr)(nn cp:Nat)(l:List Vm)(hl:∀ m∈l,VmOk m)(h2:l.length≤2)(b cap:Nat)(ty:TypeId)(w:World)(hE:Env w)(hv:zgb w (.slice a nn cp) R)(hb:Blk w b (l.flatMap Vm.c) ty) :
  CR 23 #[.agg #[.slice a nn cp],.slice (some ⟨b,0,none⟩) l.length cap] w (.int .i64 0):=by
 have HC:=LH (fun W hW (hq:Q w W)=>zf8 l hl h2 b cap ty W hW (hb.keep hq hb.lt))
 have hpc:=fun W (hq:Q w W)=>zhn R hlen hcn _ W (hv.keep hq)
 rw[hp]at hpc
 have HP:=LH hpc
 clear hpc hv hb hl h2 hp hlen hcn
 generalize l.length=n at *
 obtain⟨W0,hW0⟩:∃ W0,w.alloc (.cells #[.slice a nn cp] 28)=W0:=⟨_,rfl⟩
 have hq0:Q w W0:=by rw[← hW0];exact bt
 have BR:Blk W0 w.heap.size [.slice a nn cp] 28:=by rw[← hW0];exact Blk.new w _ _
 have hE0:=hE.ofQ hq0
 have hQ0:=Q.refl W0
 replace r0:=BR.cell
 replace lBR:=BR.lt
 go_enter Tryz.func23,Tryz.ntmps23
 go_wp2_with fail
 refine cx (HC.out _ hE0 hq0) fun U1 hq1=>?_
 have hs1:Q W0 U1:=Q.trans bt hq1
 have hQ1:Q W0 U1:=Q.trans hQ0 hs1
 replace BR:=BR.keep hs1 BR.lt
 replace r0:=BR.cell
 replace lBR:=BR.lt
 clear hW0 HC
 go_wp2_with fail
 refine cx (HP.out _ (Q.trans hq0 hQ1)) fun U2 hq2=>?_
 have hs2:Q U1 U2:=Q.trans bt hq2
 have hQ2:Q W0 U2:=Q.trans hQ1 hs2
 replace BR:=BR.keep hs2 BR.lt
 replace r0:=BR.cell
 replace lBR:=BR.lt
 have hQe:=Q.trans hq0 hQ2
 go_wp2
 go_ret
 exact⟨rfl,hQe⟩
def zhJ(A B:Rat)(d:P3):List (Rat × Rat):=[(zeA (A*d.y - B*d.x),1 / (flR d d+d.z*d.z))]
theorem zes(m:Vm)(hm:VmOk m)(A B C:Rat)(bA:Bd 10 A)(bB:Bd 10 B)(hr:A*(m.t.sub m.f).x+B*(m.t.sub m.f).y=(m.t.sub m.f).z)(hl0:0<flR (m.t.sub m.f) (m.t.sub m.f)+(m.t.sub m.f).z*(m.t.sub m.f).z)(a:Option Addr)(nn cp:Nat)(i:Nat)(w:World)(hE:Env w)
  (HCP:Hid (∀ b cap ty W,Env W→Q w W→Blk W b m.c ty→CR 23 #[.agg #[.slice a nn cp],.slice (some ⟨b,0,none⟩) 1 cap] W (.int .i64 0)))
  (HFA:Hid (∀ W,Env W→Q w W→CR 24 #[.agg #[.slice a nn cp],.int .i64 i] W (.tuple #[.agg #[.string ⟨(ze A).toArray⟩,.string ⟨(ze B).toArray⟩,.string ⟨(ze C).toArray⟩],.int .i64 0]))) :
  Calls Tryz.prog 9 #[.agg #[.slice a nn cp],.agg m.c.toArray,.int .i64 i] w (MkP w (zhJ A B (m.t.sub m.f))):=by
 have bd:B3 25 (m.t.sub m.f):=⟨zcP hm.t.1 hm.f.1,zcP hm.t.2.1 hm.f.2.1,zcP hm.t.2.2 hm.f.2.2⟩
 have HD:=LH (fun b w hw hb=>zb1 m.k m.F m.O m.W m.D m.f m.t hm.f hm.t (by decide) b w hw hb)
 generalize hdd:m.t.sub m.f=d at *
 clear hdd hm
 have H1:=LH (fun b w hw hb=>zcr A d.x bA bd.1 (by decide) b w hw hb)
 have H2:=LH (fun b w hw hb=>zcr B d.y bB bd.2.1 (by decide) b w hw hb)
 have h3:=fun b w hw hb=>zg4 (A*d.x) (B*d.y) (bA.mul bd.1) (bB.mul bd.2.1) (by decide) b w hw hb
 rw[hr]at h3
 have H3:=LH h3
 have H4:=LH (fun b w hw hb=>zcr A d.y bA bd.2.1 (by decide) b w hw hb)
 have H5:=LH (fun b w hw hb=>zcr B d.x bB bd.1 (by decide) b w hw hb)
 have H6:=LH (fun b w hw hb=>zoI (A*d.y) (B*d.x) (bA.mul bd.2.1) (bB.mul bd.1) (by decide) b w hw hb)
 have H7:=LH (fun w=>(zd3 (A*d.y - B*d.x) w).mono fun e w' h=>(show e=_∧Q w w' from⟨h.1,by rw[h.2];exact Q.refl _⟩))
 have H8:=LH (fun b w hw hb=>zd2 d d bd bd (by decide) b w hw hb)
 have H9:=LH (fun b w hw hb=>zcr d.z d.z bd.2.2 bd.2.2 (by decide) b w hw hb)
 have bf:Bd 101 (flR d d):=((bd.1.mul bd.1).add (bd.2.1.mul bd.2.1)).mono (by decide)
 have bs:Bd 152 (flR d d+d.z*d.z):=(bf.add (bd.2.2.mul bd.2.2)).mono (by decide)
 have bt:Bd 71 (A*d.y - B*d.x):=zcP (bA.mul bd.2.1) (bB.mul bd.1)
 have HA:=LH (fun b w hw hb=>zg4 (flR d d) (d.z*d.z) bf (bd.2.2.mul bd.2.2) (by decide) b w hw hb)
 have hv:=fun b w hw hb=>ziC 1 (flR d d+d.z*d.z) zbs bs (by have:=npos hl0;omega) (by decide) b w hw hb
 rw[zb4]at hv
 have HV:=LH hv
 have htw:∀ t∈zhJ A B d,TW t:=fun t ht=>by
  obtain rfl:=List.mem_singleton.1 ht
  exact⟨(zhK bt).zah (by decide),(zbs.quot bs (npos hl0)).zah (by decide),zeh (by decide) (npos hl0)⟩
 have hmk:=fun b v w hw hb hv=>zg3 (zhJ A B d) htw (by unfold zhJ;simp) b v w hw hb hv
 rw[show (zhJ A B d).map ofT=[(ze (zeA (A*d.y - B*d.x)),ze (1 / (flR d d+d.z*d.z)))]from rfl]at hmk
 have HM:=LH hmk
 clear hmk htw hv bf bs bt bA bB bd hr hl0 h3
 generalize zhJ A B d=T at *
 generalize ze (1 / (flR d d+d.z*d.z))=RT at *
 generalize ze (flR d d+d.z*d.z)=LS at *
 generalize ze (flR d d)=FS at *
 generalize ze (d.z*d.z)=ZS at *
 generalize ze (zeA (A*d.y - B*d.x))=AF at *
 generalize ze (A*d.y - B*d.x)=FF at *
 generalize ze (A*d.y)=P1 at *
 generalize ze (B*d.x)=P2 at *
 generalize ze (A*d.x)=Q1 at *
 generalize ze (B*d.y)=Q2 at *
 generalize ze A=SA at *
 generalize ze B=SB at *
 generalize ze C=SC at *
 obtain⟨ki,F,O,f,t,W,D⟩:=m
 unfold Vm.c at *
 unfold VN V3 at HD
 unfold V3 at H8
 simp only at *
 generalize ze d.x=DX at *
 generalize ze d.y=DY at *
 generalize ze d.z=DZ at *
 generalize ze f.x=X1 at *
 generalize ze f.y=X2 at *
 generalize ze f.z=X3 at *
 generalize ze t.x=X4 at *
 generalize ze t.y=X5 at *
 generalize ze t.z=X6 at *
 obtain⟨W0,hW0⟩:∃ W0,(w.alloc (.cells #[.slice a nn cp] 28)).alloc (.cells #[.int .i64 ki,.int .i64 F,.int .i64 O,.string ⟨X1.toArray⟩,.string ⟨X2.toArray⟩,.string ⟨X3.toArray⟩,.string ⟨X4.toArray⟩,.string ⟨X5.toArray⟩,.string ⟨X6.toArray⟩,.int .i64 W,.int .i64 D] 37)=W0:=⟨_,rfl⟩
 have hq0:Q w W0:=by rw[← hW0];exact bt
 have BR:Blk W0 w.heap.size [.slice a nn cp] 28:=by rw[← hW0];exact(Blk.new w _ _).alloc _
 have BM:Blk W0 (w.heap.size+1) [.int .i64 ki,.int .i64 F,.int .i64 O,.string ⟨X1.toArray⟩,.string ⟨X2.toArray⟩,.string ⟨X3.toArray⟩,.string ⟨X4.toArray⟩,.string ⟨X5.toArray⟩,.string ⟨X6.toArray⟩,.int .i64 W,.int .i64 D] 37:=by rw[← hW0];exact Blk.new1 w _ _ _
 have hQ0:=Q.refl W0
 replace r0:=BR.cell
 replace lBR:=BR.lt
 replace m0:=BM.cell
 replace lBM:=BM.lt
 go_enter Tryz.func9,Tryz.ntmps9
 have BS:=Blk.new W0 [.int .i64 ki,.int .i64 F,.int .i64 O,.string ⟨X1.toArray⟩,.string ⟨X2.toArray⟩,.string ⟨X3.toArray⟩,.string ⟨X4.toArray⟩,.string ⟨X5.toArray⟩,.string ⟨X6.toArray⟩,.int .i64 W,.int .i64 D] 37
 go_wp2_with fail
 refine cx (HCP.out _ _ _ _ (hE.ofQ (Q.trans hq0 bt)) (Q.trans hq0 bt) BS) fun G1 hq1=>?_
 have hs1:Q W0 G1:=Q.trans bt hq1
 have hQ1:Q W0 G1:=Q.trans hQ0 hs1
 replace BR:=BR.keep hs1 BR.lt
 replace r0:=BR.cell
 replace lBR:=BR.lt
 replace BM:=BM.keep hs1 BM.lt
 replace m0:=BM.cell
 replace lBM:=BM.lt
 clear hW0 HCP BS
 go_wp2_with fail
 refine cx (HFA.out _ (hE.ofQ (Q.trans hq0 hQ1)) (Q.trans hq0 hQ1)) fun G2 hq2=>?_
 have hs2:Q G1 G2:=Q.trans bt hq2
 have hQ2:Q W0 G2:=Q.trans hQ1 hs2
 replace BR:=BR.keep hs2 BR.lt
 replace r0:=BR.cell
 replace lBR:=BR.lt
 replace BM:=BM.keep hs2 BM.lt
 replace m0:=BM.cell
 replace lBM:=BM.lt
 clear HFA
 have BP0:=(Blk.new G2 [.string ⟨SA.toArray⟩,.string ⟨SB.toArray⟩,.string ⟨SC.toArray⟩] 62).alloc (.cells [.int .i64 0].toArray 67)
 have C0:zaA _ (G2.heap.size+1):=Blk.new1 G2 (.cells ([.string ⟨SA.toArray⟩,.string ⟨SB.toArray⟩,.string ⟨SC.toArray⟩]:List Value).toArray 62) [.int .i64 0] 67
 go_wp2_with fail
 refine cx (HD.out _ _ (hE.ofQ (Q.trans hq0 (Q.trans hQ2 bt))) C0) fun G3 hq3=>?_
 have hs3:Q G2 G3:=Q.trans bt hq3
 have hQ3:Q W0 G3:=Q.trans hQ2 hs3
 replace BR:=BR.keep hs3 BR.lt
 replace r0:=BR.cell
 replace lBR:=BR.lt
 replace BM:=BM.keep hs3 BM.lt
 replace m0:=BM.cell
 replace lBM:=BM.lt
 have C1:zaA G3 (G2.heap.size+1):=Blk.keep C0 hq3 (Blk.lt C0)
 have BP:=BP0.keep hq3 BP0.lt
 clear HD C0 BP0
 clear BR lBR r0
 clear BM lBM m0
 obtain⟨W2,hW2⟩:∃ W2,G3.alloc (.cells #[.string ⟨DX.toArray⟩,.string ⟨DY.toArray⟩,.string ⟨DZ.toArray⟩] 35)=W2:=⟨_,rfl⟩
 have BU:Blk W2 G3.heap.size [.string ⟨DX.toArray⟩,.string ⟨DY.toArray⟩,.string ⟨DZ.toArray⟩] 35:=by rw[← hW2];exact Blk.new G3 _ _
 have hq2w:Q G3 W2:=by rw[← hW2];exact bt
 have hQW:Q w W2:=Q.trans hq0 (Q.trans hQ3 hq2w)
 have hc:=C1.keep hq2w
 replace BP:=BP.keep hq2w BP.lt
 clear C1 hq0 hq1 hq2 hq3 hs1 hs2 hs3 hQ0 hQ1 hQ2 hQ3 hq2w
 go_wp2_with fail
 clear hW2
 generalize G2.heap.size+1=gc at *
 generalize G2.heap.size=gp at *
 generalize G3.heap.size=gu at *
 have hQ0:=Q.refl W2
 replace u0:=BU.cell 0
 replace u1:=BU.cell 1
 replace u2:=BU.cell 2
 simp only[zs4,zs5]at u0 u1 u2
 replace lBU:=BU.lt
 replace p0:=BP.cell 0
 replace p1:=BP.cell 1
 replace p2:=BP.cell 2
 simp only[zs4,zs5]at p0 p1 p2
 replace lBP:=BP.lt
 have BC:=hc
 unfold zaA at BC
 replace c0:=BC.cell
 replace lBC:=BC.lt
 have hEd:Env W2.drew:=hE.ofQ (Q.trans hQW (Below.drew (Q.refl W2)))
 have hcd:zaA W2.drew gc:=hc.keep (Below.drew (Q.refl W2))
 refine zm 14 rfl (by kernel_rfl) rfl ?_
 refine svp 0 ?_
 refine svp 1 ?_
 refine svp 2 ?_
 refine svq 3 rfl (by intro w' hq;have hc0:=za hq p0;go_simp;try with_reducible rfl) ?_
 refine svp 4 ?_
 refine svq 5 rfl (by intro w' hq;have hc0:=za hq u0;go_simp;try with_reducible rfl) ?_
 refine zh (i:=6) (v:=_) rfl rfl (by kernel_rfl) (by kernel_rfl) (fun _ _ _ h=>h) (by rfl) ?_ (fun w' hq=>H1.out _ w' (hEd.ofQ hq) (hcd.keep hq)) ?_
 ·(intro w' hq;go_simp;try with_reducible rfl)
 simp only[Act.put,zs1,zs2,zs3]
 refine svp 7 ?_
 refine svp 8 ?_
 refine svq 9 rfl (by intro w' hq;have hc0:=za hq p1;go_simp;try with_reducible rfl) ?_
 refine svp 10 ?_
 refine svq 11 rfl (by intro w' hq;have hc0:=za hq u1;go_simp;try with_reducible rfl) ?_
 refine zh (i:=12) (v:=_) rfl rfl (by kernel_rfl) (by kernel_rfl) (fun _ _ _ h=>h) (by rfl) ?_ (fun w' hq=>H2.out _ w' (hEd.ofQ hq) (hcd.keep hq)) ?_
 ·(intro w' hq;go_simp;try with_reducible rfl)
 simp only[Act.put,zs1,zs2,zs3]
 refine zh (i:=13) (v:=_) rfl rfl (by kernel_rfl) (by kernel_rfl) (fun _ _ _ h=>h) (by rfl) ?_ (fun w' hq=>H3.out _ w' (hEd.ofQ hq) (hcd.keep hq)) ?_
 ·(intro w' hq;go_simp;try with_reducible rfl)
 simp only[Act.put,zs1,zs2,zs3]
 refine zi (by kernel_rfl) (fun w3 hq3=>?_)
 simp only[List.drop_succ_cons]
 have hq4:Q W2 w3:=Q.trans (Below.drew (Q.refl W2)) hq3
 replace hQW:=Q.trans hQW hq4
 replace BU:=BU.keep hq4 BU.lt
 replace BP:=BP.keep hq4 BP.lt
 replace hc:=hc.keep hq4
 clear hq3 hq4 hEd hcd u0 u1 u2 p0 p1 p2 lBU lBP c0 lBC BC
 have hQ0:=Q.refl w3
 replace u0:=BU.cell 0
 replace u1:=BU.cell 1
 replace u2:=BU.cell 2
 simp only[zs4,zs5]at u0 u1 u2
 replace lBU:=BU.lt
 replace p0:=BP.cell 0
 replace p1:=BP.cell 1
 replace p2:=BP.cell 2
 simp only[zs4,zs5]at p0 p1 p2
 replace lBP:=BP.lt
 have BC:=hc
 unfold zaA at BC
 replace c0:=BC.cell
 replace lBC:=BC.lt
 go_wp2_with fail
 have hEd:Env w3.drew:=hE.ofQ (Q.trans hQW (Below.drew (Q.refl w3)))
 have hcd:zaA w3.drew gc:=hc.keep (Below.drew (Q.refl w3))
 refine zm 15 rfl (by kernel_rfl) rfl ?_
 refine svp 0 ?_
 refine svp 1 ?_
 refine svp 2 ?_
 refine svq 3 rfl (by intro w' hq;have hc0:=za hq p0;go_simp;try with_reducible rfl) ?_
 refine svp 4 ?_
 refine svq 5 rfl (by intro w' hq;have hc0:=za hq u1;go_simp;try with_reducible rfl) ?_
 refine zh (i:=6) (v:=_) rfl rfl (by kernel_rfl) (by kernel_rfl) (fun _ _ _ h=>h) (by rfl) ?_ (fun w' hq=>H4.out _ w' (hEd.ofQ hq) (hcd.keep hq)) ?_
 ·(intro w' hq;go_simp;try with_reducible rfl)
 simp only[Act.put,zs1,zs2,zs3]
 refine svp 7 ?_
 refine svp 8 ?_
 refine svq 9 rfl (by intro w' hq;have hc0:=za hq p1;go_simp;try with_reducible rfl) ?_
 refine svp 10 ?_
 refine svq 11 rfl (by intro w' hq;have hc0:=za hq u0;go_simp;try with_reducible rfl) ?_
 refine zh (i:=12) (v:=_) rfl rfl (by kernel_rfl) (by kernel_rfl) (fun _ _ _ h=>h) (by rfl) ?_ (fun w' hq=>H5.out _ w' (hEd.ofQ hq) (hcd.keep hq)) ?_
 ·(intro w' hq;go_simp;try with_reducible rfl)
 simp only[Act.put,zs1,zs2,zs3]
 refine zh (i:=13) (v:=_) rfl rfl (by kernel_rfl) (by kernel_rfl) (fun _ _ _ h=>h) (by rfl) ?_ (fun w' hq=>H6.out _ w' (hEd.ofQ hq) (hcd.keep hq)) ?_
 ·(intro w' hq;go_simp;try with_reducible rfl)
 simp only[Act.put,zs1,zs2,zs3]
 refine zh (i:=14) (v:=_) rfl rfl (by kernel_rfl) (by kernel_rfl) (fun _ _ _ h=>h) (by rfl) ?_ (fun w' hq=>H7.out w') ?_
 ·(intro w' hq;go_simp;try with_reducible rfl)
 simp only[Act.put,zs1,zs2,zs3]
 refine zi (by kernel_rfl) (fun w4 hq3=>?_)
 simp only[List.drop_succ_cons]
 have hq4:Q w3 w4:=Q.trans (Below.drew (Q.refl w3)) hq3
 replace hQW:=Q.trans hQW hq4
 replace BU:=BU.keep hq4 BU.lt
 replace BP:=BP.keep hq4 BP.lt
 replace hc:=hc.keep hq4
 clear hq3 hq4 hEd hcd u0 u1 u2 p0 p1 p2 lBU lBP c0 lBC BC
 have hQ0:=Q.refl w4
 replace u0:=BU.cell 0
 replace u1:=BU.cell 1
 replace u2:=BU.cell 2
 simp only[zs4,zs5]at u0 u1 u2
 replace lBU:=BU.lt
 replace p0:=BP.cell 0
 replace p1:=BP.cell 1
 replace p2:=BP.cell 2
 simp only[zs4,zs5]at p0 p1 p2
 replace lBP:=BP.lt
 have BC:=hc
 unfold zaA at BC
 replace c0:=BC.cell
 replace lBC:=BC.lt
 go_wp2_with fail
 have hEd:Env w4.drew:=hE.ofQ (Q.trans hQW (Below.drew (Q.refl w4)))
 have hcd:zaA w4.drew gc:=hc.keep (Below.drew (Q.refl w4))
 refine zm 12 rfl (by kernel_rfl) rfl ?_
 refine svp 0 ?_
 refine svp 1 ?_
 refine svq 2 rfl (by intro w' hq;have hc0:=za hq u0;have hc1:=za hq u1;have hc2:=za hq u2;go_simp;try with_reducible rfl) ?_
 refine svq 3 rfl (by intro w' hq;have hc0:=za hq u0;have hc1:=za hq u1;have hc2:=za hq u2;go_simp;try with_reducible rfl) ?_
 refine zh (i:=4) (v:=_) rfl rfl (by kernel_rfl) (by kernel_rfl) (fun _ _ _ h=>h) (by rfl) ?_ (fun w' hq=>H8.out _ w' (hEd.ofQ hq) (hcd.keep hq)) ?_
 ·(intro w' hq;go_simp;try with_reducible rfl)
 simp only[Act.put,zs1,zs2,zs3]
 refine svp 5 ?_
 refine svp 6 ?_
 refine svq 7 rfl (by intro w' hq;have hc0:=za hq u2;go_simp;try with_reducible rfl) ?_
 refine svp 8 ?_
 refine svq 9 rfl (by intro w' hq;have hc0:=za hq u2;go_simp;try with_reducible rfl) ?_
 refine zh (i:=10) (v:=_) rfl rfl (by kernel_rfl) (by kernel_rfl) (fun _ _ _ h=>h) (by rfl) ?_ (fun w' hq=>H9.out _ w' (hEd.ofQ hq) (hcd.keep hq)) ?_
 ·(intro w' hq;go_simp;try with_reducible rfl)
 simp only[Act.put,zs1,zs2,zs3]
 refine zh (i:=11) (v:=_) rfl rfl (by kernel_rfl) (by kernel_rfl) (fun _ _ _ h=>h) (by rfl) ?_ (fun w' hq=>HA.out _ w' (hEd.ofQ hq) (hcd.keep hq)) ?_
 ·(intro w' hq;go_simp;try with_reducible rfl)
 simp only[Act.put,zs1,zs2,zs3]
 refine zi (by kernel_rfl) (fun w5 hq3=>?_)
 simp only[List.drop_succ_cons]
 have hq4:Q w4 w5:=Q.trans (Below.drew (Q.refl w4)) hq3
 replace hQW:=Q.trans hQW hq4
 replace BU:=BU.keep hq4 BU.lt
 replace BP:=BP.keep hq4 BP.lt
 replace hc:=hc.keep hq4
 clear hq3 hq4 hEd hcd u0 u1 u2 p0 p1 p2 lBU lBP c0 lBC BC
 have hQ0:=Q.refl w5
 replace u0:=BU.cell 0
 replace u1:=BU.cell 1
 replace u2:=BU.cell 2
 simp only[zs4,zs5]at u0 u1 u2
 replace lBU:=BU.lt
 replace p0:=BP.cell 0
 replace p1:=BP.cell 1
 replace p2:=BP.cell 2
 simp only[zs4,zs5]at p0 p1 p2
 replace lBP:=BP.lt
 have BC:=hc
 unfold zaA at BC
 replace c0:=BC.cell
 replace lBC:=BC.lt
 go_wp2_with fail
 refine cx (HV.out _ _ (hE.ofQ hQW) hc) fun w6 hq6=>?_
 have hc6:=hc.keep hq6
 have hQ6:=Q.trans hQW hq6
 have BT:=Blk.new w6 [.string ⟨AF.toArray⟩,.string ⟨RT.toArray⟩] 47
 go_wp2_with fail
 refine(HM.out _ _ _ (hE.ofQ (Q.trans hQ6 bt)) (hc6.keep bt) (TSl.one BT 1)).mono ?_
 intro e y h
 obtain⟨v,E,rfl,hq5,h⟩:=h.lift (Q.trans hQ6 bt)
 have H5':=LH h
 clear h
 go_wp2
 go_ret2
 exact⟨_,_,rfl,hq5,H5'.out⟩
end
end Go.Proofs.YthdpnkkddhcacaaGreatDoor
