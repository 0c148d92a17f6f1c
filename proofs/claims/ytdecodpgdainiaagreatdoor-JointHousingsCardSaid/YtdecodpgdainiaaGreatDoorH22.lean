/-
  The mathematics of the law JointHousings.; The bounds of two members.; Walks of package front: the front of a side.; Walks of package front: the fronts of any plan.
-/
import Derived.Test.YtdecodpgdainiaaGreatDoorH21
import Derived.Test.YtdecodpgdainiaaGreatDoorH15
set_option maxRecDepth 100000
set_option maxHeartbeats 4000000
namespace Go.Proofs.YtdecodpgdainiaaGreatDoor
section
open Go.RowKit Go.Shelf Kp
open Go.Lib (decDigits)
theorem P3.sub_x(a b:P3):(a.sub b).x=a.x - b.x:=rfl
theorem P3.sub_y(a b:P3):(a.sub b).y=a.y - b.y:=rfl
theorem zou(f t v:P3):crF (f.sub t) v = -crF (t.sub f) v:=by unfold crF;rw[P3.sub_x,P3.sub_y,P3.sub_x,P3.sub_y];grind
theorem zsf(f t v:P3):doF (f.sub t) v = -doF (t.sub f) v:=by unfold doF;rw[P3.sub_x,P3.sub_y,P3.sub_x,P3.sub_y];grind
theorem zra(f t:P3):doF (f.sub t) (f.sub t)=doF (t.sub f) (t.sub f):=by unfold doF;rw[P3.sub_x,P3.sub_y,P3.sub_x,P3.sub_y];grind
theorem zok(W q:Int)(f t v:P3):hsT W q (f.sub t) v=hsT W q (t.sub f) v:=by
 unfold hsT
 rw[zou f t v,zsf f t v,zra f t,zl0,zl0]
theorem zr1(W q:Int)(f t v:P3):hsE W q (f.sub t) v=hsE W q (t.sub f) v:=by
 unfold hsE
 rw[zok,zou]
 by_cases h:crF (t.sub f) v=0
 ·rw[if_pos (by rw[h];rfl),if_pos h]
 ·rw[if_neg (zmA h),if_neg h]
theorem zsJ(u v:P3):doF u u*doF v v=crF u v*crF u v+doF u v*doF u v:=by unfold doF crF;grind
theorem sq_pos{q:Rat}(h:q≠0):0<q*q:=by
 have h1:=sq_nonneg q
 rcases Rat.le_iff_lt_or_eq.1 h1 with h2 | h2
 ·exact h2
 ·exfalso
  have:q*q=0:=h2.symm
  rcases Rat.mul_eq_zero.1 this with e | e <;> exact h e
theorem zos{a b:Rat}(ha:0<a)(hb:0<b):0<a / b:=by
 rw[Rat.div_def]
 exact Rat.mul_pos ha (Rat.inv_pos.2 hb)
theorem zjK{a b:Rat}(ha:0≤a)(hb:0<b):0≤a / b:=by
 rw[Rat.div_def]
 exact Rat.mul_nonneg ha (Rat.le_of_lt (Rat.inv_pos.2 hb))
theorem house{W q:Int}{u v:P3}(hW:1≤W)(hq:0≤q)(hc:crF u v≠0){C:List (Rat × Nat)}(h:zbH (hsT W q u v)=some C):HA (zeP C) (W:Rat)∧∀ c∈zeP C,zbY c=true:=by
 have pc:=zlZ hc
 have hW0:(0:Rat)<(W:Rat):=by
  have:(0:Int)<W:=by omega
  exact Rat.intCast_pos.2 this
 have h2:=sq_pos hc
 have hs:=zsJ u v
 have hd:=sq_nonneg (doF u v)
 have hs0:0<doF u u*doF v v:=by rw[hs];grind
 refine zpw (zos hW0 pc) hs0 ?_ ?_ h
 ·exact Rat.mul_nonneg (zjK (zn0 _) pc) (Rat.intCast_nonneg.2 hq)
 ·have e:(W:Rat) / zcY (crF u v)*((W:Rat) / zcY (crF u v))*(doF u u*doF v v)=(W:Rat)*(W:Rat)*((doF u u*doF v v) / (crF u v*crF u v)):=by
   rw[← ztQ (crF u v)]
   have:=zar pc
   grind
  rw[e]
  have h1:(1:Rat)≤(doF u u*doF v v) / (crF u v*crF u v):=by
   have e2:(doF u u*doF v v) / (crF u v*crF u v)=1+(doF u v*doF u v) / (crF u v*crF u v):=by
    rw[hs]
    have:=zar h2
    grind
   rw[e2]
   have:=zjK hd h2
   grind
  have h3:(0:Rat)≤(W:Rat)*(W:Rat):=sq_nonneg _
  have:=Rat.mul_le_mul_of_nonneg_left h1 h3
  rw[show (W:Rat)*(W:Rat)*1=(W:Rat)*(W:Rat) by grind]at this
  exact this
def tuF(v:P3)(z:Rat):P3:=⟨-v.y,v.x,z⟩
theorem ztZ(v:P3)(z:Rat):crF (tuF v z) v = -doF v v:=by unfold crF doF tuF;grind
theorem zuv(v:P3)(z:Rat):doF (tuF v z) v=0:=by unfold doF tuF;grind
theorem zuu(v:P3)(z:Rat):doF (tuF v z) (tuF v z)=doF v v:=by unfold doF tuF;grind
theorem zpX{u v:P3}(hc:crF u v≠0):0<doF v v:=by
 have h0:0≤doF v v:=Rat.add_nonneg (sq_nonneg _) (sq_nonneg _)
 rcases Rat.le_iff_lt_or_eq.1 h0 with h | h
 ·exact h
 ·exfalso
  have hs:=zsJ u v
  have h2:=sq_pos hc
  have hd:=sq_nonneg (doF u v)
  rw[← h]at hs
  grind
theorem zpS{r:Rat}(hr:0<r):aOf (r*r)=r∧leftOf (r*r)=1:=by
 have hn:0<r.num:=npos hr
 obtain⟨e1,e2⟩:=zfH r
 have hk:(r*r).num.toNat*(r*r).den=(r.num.toNat*r.den)*(r.num.toNat*r.den):=by
  rw[e1,e2,Int.toNat_mul (by omega) (by omega)]
  ac_rfl
 have hp:0<r.num.toNat*r.den:=Nat.mul_pos (by omega) r.den_pos
 have hN:=zoc hp
 have hl:leftOf (r*r)=1:=by unfold leftOf;rw[hk,hN]
 refine⟨?_,hl⟩
 have h1:=zoE (s:=r*r) (npos (Rat.mul_pos hr hr))
 rw[hl,show ((1:Nat):Rat)=1 from rfl]at h1
 have h2:=zsO (s:=r*r) (npos (Rat.mul_pos hr hr))
 have a1:aOf (r*r)≤r:=ziD (Rat.le_of_lt hr) (by grind)
 have a2:r≤aOf (r*r):=ziD (Rat.le_of_lt h2) (by grind)
 grind
theorem zp1{W q:Int}{v:P3}{z:Rat}(hW:1≤W)(hv:0<doF v v){C:List (Rat × Nat)}(h:zbH (hsT W q (tuF v z) v)=some C):zeP C=[((W:Rat),1)]:=by
 have ea:zcY (crF (tuF v z) v)=doF v v:=by
  rw[ztZ,zl0]
  unfold zcY
  rw[if_neg (by have:=npos hv;omega)]
 have e:hsT W q (tuF v z) v=[((W:Rat) / doF v v,doF v v*doF v v),(0,1)]:=by
  unfold hsT
  rw[ea,zuu,zuv]
  have:zcY 0=0:=rfl
  rw[this]
  have h0:(0:Rat) / doF v v*(q:Rat)=0:=by grind
  rw[h0]
 rw[e]at h
 have hW0:(0:Rat)<(W:Rat):=Rat.intCast_pos.2 (by omega)
 have hx:(W:Rat) / doF v v≠0:=zar (zos hW0 hv)
 unfold zbH at h
 have e2:zeQ [((W:Rat) / doF v v,doF v v*doF v v),(0,1)]=(zhh [] ((W:Rat) / doF v v,doF v v*doF v v)).bind fun cs=>zhh cs (0,1):=rfl
 rw[e2]at h
 cases h1:zhh [] ((W:Rat) / doF v v,doF v v*doF v v)with
 | none=>rw[h1]at h;cases h
 | some c0 =>
  rw[h1]at h
  simp only[Option.bind_some]at h
  have e0:=zgn hx (zar (Rat.mul_pos hv hv)) h1
  obtain⟨e3,e4⟩:=zpS hv
  rw[e3,e4,zhf]at e0
  have e5:(W:Rat) / doF v v*doF v v=(W:Rat):=by have:=zar hv;grind
  rw[e5]at e0
  subst e0
  rw[zl8]at h
  simp only[Option.bind_some]at h
  split at h
  ·have:C=[((W:Rat),1)]:=by
    rw[← Option.some.inj h]
    unfold zcN
    rw[List.filter_cons,if_pos (by simp[zar hW0])]
    rfl
   subst this
   rfl
  ·cases h
theorem zm9{W:Int}(hW:1≤W):HA [((W:Rat),1)] (W:Rat):=.inl ⟨_,_,rfl,Rat.intCast_pos.2 (by omega),zlq,by rw[show ((1:Nat):Rat)=1 from rfl];grind⟩
theorem zkl{W : Int}(h1 : 1 ≤ W)(h2 : W ≤ 1000) : ∀ c ∈ [((W : Rat), 1)], zbY c = true := fun c hc => by
  rw[List.mem_singleton]at hc
  subst hc
  unfold zbY
  have b1 : Bd 60 (W : Rat) := zjz (n := 60) (by have : (1000 : Nat) < 10 ^ 60 := by decide
                                                 omega) (by decide)
  have l1 := zdH b1 (by decide)
  have l2 := zdH (q := ((1 : Nat) : Rat)) (n := 1) zfL (by decide)
  simp only[Bool.and_eq_true, decide_eq_true_eq]
  exact⟨by omega, by omega⟩
theorem zpV{W:Int}(h1:1≤W)(h2:W≤1000):zbH [((W:Rat),1)]=some [((W:Rat),1)]:=by
 have hW0:(W:Rat)≠0:=zar (Rat.intCast_pos.2 (by omega))
 have hb:Bd 4 (W:Rat):=zjz (by omega) (by decide)
 have hv:zhh [] ((W:Rat),1)=some [((W:Rat),1)]:=by
  have hm:mulL (W:Rat) (aOf 1)=false:=by
   rw[zl2]
   unfold mulL
   rw[zaO (n:=5) (za6 (m:=4) (n:=1) hb.1 zfL.1) (by decide),zaO (n:=5) (by rw[← Int.natCast_mul,Int.natAbs_natCast];exact zch hb zfL) (by decide)]
   rfl
  rw[zna hW0 (by decide) zqw (by rw[zde];have:=zdH (q:=((1:Nat):Rat)) (n:=1) zfL (by decide);omega) hm rfl,zl2,zde,show (W:Rat)*1=(W:Rat) by grind]
  rfl
 unfold zbH
 have e:zeQ [((W:Rat),1)]=zhh [] ((W:Rat),1):=rfl
 rw[e,hv]
 simp only[Option.bind_some]
 have ho:zcN [((W:Rat),1)]=[((W:Rat),1)]:=by
  unfold zcN
  rw[List.filter_cons,if_pos (by simp[hW0])]
  rfl
 rw[ho,if_pos (List.all_eq_true.2 (zkl h1 h2))]
end
section
open Go.RowKit Go.Shelf Kp
attribute [local go_sem] Oper.semAt_some
theorem zqr(m n:Mb)(b c:Nat)(t:TypeId)(w:World)(hb:Blk w b (mbC m++mbC n) t) :
  CR 4 #[.slice (some ⟨b,0,none⟩) 2 c] w (.bool (grM m || grM n)):=by
 unfold grM
 obtain⟨k,fc,ot,X,Y,Z,X',Y',Z',W,D⟩:=m
 obtain⟨k2,fc2,ot2,A,B,C,A',B',C',W2,D2⟩:=n
 unfold mbC at hb
 simp only[List.cons_append,List.nil_append]at hb
 simp only
 have H1:=LH (fun w=>zcl X Y Z w)
 have H2:=LH (fun w=>zcl X' Y' Z' w)
 have H3:=LH (fun w=>zcl A B C w)
 have H4:=LH (fun w=>zcl A' B' C' w)
 generalize grS X Y Z=g1 at *
 generalize grS X' Y' Z'=g2 at *
 generalize grS A B C=g3 at *
 generalize grS A' B' C'=g4 at *
 cases g1 with
 | true =>
  have hQ0:=Q.refl w
  replace m0:=hb.cell
  replace lhb:=hb.lt
  go_enter Tryz.func4,Tryz.ntmps4
  go_wp2
  refine wp_loop_rounds 3 ?_
  rw[rounds_succ]
  go_wp2_with fail
  refine cx (H1.out _) fun w1 hq1=>?_
  have hs1:Q w w1:=Q.trans bt hq1
  have hQ1:Q w w1:=Q.trans hQ0 hs1
  replace hb:=hb.keep hs1 hb.lt
  replace m0:=hb.cell
  replace lhb:=hb.lt
  go_wp2
  go_ret
  exact⟨rfl,bt⟩
 | false =>
  cases g2 with
  | true =>
   have hQ0:=Q.refl w
   replace m0:=hb.cell
   replace lhb:=hb.lt
   go_enter Tryz.func4,Tryz.ntmps4
   go_wp2
   refine wp_loop_rounds 3 ?_
   rw[rounds_succ]
   go_wp2_with fail
   refine cx (H1.out _) fun w1 hq1=>?_
   have hs1:Q w w1:=Q.trans bt hq1
   have hQ1:Q w w1:=Q.trans hQ0 hs1
   replace hb:=hb.keep hs1 hb.lt
   replace m0:=hb.cell
   replace lhb:=hb.lt
   go_wp2_with fail
   refine cx (H2.out _) fun w2 hq2=>?_
   have hs2:Q w1 w2:=Q.trans bt hq2
   have hQ2:Q w w2:=Q.trans hQ1 hs2
   replace hb:=hb.keep hs2 hb.lt
   replace m0:=hb.cell
   replace lhb:=hb.lt
   go_wp2
   go_ret
   exact⟨rfl,bt⟩
  | false =>
   cases g3 with
   | true =>
    have hQ0:=Q.refl w
    replace m0:=hb.cell
    replace lhb:=hb.lt
    go_enter Tryz.func4,Tryz.ntmps4
    go_wp2
    refine wp_loop_rounds 3 ?_
    rw[rounds_succ]
    go_wp2_with fail
    refine cx (H1.out _) fun w1 hq1=>?_
    have hs1:Q w w1:=Q.trans bt hq1
    have hQ1:Q w w1:=Q.trans hQ0 hs1
    replace hb:=hb.keep hs1 hb.lt
    replace m0:=hb.cell
    replace lhb:=hb.lt
    go_wp2_with fail
    refine cx (H2.out _) fun w2 hq2=>?_
    have hs2:Q w1 w2:=Q.trans bt hq2
    have hQ2:Q w w2:=Q.trans hQ1 hs2
    replace hb:=hb.keep hs2 hb.lt
    replace m0:=hb.cell
    replace lhb:=hb.lt
    go_wp2
    rw[rounds_succ]
    go_wp2_with fail
    refine cx (H3.out _) fun w3 hq3=>?_
    have hs3:Q w2 w3:=Q.trans bt hq3
    have hQ3:Q w w3:=Q.trans hQ2 hs3
    replace hb:=hb.keep hs3 hb.lt
    replace m0:=hb.cell
    replace lhb:=hb.lt
    go_wp2
    go_ret
    exact⟨rfl,bt⟩
   | false =>
    cases g4 with
    | true =>
     have hQ0:=Q.refl w
     replace m0:=hb.cell
     replace lhb:=hb.lt
     go_enter Tryz.func4,Tryz.ntmps4
     go_wp2
     refine wp_loop_rounds 3 ?_
     rw[rounds_succ]
     go_wp2_with fail
     refine cx (H1.out _) fun w1 hq1=>?_
     have hs1:Q w w1:=Q.trans bt hq1
     have hQ1:Q w w1:=Q.trans hQ0 hs1
     replace hb:=hb.keep hs1 hb.lt
     replace m0:=hb.cell
     replace lhb:=hb.lt
     go_wp2_with fail
     refine cx (H2.out _) fun w2 hq2=>?_
     have hs2:Q w1 w2:=Q.trans bt hq2
     have hQ2:Q w w2:=Q.trans hQ1 hs2
     replace hb:=hb.keep hs2 hb.lt
     replace m0:=hb.cell
     replace lhb:=hb.lt
     go_wp2
     rw[rounds_succ]
     go_wp2_with fail
     refine cx (H3.out _) fun w3 hq3=>?_
     have hs3:Q w2 w3:=Q.trans bt hq3
     have hQ3:Q w w3:=Q.trans hQ2 hs3
     replace hb:=hb.keep hs3 hb.lt
     replace m0:=hb.cell
     replace lhb:=hb.lt
     go_wp2_with fail
     refine cx (H4.out _) fun w4 hq4=>?_
     have hs4:Q w3 w4:=Q.trans bt hq4
     have hQ4:Q w w4:=Q.trans hQ3 hs4
     replace hb:=hb.keep hs4 hb.lt
     replace m0:=hb.cell
     replace lhb:=hb.lt
     go_wp2
     go_ret
     exact⟨rfl,bt⟩
    | false =>
     have hQ0:=Q.refl w
     replace m0:=hb.cell
     replace lhb:=hb.lt
     go_enter Tryz.func4,Tryz.ntmps4
     go_wp2
     refine wp_loop_rounds 3 ?_
     rw[rounds_succ]
     go_wp2_with fail
     refine cx (H1.out _) fun w1 hq1=>?_
     have hs1:Q w w1:=Q.trans bt hq1
     have hQ1:Q w w1:=Q.trans hQ0 hs1
     replace hb:=hb.keep hs1 hb.lt
     replace m0:=hb.cell
     replace lhb:=hb.lt
     go_wp2_with fail
     refine cx (H2.out _) fun w2 hq2=>?_
     have hs2:Q w1 w2:=Q.trans bt hq2
     have hQ2:Q w w2:=Q.trans hQ1 hs2
     replace hb:=hb.keep hs2 hb.lt
     replace m0:=hb.cell
     replace lhb:=hb.lt
     go_wp2
     rw[rounds_succ]
     go_wp2_with fail
     refine cx (H3.out _) fun w3 hq3=>?_
     have hs3:Q w2 w3:=Q.trans bt hq3
     have hQ3:Q w w3:=Q.trans hQ2 hs3
     replace hb:=hb.keep hs3 hb.lt
     replace m0:=hb.cell
     replace lhb:=hb.lt
     go_wp2_with fail
     refine cx (H4.out _) fun w4 hq4=>?_
     have hs4:Q w3 w4:=Q.trans bt hq4
     have hQ4:Q w w4:=Q.trans hQ3 hs4
     replace hb:=hb.keep hs4 hb.lt
     replace m0:=hb.cell
     replace lhb:=hb.lt
     go_wp2
     rw[rounds_succ]
     go_wp2
     go_ret
     exact⟨rfl,bt⟩
theorem ztr{m:Mb}(h:MbOk m):(.agg (mbC m).toArray:Value)=VN m.kind m.face m.other m.wid m.dep m.pf m.pt:=by
 obtain⟨e1,e2,e3⟩:=h.strf
 obtain⟨e4,e5,e6⟩:=h.strt
 unfold mbC VN
 rw[e1,e2,e3,e4,e5,e6]
theorem ztq{m:Mb}(h:MbOk m):m.pf≠m.pt:=fun e=>by
 obtain⟨e1,e2,e3⟩:=h.strf
 obtain⟨e4,e5,e6⟩:=h.strt
 exact h.ne ⟨by rw[← e1,← e4,e],by rw[← e2,← e5,e],by rw[← e3,← e6,e]⟩
theorem zpT{m:Mb}(h:MbOk m):MOk m.kind m.wid m.dep∧FOk m.face m.other:=⟨⟨h.k1,h.k2,h.w1,h.w2,h.d1,h.d2⟩,⟨h.f0,h.o0⟩⟩
structure Mb.flat (m:Mb):Prop where
 fx:m.fx.length≤12
 fy:m.fy.length≤12
 tx:m.tx.length≤12
 ty:m.ty.length≤12
theorem zrQ{m:Mb}(h:MbOk m)(hl:m.flat):B2 12 m.pf∧B2 12 m.pt:=⟨⟨zbe h.cf.1 hl.fx (by decide),zbe h.cf.2.1 hl.fy (by decide)⟩,⟨zbe h.ct.1 hl.tx (by decide),zbe h.ct.2.1 hl.ty (by decide)⟩⟩
theorem zh4{m:Mb}(h:MbOk m)(hl:m.flat):B2 25 (m.pt.sub m.pf)∧B2 25 (m.pf.sub m.pt):=by
 obtain⟨⟨a,b⟩,c,d⟩:=zrQ h hl
 exact⟨⟨zm3 c a,zm3 d b⟩,⟨zm3 a c,zm3 b d⟩⟩
def tuP(f v:P3)(z:Rat):P3:=⟨f.x - v.y,f.y+v.x,z⟩
theorem zsV(f v:P3)(z:Rat):(tuP f v z).sub f=tuF v (z - f.z):=by
 show (⟨f.x - v.y - f.x,f.y+v.x - f.y,z - f.z⟩:P3)=⟨-v.y,v.x,z - f.z⟩
 congr 1 <;> grind
theorem zp4{f v:P3}{z:Rat}(h:0<doF v v):f≠tuP f v z:=fun e=>by
 have h1:f.x=f.x - v.y:=congrArg P3.x e
 have h2:f.y=f.y+v.x:=congrArg P3.y e
 have e1:v.y=0:=by grind
 have e2:v.x=0:=by grind
 unfold doF at h
 rw[e1,e2,show (0:Rat)*0+0*0=0 by grind]at h
 exact absurd h (by decide)
theorem zt1{v:P3}(hv:B2 25 v)(z:Rat):B2 25 (tuF v z):=⟨zod hv.2,hv.1⟩
theorem zt0{f v:P3}{z:Rat}(hf:B2 12 f)(hv:B2 25 v)(hz:Bd 30 z):B3 40 (tuP f v z):=⟨(zm3 hf.1 hv.2).mono (by decide),(hf.2.add hv.1).mono (by decide),hz.mono (by decide)⟩
theorem zsk{u v:P3}(z:Rat)(hc:crF u v≠0):crF (tuF v z) v≠0:=by
 rw[ztZ]
 exact zmA (zar (zpX hc))
end
section
open Go.RowKit Go.Shelf Kp
attribute [local go_sem] Oper.semAt_some
theorem zop(s n:Sd):zg8 s n<4:=by
 unfold zg8
 split
 ·omega
 ·split
  ·omega
  ·split <;> omega
theorem Env.dirAt{w:World}(h:Env w){k:Nat}(hk:k<4):w.cell? ⟨2,k*2,none⟩=some (.bool (upF k))∧w.cell? ⟨2,k*2+1,none⟩=some (.int .i64 (ztA k)):=by
 obtain⟨t,f,hd⟩:=h.dirs
 have hc:∀ i,w.cell? ⟨2,i,none⟩=zsh[i]?:=fun i=>by simp[World.cell?,hd]
 rw[hc,hc]
 match k,hk with
 | 0,_=>exact⟨rfl,rfl⟩
 | 1,_=>exact⟨rfl,rfl⟩
 | 2,_=>exact⟨rfl,rfl⟩
 | 3,_=>exact⟨rfl,rfl⟩
theorem zc6{W:World}{b:Nat}{x y z u v:Value}(h:Blk W b [x,y,z,u,v] 165)(fn:Func)(m:Nat)(hf:fn.results=#[.cell m 165])(tmps:Array Value)(hp:tmps.getD m undef=.pointer (some ⟨b,0,none⟩)) :
  (results fn tmps).run Tryz.prog W=.ok (.agg #[x,y,z,u,v]) W:=by
 exact results_cell_row hf tmps W b _ #[x,y,z,u,v] (0,0) _ hp h Tryz.underlying165 rfl (by kernel_rfl)
theorem zr4(s n:Sd)(hs:Rgd s)(w:World)(hE:Env w) :
  CR 138 #[.agg (sdC s).toArray,.agg (sdC n).toArray] w (.agg (frC (zjI s n)).toArray):=by
 have HH:=LH (fun w (_:Env w)=>zlP s n w)
 have HP:=LH (fun w hw=>zaw s.plate 1 (by decide) (by have:=hs.p0;have:=hs.p1;omega) (by decide) w hw)
 rw[zfx]at HP
 have HD:Hid (∀ W,Env W→W.cell? ⟨2,zg8 s n*2,none⟩=some (.bool (upF (zg8 s n)))∧W.cell? ⟨2,zg8 s n*2+1,none⟩=some (.int .i64 (ztA (zg8 s n)))):=LH (fun W hW=>hW.dirAt (zop s n))
 have hk4:=zop s n
 obtain⟨SP,hSP⟩:∃ SP,za (if s.gable then(0:Rat)else Rat.divInt s.run s.rise)=SP:=⟨_,rfl⟩
 have H1:Hid (s.gable=true→SP=[48]):=LH (fun hg=>by rw[← hSP,if_pos hg];exact zav)
 have HN:Hid (s.gable=false→∃ k:Nat,s.rise=k∧∀ W,Env W→CR 36 #[.int .i64 s.run,.int .i64 (k:Nat)] W (.tuple #[.string ⟨SP.toArray⟩,.int .i64 0])):=LH (fun hg=>by
  rw[← hSP,hg]
  have h1:=hs.n hg
  obtain⟨k,hk⟩:=Int.eq_ofNat_of_zero_le (show 0≤s.rise by omega)
  refine⟨k,hk,fun W hW=>?_⟩
  rw[hk]
  exact zaw s.run k (by omega) (by omega) (by omega) W hW)
 unfold zjI frC
 simp only[hSP]
 clear hSP
 generalize zg8 s n=hd at *
 generalize upF hd=up at *
 generalize ztA hd=dr at *
 obtain⟨x1,y1,r1,n1,g1,p1,o1⟩:=s
 obtain⟨x2,y2,r2,n2,g2,p2,o2⟩:=n
 simp only at HN H1 HP ⊢
 clear hs
 generalize za (p1:Rat)=PL at *
 obtain⟨co,hco⟩:∃ co,(if up=true then x1 else y1)=co:=⟨_,rfl⟩
 rw[hco]
 have hdz:(hd:Int)<4:=by omega
 have hd0:(0:Int)≤hd:=by omega
 have BS:=((Blk.new w [.int .i64 x1,.int .i64 y1,.int .i64 r1,.int .i64 n1,.bool g1,.int .i64 p1,.int .i64 o1] 108).alloc (.cells #[.int .i64 x2,.int .i64 y2,.int .i64 r2,.int .i64 n2,.bool g2,.int .i64 p2,.int .i64 o2] 108)).alloc (.cells #[.bool false,.int .i64 0,.int .i64 0,.string ⟨#[]⟩,.string ⟨#[]⟩] 165)
 have BZ:=Blk.new ((w.alloc (.cells #[.int .i64 x1,.int .i64 y1,.int .i64 r1,.int .i64 n1,.bool g1,.int .i64 p1,.int .i64 o1] 108)).alloc (.cells #[.int .i64 x2,.int .i64 y2,.int .i64 r2,.int .i64 n2,.bool g2,.int .i64 p2,.int .i64 o2] 108)) [.bool false,.int .i64 0,.int .i64 0,.string ⟨#[]⟩,.string ⟨#[]⟩] 165
 rw[World.size_alloc,World.size_alloc]at BZ
 unfold sdC at *
 simp only
 have BN:=(Blk.new (w.alloc (.cells #[.int .i64 x1,.int .i64 y1,.int .i64 r1,.int .i64 n1,.bool g1,.int .i64 p1,.int .i64 o1] 108)) [.int .i64 x2,.int .i64 y2,.int .i64 r2,.int .i64 n2,.bool g2,.int .i64 p2,.int .i64 o2] 108).alloc (.cells #[.bool false,.int .i64 0,.int .i64 0,.string ⟨#[]⟩,.string ⟨#[]⟩] 165)
 rw[World.size_alloc]at BN
 obtain⟨W0,hW0⟩:∃ W0,((w.alloc (.cells #[.int .i64 x1,.int .i64 y1,.int .i64 r1,.int .i64 n1,.bool g1,.int .i64 p1,.int .i64 o1] 108)).alloc (.cells #[.int .i64 x2,.int .i64 y2,.int .i64 r2,.int .i64 n2,.bool g2,.int .i64 p2,.int .i64 o2] 108)).alloc (.cells #[.bool false,.int .i64 0,.int .i64 0,.string ⟨#[]⟩,.string ⟨#[]⟩] 165)=W0:=⟨_,rfl⟩
 have hq0:Q w W0:=by rw[← hW0];exact bt
 have hEw:=hE.ofQ hq0
 have hs0:W0.heap.size=w.heap.size+3:=by rw[← hW0];simp
 rw[hW0]at BS BN BZ
 clear hE
 have hE:=hEw
 clear hEw
 have hQ0:=Q.refl W0
 replace s0:=BS.cell
 replace lBS:=BS.lt
 replace t0:=BN.cell
 replace lBN:=BN.lt
 replace z0:=BZ.cell
 replace lBZ:=BZ.lt
 go_enter Tryz.func138,Tryz.ntmps138
 go_wp2_with fail
 clear hW0
 refine cx (HH.out _ (hE.ofQ bt)) fun Y1 hq1=>?_
 have hs1:Q W0 Y1:=Q.trans bt hq1
 have hQ1:Q W0 Y1:=Q.trans hQ0 hs1
 replace BS:=BS.keep hs1 BS.lt
 replace s0:=BS.cell
 replace lBS:=BS.lt
 replace BN:=BN.keep hs1 BN.lt
 replace t0:=BN.cell
 replace lBN:=BN.lt
 replace BZ:=BZ.keep hs1 BZ.lt
 replace z0:=BZ.cell
 replace lBZ:=BZ.lt
 obtain⟨d0,d1⟩:=HD.out _ (hE.ofQ hQ1)
 clear BN lBN t0
 have lY:=hQ1.size
 cases up <;> cases g1
 case false.false =>
  obtain rfl:y1=co:=hco
  have F:=Blk.new (Y1.alloc (.cells #[.bool false,.int .i64 dr] 272)) [.bool false,.int .i64 y1,.int .i64 dr,.string ⟨#[48]⟩,.string ⟨#[]⟩] 165
  rw[World.size_alloc]at F
  obtain⟨k,rfl,hN⟩:=HN.out rfl
  have HO:=LH hN
  clear hN
  clear HN HD HH H1
  have F1:=F
  clear F
  have BS1:=BS
  have BZ1:=BZ
  go_wp2_with fail
  refine cx (HO.out _ (hE.ofQ bt)) fun Y2 hq2=>?_
  have hs2:Q Y1 Y2:=Q.trans bt hq2
  replace BS:=BS.keep hs2 BS.lt
  replace BZ:=BZ.keep hs2 BZ.lt
  replace s0:=BS.cell
  replace z0:=BZ.cell
  replace F1:=F1.keep hq2 F1.lt
  have f0:=F1.cell
  have g3:=F1.frozen 3
  have F2:=F1.set 3 (.string ⟨SP.toArray⟩)
  simp only[List.set_cons_zero,List.set_cons_succ]at F2
  clear HO
  clear F1
  go_wp2_with fail
  clear f0 g3
  have hB2:Below Y1.heap.size Y1 (Y2.setCell ⟨Y1.heap.size+1,3,none⟩ (.string ⟨SP.toArray⟩)):=hs2.setCell (p:=⟨Y1.heap.size+1,3,none⟩) (by simp) _
  have hQ2s:Q W0 (Y2.setCell ⟨Y1.heap.size+1,3,none⟩ (.string ⟨SP.toArray⟩)):=Below.trans hQ1 (hB2.mono lY)
  refine cx (HP.out _ (hE.ofQ hQ2s)) fun Y3 hq3=>?_
  have hB3:Below Y1.heap.size Y1 Y3:=Below.trans hB2 (hq3.mono hB2.size)
  have hQ3:Q W0 Y3:=Below.trans hQ1 (hB3.mono lY)
  replace BS:=BS1.keep hB3 BS1.lt
  replace BZ:=BZ1.keep hB3 BZ1.lt
  replace s0:=BS.cell
  replace z0:=BZ.cell
  clear BS1 BZ1 hB2 hQ2s
  replace F2:=F2.keep hq3 F2.lt
  have f0:=F2.cell
  have g4:=F2.frozen 4
  have k0:=BZ.frozen 0
  have k1:=BZ.frozen 1
  have k2:=BZ.frozen 2
  have k3:=BZ.frozen 3
  have k4:=BZ.frozen 4
  have hne:Y1.heap.size+1≠w.heap.size+1+1:=by omega
  have hne2:w.heap.size+1+1≠Y1.heap.size+1:=by omega
  have hy:w.heap.size≤Y1.heap.size+1:=by omega
  have hy2:w.heap.size≤w.heap.size+1+1:=by omega
  generalize Y1.heap.size+1=bf at *
  generalize w.heap.size+1+1=bz at *
  have Z:=((((((BZ.setOther hne 4 (.string ⟨PL.toArray⟩)).set 0 (.bool false)).set 1 (.int .i64 y1)).set 2 (.int .i64 dr)).set 3 (.string ⟨SP.toArray⟩)).set 4 (.string ⟨PL.toArray⟩))
  simp only[List.set_cons_zero,List.set_cons_succ]at Z
  have hQe:=((((((Q.trans hq0 hQ3).setCell (p:=⟨bf,4,none⟩) hy (.string ⟨PL.toArray⟩)).setCell (p:=⟨bz,0,none⟩) hy2 (.bool false)).setCell (p:=⟨bz,1,none⟩) hy2 (.int .i64 y1)).setCell (p:=⟨bz,2,none⟩) hy2 (.int .i64 dr)).setCell (p:=⟨bz,3,none⟩) hy2 (.string ⟨SP.toArray⟩)).setCell (p:=⟨bz,4,none⟩) hy2 (.string ⟨PL.toArray⟩)
  clear HP F2
  have HR:=zc6 Z
  go_wp2_with (exact bodyPost_ret (HR Tryz.f138 4 rfl _ rfl) rfl ⟨rfl,hQe⟩)
 case false.true =>
  obtain rfl:y1=co:=hco
  have F:=Blk.new (Y1.alloc (.cells #[.bool false,.int .i64 dr] 272)) [.bool false,.int .i64 y1,.int .i64 dr,.string ⟨#[48]⟩,.string ⟨#[]⟩] 165
  rw[World.size_alloc]at F
  obtain rfl:=H1.out rfl
  clear HN HD HH H1
  have F1:=F
  clear F
  have F2:=F1
  clear F1
  go_wp2_with fail
  refine cx (HP.out _ (hE.ofQ bt)) fun Y3 hq3=>?_
  have hB3:Q Y1 Y3:=Q.trans bt hq3
  have hQ3:Q W0 Y3:=Q.trans hQ1 hB3
  replace BS:=BS.keep hB3 BS.lt
  replace BZ:=BZ.keep hB3 BZ.lt
  replace s0:=BS.cell
  replace z0:=BZ.cell
  replace F2:=F2.keep hq3 F2.lt
  have f0:=F2.cell
  have g4:=F2.frozen 4
  have k0:=BZ.frozen 0
  have k1:=BZ.frozen 1
  have k2:=BZ.frozen 2
  have k3:=BZ.frozen 3
  have k4:=BZ.frozen 4
  have hne:Y1.heap.size+1≠w.heap.size+1+1:=by omega
  have hne2:w.heap.size+1+1≠Y1.heap.size+1:=by omega
  have hy:w.heap.size≤Y1.heap.size+1:=by omega
  have hy2:w.heap.size≤w.heap.size+1+1:=by omega
  generalize Y1.heap.size+1=bf at *
  generalize w.heap.size+1+1=bz at *
  have Z:=((((((BZ.setOther hne 4 (.string ⟨PL.toArray⟩)).set 0 (.bool false)).set 1 (.int .i64 y1)).set 2 (.int .i64 dr)).set 3 (.string ⟨#[48]⟩)).set 4 (.string ⟨PL.toArray⟩))
  simp only[List.set_cons_zero,List.set_cons_succ]at Z
  have hQe:=((((((Q.trans hq0 hQ3).setCell (p:=⟨bf,4,none⟩) hy (.string ⟨PL.toArray⟩)).setCell (p:=⟨bz,0,none⟩) hy2 (.bool false)).setCell (p:=⟨bz,1,none⟩) hy2 (.int .i64 y1)).setCell (p:=⟨bz,2,none⟩) hy2 (.int .i64 dr)).setCell (p:=⟨bz,3,none⟩) hy2 (.string ⟨#[48]⟩)).setCell (p:=⟨bz,4,none⟩) hy2 (.string ⟨PL.toArray⟩)
  clear HP F2
  have HR:=zc6 Z
  go_wp2_with (exact bodyPost_ret (HR Tryz.f138 4 rfl _ rfl) rfl ⟨rfl,hQe⟩)
 case true.false =>
  obtain rfl:x1=co:=hco
  have F:=Blk.new (Y1.alloc (.cells #[.bool true,.int .i64 dr] 272)) [.bool true,.int .i64 x1,.int .i64 dr,.string ⟨#[48]⟩,.string ⟨#[]⟩] 165
  rw[World.size_alloc]at F
  obtain⟨k,rfl,hN⟩:=HN.out rfl
  have HO:=LH hN
  clear hN
  clear HN HD HH H1
  have F1:=F
  clear F
  have BS1:=BS
  have BZ1:=BZ
  go_wp2_with fail
  refine cx (HO.out _ (hE.ofQ bt)) fun Y2 hq2=>?_
  have hs2:Q Y1 Y2:=Q.trans bt hq2
  replace BS:=BS.keep hs2 BS.lt
  replace BZ:=BZ.keep hs2 BZ.lt
  replace s0:=BS.cell
  replace z0:=BZ.cell
  replace F1:=F1.keep hq2 F1.lt
  have f0:=F1.cell
  have g3:=F1.frozen 3
  have F2:=F1.set 3 (.string ⟨SP.toArray⟩)
  simp only[List.set_cons_zero,List.set_cons_succ]at F2
  clear HO
  clear F1
  go_wp2_with fail
  clear f0 g3
  have hB2:Below Y1.heap.size Y1 (Y2.setCell ⟨Y1.heap.size+1,3,none⟩ (.string ⟨SP.toArray⟩)):=hs2.setCell (p:=⟨Y1.heap.size+1,3,none⟩) (by simp) _
  have hQ2s:Q W0 (Y2.setCell ⟨Y1.heap.size+1,3,none⟩ (.string ⟨SP.toArray⟩)):=Below.trans hQ1 (hB2.mono lY)
  refine cx (HP.out _ (hE.ofQ hQ2s)) fun Y3 hq3=>?_
  have hB3:Below Y1.heap.size Y1 Y3:=Below.trans hB2 (hq3.mono hB2.size)
  have hQ3:Q W0 Y3:=Below.trans hQ1 (hB3.mono lY)
  replace BS:=BS1.keep hB3 BS1.lt
  replace BZ:=BZ1.keep hB3 BZ1.lt
  replace s0:=BS.cell
  replace z0:=BZ.cell
  clear BS1 BZ1 hB2 hQ2s
  replace F2:=F2.keep hq3 F2.lt
  have f0:=F2.cell
  have g4:=F2.frozen 4
  have k0:=BZ.frozen 0
  have k1:=BZ.frozen 1
  have k2:=BZ.frozen 2
  have k3:=BZ.frozen 3
  have k4:=BZ.frozen 4
  have hne:Y1.heap.size+1≠w.heap.size+1+1:=by omega
  have hne2:w.heap.size+1+1≠Y1.heap.size+1:=by omega
  have hy:w.heap.size≤Y1.heap.size+1:=by omega
  have hy2:w.heap.size≤w.heap.size+1+1:=by omega
  generalize Y1.heap.size+1=bf at *
  generalize w.heap.size+1+1=bz at *
  have Z:=((((((BZ.setOther hne 4 (.string ⟨PL.toArray⟩)).set 0 (.bool true)).set 1 (.int .i64 x1)).set 2 (.int .i64 dr)).set 3 (.string ⟨SP.toArray⟩)).set 4 (.string ⟨PL.toArray⟩))
  simp only[List.set_cons_zero,List.set_cons_succ]at Z
  have hQe:=((((((Q.trans hq0 hQ3).setCell (p:=⟨bf,4,none⟩) hy (.string ⟨PL.toArray⟩)).setCell (p:=⟨bz,0,none⟩) hy2 (.bool true)).setCell (p:=⟨bz,1,none⟩) hy2 (.int .i64 x1)).setCell (p:=⟨bz,2,none⟩) hy2 (.int .i64 dr)).setCell (p:=⟨bz,3,none⟩) hy2 (.string ⟨SP.toArray⟩)).setCell (p:=⟨bz,4,none⟩) hy2 (.string ⟨PL.toArray⟩)
  clear HP F2
  have HR:=zc6 Z
  go_wp2_with (exact bodyPost_ret (HR Tryz.f138 4 rfl _ rfl) rfl ⟨rfl,hQe⟩)
 case true.true =>
  obtain rfl:x1=co:=hco
  have F:=Blk.new (Y1.alloc (.cells #[.bool true,.int .i64 dr] 272)) [.bool true,.int .i64 x1,.int .i64 dr,.string ⟨#[48]⟩,.string ⟨#[]⟩] 165
  rw[World.size_alloc]at F
  obtain rfl:=H1.out rfl
  clear HN HD HH H1
  have F1:=F
  clear F
  have F2:=F1
  clear F1
  go_wp2_with fail
  refine cx (HP.out _ (hE.ofQ bt)) fun Y3 hq3=>?_
  have hB3:Q Y1 Y3:=Q.trans bt hq3
  have hQ3:Q W0 Y3:=Q.trans hQ1 hB3
  replace BS:=BS.keep hB3 BS.lt
  replace BZ:=BZ.keep hB3 BZ.lt
  replace s0:=BS.cell
  replace z0:=BZ.cell
  replace F2:=F2.keep hq3 F2.lt
  have f0:=F2.cell
  have g4:=F2.frozen 4
  have k0:=BZ.frozen 0
  have k1:=BZ.frozen 1
  have k2:=BZ.frozen 2
  have k3:=BZ.frozen 3
  have k4:=BZ.frozen 4
  have hne:Y1.heap.size+1≠w.heap.size+1+1:=by omega
  have hne2:w.heap.size+1+1≠Y1.heap.size+1:=by omega
  have hy:w.heap.size≤Y1.heap.size+1:=by omega
  have hy2:w.heap.size≤w.heap.size+1+1:=by omega
  generalize Y1.heap.size+1=bf at *
  generalize w.heap.size+1+1=bz at *
  have Z:=((((((BZ.setOther hne 4 (.string ⟨PL.toArray⟩)).set 0 (.bool true)).set 1 (.int .i64 x1)).set 2 (.int .i64 dr)).set 3 (.string ⟨#[48]⟩)).set 4 (.string ⟨PL.toArray⟩))
  simp only[List.set_cons_zero,List.set_cons_succ]at Z
  have hQe:=((((((Q.trans hq0 hQ3).setCell (p:=⟨bf,4,none⟩) hy (.string ⟨PL.toArray⟩)).setCell (p:=⟨bz,0,none⟩) hy2 (.bool true)).setCell (p:=⟨bz,1,none⟩) hy2 (.int .i64 x1)).setCell (p:=⟨bz,2,none⟩) hy2 (.int .i64 dr)).setCell (p:=⟨bz,3,none⟩) hy2 (.string ⟨#[48]⟩)).setCell (p:=⟨bz,4,none⟩) hy2 (.string ⟨PL.toArray⟩)
  clear HP F2
  have HR:=zc6 Z
  go_wp2_with (exact bodyPost_ret (HR Tryz.f138 4 rfl _ rfl) rfl ⟨rfl,hQe⟩)
end
section
open Go.RowKit Go.Shelf Kp
attribute [local go_sem] Oper.semAt_some
theorem zqQ:(Tryz.prog.info? 165).map (fun i=>(i.zero,i.size,i.bytes))=some (some (.agg #[.bool false,.int .i64 0,.int .i64 0,.string ⟨#[]⟩,.string ⟨#[]⟩]),5,56):=by kernel_rfl
def zuC(r:List Sd)(i:Nat):Fr:=zjI (zb5 r i) (zb5 r ((i+1) % r.length))
def frN(r:List Sd)(k:Nat):List Value:=(List.range k).flatMap fun i=>frC (zuC r i)
theorem zr6(r:List Sd)(k:Nat):frN r (k+1)=frN r k++frC (zuC r k):=by unfold frN;rw[List.range_succ,List.flatMap_append];simp
def frR(R:List (List Sd))(k:Nat):List Value:=rowOf frC (zcs (R.take k))
theorem zty(r:List Sd):frN r r.length=rowOf frC (zko r):=by
 unfold frN rowOf zko
 rw[List.flatMap_map]
 rfl
theorem zr5{R:List (List Sd)}{k:Nat}(h:k<R.length):frR R (k+1)=frR R k++frN (ringAt R k) (ringAt R k).length:=by
 rw[zty]
 unfold frR
 rw[List.take_succ_eq_append_getElem h,zaH h]
 unfold zcs rowOf
 rw[List.flatMap_append,List.flatMap_append]
 simp
theorem ztx(R:List (List Sd)):frR R R.length=rowOf frC (zcs R):=by unfold frR;rw[List.take_length]
theorem zq4(R:List (List Sd))(h:zd8 R=0)(hn:R.length≤1000)(v:Value)(w:World)(hE:Env w)(hv:zki w v R) :
  Calls Tryz.prog 90 #[.agg #[v]] w fun e w'=>∃ v',e=.returned (.tuple #[v',.int .i64 0])∧w'.ownsRow w.heap.size 165 5 v' R.flatten.length (rowOf frC (zcs R))∧Q w w':=by
 have ok:=zli h
 have hle:=ok.le
 rw[← ztx,count_flatten,← zov]
 have HK:Hid (∀ W,Q w W→CR 136 #[.agg #[v]] W (.int .i64 0)):=LH (fun W hq=>by
  have:=zkr R hn (by omega) v W (hv.keep hq)
  rw[h]at this
  exact this)
 have HRI:Hid (∀ W,Q w W→∃ a cap,v=.slice a R.length cap∧∀ i,i<R.length→∃ b o a2 c2,a=some ⟨b,o,none⟩∧W.cell? ⟨b,o+i,none⟩=some (.slice a2 (ringAt R i).length c2)∧zcu W a2 (ringAt R i)∧∀ k∈zb2 a2,k<W.heap.size):=LH (fun W hq=>(hv.keep hq).ring (fun r hr=>by have:=ok.four r hr;omega))
 have HRW:Hid (∀ i,i<R.length→0<(ringAt R i).length∧(ringAt R i).length≤24∧∀ s∈ringAt R i,Rgd s):=LH (fun i hi=>by
  have hm:ringAt R i∈R:=by rw[zaH hi];exact List.getElem_mem hi
  have h4:=ok.four _ hm
  exact⟨by omega,Nat.le_trans (zqq hm) hle,fun s hs=>ok.rg s (List.mem_flatten.2 ⟨_,hm,hs⟩)⟩)
 have HS1:Hid (∀ k,k<R.length→zlR R (k+1)=zlR R k+(ringAt R k).length):=LH (fun k hk=>zm1 hk)
 have HSl:Hid (∀ k,zlR R k≤24):=LH (fun k=>Nat.le_trans (zrf R k) hle)
 have HF1:Hid (∀ k,k<R.length→frR R (k+1)=frR R k++frN (ringAt R k) (ringAt R k).length):=LH (fun k hk=>zr5 hk)
 obtain⟨a0,cap0,rfl,-⟩:=id hv
 clear ok h hv hle
 have hRz:(R.length:Int)≤1000:=by omega
 obtain⟨c0,ci,cz0,cz1,cz2⟩:=zb8 zqQ
 have B:=Blk.new w [.slice a0 R.length cap0] 52
 have hq1:Q w (w.alloc (.cells [Value.slice a0 R.length cap0].toArray 52)):=(Below.refl _ w).alloc (Nat.le_refl _) _
 have k0:=B.cell
 go_enter Tryz.func90,Tryz.ntmps90
 go_wp2_with fail
 refine cx (HK.out _ hq1) fun w2 hq=>?_
 replace B:=B.keep hq B.lt
 replace k0:=B.cell
 have hq2:=Q.trans hq1 hq
 have hsz:w.heap.size+1≤w2.heap.size:=by have:=hq.size;simpa using this
 clear hq hq1 HK
 go_wp2
 go_loopw [15,4] (fun i o wr=>∃ k:Nat,k≤R.length∧i=.int .i64 k∧wr.ownsRow w.heap.size 165 5 o (zlR R k) (frR R k)∧Q w wr∧w.heap.size+1≤wr.heap.size) (fun i _ _=>R.length - (intOf i).toNat)
 case atStart=>exact⟨0,by omega,rfl,World.ownsRow_nil _ _ _ _,hq2,hsz⟩
 case round =>
  obtain⟨g,hg,rfl,howg,hQg,hszg⟩:=hrel
  by_cases hgl:g<R.length
  ·obtain⟨a',cap',he,hcg⟩:=HRI.out w (Q.refl w)
   obtain⟨b1,o1,a2,c2,ha,hcell,hrow,-⟩:=hcg g hgl
   injection he with he1 he2 he3
   subst he1 he3
   subst ha
   obtain⟨hl0,hl24,hrg⟩:=HRW.out g hgl
   replace hcell:=ze hQg hcell
   have HR:=LH hrow
   have HRG:=LH hrg
   have HSg:=LH (HS1.out g hgl)
   have HFg:=LH (HF1.out g hgl)
   have hcg24:=HSl.out (g+1)
   rw[HSg.out]at hcg24
   have hlz:((ringAt R g).length:Int)≤24:=by omega
   have hz1:(0:Int)<(ringAt R g).length:=by omega
   have hgz:(g:Int)<R.length:=by omega
   have hg0:(0:Int)≤g:=by omega
   obtain⟨P,hP⟩:∃ P,frR R g=P:=⟨_,rfl⟩
   obtain⟨p,hp⟩:∃ p,zlR R g=p:=⟨_,rfl⟩
   rw[hP]at howg HFg
   rw[hp]at howg HSg hcg24
   have HP0:Hid (P=P++frN (ringAt R g) 0):=LH (by unfold frN;simp)
   clear hP hp hcg hrow hrg
   generalize ringAt R g=r at *
   generalize u4=og at *
   generalize wr=WG at *
   go_wp2
   go_loopw [21,4] (fun i o wr=>∃ k:Nat,k≤r.length∧i=.int .i64 k∧wr.ownsRow w.heap.size 165 5 o (p+k) (P++frN r k)∧Q w wr∧w.heap.size+1≤wr.heap.size) (fun i _ _=>r.length - (intOf i).toNat)
   case atStart=>exact⟨0,by omega,rfl,by rw[← HP0.out];exact howg,hQg,hszg⟩
   case round =>
    obtain⟨k,hk,rfl,hown,hQ,hsz'⟩:=hrel
    by_cases hlt:k<r.length
    ·obtain⟨b,o,rfl,hc⟩:=(HR.out.q hQ) k hlt
     obtain⟨b',o',he,hd⟩:=(HR.out.q hQ) ((k+1) % r.length) (Nat.mod_lt _ hl0)
     injection he with he
     injection he with he1 he2
     subst he1 he2
     obtain⟨q,hq'⟩:∃ q,(k+1) % r.length=q:=⟨_,rfl⟩
     have hqn:q<r.length:=by rw[← hq'];exact Nat.mod_lt _ hl0
     have e1:=Go.IntWalk.i64_in ((k:Int)+1) (by omega)
     have e2:((k:Int)+1).tmod (r.length:Int)=(q:Int):=by
      rw[Int.tmod_eq_emod_of_nonneg (by omega),show ((k:Int)+1)=((k+1:Nat):Int) by omega,← hq'];exact(Int.natCast_emod _ _).symm
     have hkz:(k:Int)<r.length:=by omega
     have hk0:(0:Int)≤k:=by omega
     have hqz:(q:Int)<r.length:=by omega
     have hq0:(0:Int)≤q:=by omega
     have hnz:¬ r=[]:=by
      intro h
      rw[h]at hl0
      simp at hl0
     have HF:=LH (fun W hW=>zr4 (zb5 r k) (zb5 r q) (HRG.out _ (zk4 hlt)) W hW)
     have HS:Hid (P++frN r (k+1)=P++(frN r k++frC (zjI (zb5 r k) (zb5 r q)))):=LH (by rw[zr6,zuC,hq'])
     rw[hq']at hd
     generalize zjI (zb5 r k) (zb5 r q)=f at *
     generalize zb5 r k=s at *
     generalize zb5 r q=t at *
     unfold frC at HF HS
     unfold sdC at hc hd HF
     have d0:=hc 0 _ rfl
     have d1:=hc 1 _ rfl
     have d2:=hc 2 _ rfl
     have d3:=hc 3 _ rfl
     have d4:=hc 4 _ rfl
     have d5:=hc 5 _ rfl
     have d6:=hc 6 _ rfl
     have n0:=hd 0 _ rfl
     have n1:=hd 1 _ rfl
     have n2:=hd 2 _ rfl
     have n3:=hd 3 _ rfl
     have n4:=hd 4 _ rfl
     have n5:=hd 5 _ rfl
     have n6:=hd 6 _ rfl
     rw[Nat.add_zero]at d0 n0
     clear hc hd
     have M:=Blk.new wr [.int .i64 s.x,.int .i64 s.y,.int .i64 s.rise,.int .i64 s.run,.bool s.gable,.int .i64 s.plate,.int .i64 s.over] 108
     have hqa:Q wr (wr.alloc (.cells [Value.int .i64 s.x,.int .i64 s.y,.int .i64 s.rise,.int .i64 s.run,.bool s.gable,.int .i64 s.plate,.int .i64 s.over].toArray 108)):=(Below.refl _ wr).alloc (Nat.le_refl _) _
     obtain⟨W1,hW1⟩:∃ W1,wr.alloc (.cells #[.int .i64 s.x,.int .i64 s.y,.int .i64 s.rise,.int .i64 s.run,.bool s.gable,.int .i64 s.plate,.int .i64 s.over] 108)=W1:=⟨_,rfl⟩
     have hW1':wr.alloc (.cells [Value.int .i64 s.x,.int .i64 s.y,.int .i64 s.rise,.int .i64 s.run,.bool s.gable,.int .i64 s.plate,.int .i64 s.over].toArray 108)=W1:=hW1
     rw[hW1']at M hqa
     clear hW1'
     go_wp2_with fail
     try rw[hW1]
     clear hW1
     have hEd:Env W1.drew:=(hE.ofQ (Q.trans hQ (Q.trans hqa (Below.drew (Q.refl W1)))))
     have hqd:Q wr W1.drew:=Q.trans hqa (Below.drew (Q.refl W1))
     have m0:=M.drew.cell 0
     have m1:=M.drew.cell 1
     have m2:=M.drew.cell 2
     have m3:=M.drew.cell 3
     have m4:=M.drew.cell 4
     have m5:=M.drew.cell 5
     have m6:=M.drew.cell 6
     simp only[zs4,zs5]at m0 m1 m2 m3 m4 m5 m6
     replace n0:=ze hqd n0
     replace n1:=ze hqd n1
     replace n2:=ze hqd n2
     replace n3:=ze hqd n3
     replace n4:=ze hqd n4
     replace n5:=ze hqd n5
     replace n6:=ze hqd n6
     clear d0 d1 d2 d3 d4 d5 d6
     refine RF.zn (ρ:=zur W1.drew.heap.size) 12 (by kernel_rfl) (by kernel_rfl) rfl ?_
     refine RF.svp 0 ?_
     refine RF.svq 1 rfl (by intro w' hq;have hc0:=ze (hq (Nat.le_refl _)) m0;have hc1:=ze (hq (Nat.le_refl _)) m1;have hc2:=ze (hq (Nat.le_refl _)) m2;have hc3:=ze (hq (Nat.le_refl _)) m3;have hc4:=ze (hq (Nat.le_refl _)) m4;have hc5:=ze (hq (Nat.le_refl _)) m5;have hc6:=ze (hq (Nat.le_refl _)) m6;go_simp;try with_reducible rfl) ?_
     refine RF.svp 2 ?_
     refine RF.svp 3 ?_
     refine RF.svp 4 ?_
     refine RF.svp 5 ?_
     refine RF.svp 6 ?_
     refine RF.svp 7 ?_
     refine RF.svp 8 ?_
     refine RF.svq 9 rfl (by intro w' hq;have hc0:=ze (hq (Nat.le_refl _)) n0;have hc1:=ze (hq (Nat.le_refl _)) n1;have hc2:=ze (hq (Nat.le_refl _)) n2;have hc3:=ze (hq (Nat.le_refl _)) n3;have hc4:=ze (hq (Nat.le_refl _)) n4;have hc5:=ze (hq (Nat.le_refl _)) n5;have hc6:=ze (hq (Nat.le_refl _)) n6;go_simp;try with_reducible rfl) ?_
     refine RF.zf (i:=10) (v:=_) rfl rfl (by kernel_rfl) (by kernel_rfl) (fun _ _ _ h=>h) (by rfl) ?_ (fun w' hq=>HF.out w' (hEd.ofQ (hq (Nat.le_refl _)))) ?_
     ·(intro w' hq;go_simp;try with_reducible rfl)
     simp only[Act.put,zs1,zs2,zs3]
     refine RF.zbP (i:=11) (fun w'=>.slice (some ⟨w'.heap.size,0,none⟩) 1 1) (.cells #[.bool f.up,.int .i64 f.coord,.int .i64 f.dir,.string ⟨(za f.speed).toArray⟩,.string ⟨(za f.start).toArray⟩] 165) rfl rfl (by kernel_rfl) (by rfl) (fun w' hq=>by go_simp;try with_reducible rfl) (fun w3 hq3=>?_)
     simp only[Act.put,zs1,zs2,zs3]
     refine RF.zh (by kernel_rfl) (fun w5 hq5=>?_)
     simp only[List.drop_succ_cons,List.drop_zero]
     have T:=(Blk.new w3 [.bool f.up,.int .i64 f.coord,.int .i64 f.dir,.string ⟨(za f.speed).toArray⟩,.string ⟨(za f.start).toArray⟩] 165).keep hq5 (by simp)
     have hq35:Q wr w5:=Q.trans hqd (Q.trans hq3 (Q.trans ((Below.refl _ w3).alloc (Nat.le_refl _) _) hq5))
     have hown5:=zl hown hq35
     have hQ5:=Q.trans hQ hq35
     have hsz5:=Nat.le_trans hsz' hq35.size
     clear hq3 hq5 m0 m1 m2 m3 m4 m5 m6 n0 n1 n2 n3 n4 n5 n6 HF M hown hqa hqd hEd
     generalize w3.heap.size=t3 at *
     go_wp2_with (at_builtin;refine wpList_append_own_at _ rfl (.tmp 26) (.tmp 37) 160 rfl w.heap.size 165 c0 _ 5 56 Tryz.underlying160 ci cz0 cz1 cz2 rfl (by decide) u4 (p+k) (P++frN r k) rfl hown5 ⟨t3,0,none⟩ 1 1 [.bool f.up,.int .i64 f.coord,.int .i64 f.dir,.string ⟨(za f.speed).toArray⟩,.string ⟨(za f.start).toArray⟩] rfl rfl (fun j z hj=>by rw[Addr.add_lit,Nat.zero_add];exact(T.cell j).trans hj) (by
      intro z hz
      simp only[List.mem_cons,List.not_mem_nil,or_false]at hz
      rcases hz with rfl | rfl | rfl | rfl | rfl <;> rfl) (by unfold maxLen;omega) (by omega) (by omega) ?_)
     intro v9 w9 hown9 hgrow9 _ _
     have hQ9:Q w w9:=hQ5.grown hgrow9 (by omega) (fun j hj=>(hown5.lt j hj).1)
     have hsz9:=Nat.le_trans hsz5 hgrow9.size
     rw[← HS.out]at hown9
     clear hown5 hgrow9 T hq35 HS
     go_wp2
     go_roundw
     case rel=>exact⟨k+1,by omega,by go_num,hown9,hQ9,hsz9⟩
     case measure=>simp[intOf];omega
    ·obtain rfl:k=r.length:=by omega
     go_wp2
     go_roundw
     case rel=>exact⟨g+1,by omega,by go_num,by rw[HSg.out,HFg.out];exact hown,hQ,hsz'⟩
     case measure=>simp[intOf];omega
  ·obtain rfl:g=R.length:=by omega
   go_wp2
   go_ret2
   exact⟨_,rfl,howg,hQg⟩
end
end Go.Proofs.YtdecodpgdainiaaGreatDoor
