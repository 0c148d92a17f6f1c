/-
  CD CE CF SqM CG CH LSquares, one behind the other (what SD leaves).; RA RM RO RP RR RB RD RC, one behind the other.
-/
import Derived.Test.YtapnkgdnflofbaaGreatDoorCHSD
set_option maxRecDepth 100000
set_option maxHeartbeats 2000000
namespace Go.Proofs.YtapnkgdnflofbaaGreatDoor
section
open Go.RowKit Kp
theorem zja(l:Nat)(hl:zgE l)(hb:Bd 40 (l:Rat))(w:World)(hE:Env w) :
  CR 159 #[.string ⟨(Lib.itoa (l:Int)).toArray⟩] w (.tuple #[.string ⟨#[49]⟩,.string ⟨(Lib.itoa (l:Int)).toArray⟩,.int .i64 0]):=by
 have h:=zfr (l:Rat) (hb.root90 (by decide)) (by rw[Rat.num_natCast];have:=hl.1;omega) w hE
 rw[zbN,Rat.num_natCast,Rat.den_natCast,Int.toNat_natCast,Nat.mul_one,hl.2]at h
 rw[show Rat.divInt ((1:Nat):Int) ((1:Nat):Int)=1 by rfl,zdW]at h
 exact h
theorem zjf(x:Rat)(l:Nat)(hx:zam x=false)(hx0:x≠0)(k60:za6 x≤60)(hl:zgE l)(hb:Bd 40 (l:Rat))(hl1:l=1)(w:World)(hE:Env w) :
  CR 221 #[.agg #[.string ⟨(ze x).toArray⟩,.string ⟨(Lib.itoa (l:Int)).toArray⟩]] w (.int .i64 0):=by
 have hlr:zam (l:Rat)=false:=hb.zam (by decide)
 have k40:za6 (l:Rat)≤40:=zhR hb (by decide)
 have HC1:=LH (fun w hw=>zA x hx w hw)
 have hc2:=fun w hw=>zA (l:Rat) hlr w hw
 have HL1:=LH (fun w hw=>zaS x hx w hw)
 have hl2:=fun w hw=>zaS (l:Rat) hlr w hw
 rw[zbN]at hc2 hl2
 have HC2:=LH hc2
 have HL2:=LH hl2
 have HN:=LH (fun w hw=>zja l hl hb w hw)
 have hp:=hl.1
 have hz:(ze x == [48])=false:=by
  rw[beq_eq_false_iff_ne,← zaY];exact fun h=>hx0 (zbt h)
 have hlz:(Lib.itoa (l:Int) == [48])=false:=by
  rw[beq_eq_false_iff_ne,← zae];exact fun h=>by have:=zak h;omega
 have hlo:(Lib.itoa (l:Int) == [49])=true:=by
  subst hl1;rw[show ((1:Nat):Int)=1 from rfl,zai];rfl
 have hm:decide ((Lib.itoa (l:Int)).head? = some 45)=false:=by
  rw[itoa_nonneg (by omega),decide_eq_false_iff_not];exact zF _
 have hs:zC (Lib.itoa (l:Int))=false:=zbK _
 have hlen:(Lib.itoa (l:Int)).length≤301:=zU _ (by have:=(zx hlr).1;rwa[Rat.num_natCast]at this)
 have HH:=LH (fun w=>zW (Lib.itoa (l:Int)) w)
 have HS:=LH (fun w hw=>zdQ (Lib.itoa (l:Int)) (by omega) w hw)
 rw[hm]at HH
 have n1:=zax x
 have n2:=zax (l:Rat)
 clear hc2 hl2 hx hx0 hl hb hlr hl1 hm
 generalize za6 x=v1 at *
 generalize za6 (l:Rat)=v2 at *
 generalize ze x=X at *
 generalize Lib.itoa (l:Int)=L at *
 go_enter Tryz.func221,Tryz.ntmps221
 go_wp2_with fail
 have B0:=Blk.new w [.string ⟨X.toArray⟩,.string ⟨L.toArray⟩] 60
 have hQ0:Q w (w.alloc (.cells [.string ⟨X.toArray⟩,.string ⟨L.toArray⟩].toArray 60)):=(Below.refl _ w).alloc (Nat.le_refl _) _
 refine cx (HC1.out _ (hE.q hQ0)) fun w1 hq1=>?_
 have hQ1:=Q.trans hQ0 hq1
 have B1:=B0.keep hq1 B0.lt
 have c0:=B1.cell
 go_wp2_with fail
 clear c0
 refine cx (HC2.out _ (hE.q hQ1)) fun w2 hq2=>?_
 have hQ2:=Q.trans hQ1 hq2
 have B2:=B1.keep hq2 B1.lt
 have c0:=B2.cell
 go_wp2_with fail
 clear c0
 refine cx (HL1.out _ (hE.q hQ2)) fun w3 hq3=>?_
 have hQ3:=Q.trans hQ2 hq3
 have B3:=B2.keep hq3 B2.lt
 have c0:=B3.cell
 go_wp2_with fail
 clear c0
 refine cx (HL2.out _ (hE.q hQ3)) fun w4 hq4=>?_
 have hQ4:=Q.trans hQ3 hq4
 have B4:=B3.keep hq4 B3.lt
 have c0:=B4.cell
 go_wp2
 go_ret
 exact⟨rfl,hQ4⟩
theorem zhC(x:Rat)(l:Nat)(hx:zam x=false)(hx0:x≠0)(k60:za6 x≤60)(hl:zgE l)(hb:Bd 40 (l:Rat))(hl1:l≠1)(w:World)(hE:Env w) :
  CR 221 #[.agg #[.string ⟨(ze x).toArray⟩,.string ⟨(Lib.itoa (l:Int)).toArray⟩]] w (.int .i64 0):=by
 have hlr:zam (l:Rat)=false:=hb.zam (by decide)
 have k40:za6 (l:Rat)≤40:=zhR hb (by decide)
 have HC1:=LH (fun w hw=>zA x hx w hw)
 have hc2:=fun w hw=>zA (l:Rat) hlr w hw
 have HL1:=LH (fun w hw=>zaS x hx w hw)
 have hl2:=fun w hw=>zaS (l:Rat) hlr w hw
 rw[zbN]at hc2 hl2
 have HC2:=LH hc2
 have HL2:=LH hl2
 have HN:=LH (fun w hw=>zja l hl hb w hw)
 have hp:=hl.1
 have hz:(ze x == [48])=false:=by
  rw[beq_eq_false_iff_ne,← zaY];exact fun h=>hx0 (zbt h)
 have hlz:(Lib.itoa (l:Int) == [48])=false:=by
  rw[beq_eq_false_iff_ne,← zae];exact fun h=>by have:=zak h;omega
 have hlo:(Lib.itoa (l:Int) == [49])=false:=by
  rw[beq_eq_false_iff_ne,← zai];exact fun h=>by have:=zak h;omega
 have hm:decide ((Lib.itoa (l:Int)).head? = some 45)=false:=by
  rw[itoa_nonneg (by omega),decide_eq_false_iff_not];exact zF _
 have hs:zC (Lib.itoa (l:Int))=false:=zbK _
 have hlen:(Lib.itoa (l:Int)).length≤301:=zU _ (by have:=(zx hlr).1;rwa[Rat.num_natCast]at this)
 have HH:=LH (fun w=>zW (Lib.itoa (l:Int)) w)
 have HS:=LH (fun w hw=>zdQ (Lib.itoa (l:Int)) (by omega) w hw)
 rw[hm]at HH
 have n1:=zax x
 have n2:=zax (l:Rat)
 clear hc2 hl2 hx hx0 hl hb hlr hl1 hm
 generalize za6 x=v1 at *
 generalize za6 (l:Rat)=v2 at *
 generalize ze x=X at *
 generalize Lib.itoa (l:Int)=L at *
 go_enter Tryz.func221,Tryz.ntmps221
 go_wp2_with fail
 have B0:=Blk.new w [.string ⟨X.toArray⟩,.string ⟨L.toArray⟩] 60
 have hQ0:Q w (w.alloc (.cells [.string ⟨X.toArray⟩,.string ⟨L.toArray⟩].toArray 60)):=(Below.refl _ w).alloc (Nat.le_refl _) _
 refine cx (HC1.out _ (hE.q hQ0)) fun w1 hq1=>?_
 have hQ1:=Q.trans hQ0 hq1
 have B1:=B0.keep hq1 B0.lt
 have c0:=B1.cell
 go_wp2_with fail
 clear c0
 refine cx (HC2.out _ (hE.q hQ1)) fun w2 hq2=>?_
 have hQ2:=Q.trans hQ1 hq2
 have B2:=B1.keep hq2 B1.lt
 have c0:=B2.cell
 go_wp2_with fail
 clear c0
 refine cx (HL1.out _ (hE.q hQ2)) fun w3 hq3=>?_
 have hQ3:=Q.trans hQ2 hq3
 have B3:=B2.keep hq3 B2.lt
 have c0:=B3.cell
 go_wp2_with fail
 clear c0
 refine cx (HL2.out _ (hE.q hQ3)) fun w4 hq4=>?_
 have hQ4:=Q.trans hQ3 hq4
 have B4:=B3.keep hq4 B3.lt
 have c0:=B4.cell
 go_wp2_with fail
 refine(HH.out _).mono ?_
 rintro e w5⟨rfl,rfl⟩
 go_wp2_with fail
 refine(HS.out _ (hE.q hQ4)).mono ?_
 rintro e w5⟨rfl,rfl⟩
 rw[hs]
 clear hs
 go_wp2_with fail
 refine cx (HN.out _ (hE.q hQ4)) fun w5 hq5=>?_
 have hQ5:=Q.trans hQ4 hq5
 have B5:=B4.keep hq5 B4.lt
 have c0:=B5.cell
 go_wp2
 go_ret
 exact⟨rfl,hQ5⟩
theorem zle(x:Rat)(l:Nat)(hx:zam x=false)(hx0:x≠0)(k60:za6 x≤60)(hl:zgE l)(hb:Bd 40 (l:Rat))(w:World)(hE:Env w) :
  CR 221 #[.agg #[.string ⟨(ze x).toArray⟩,.string ⟨(Lib.itoa (l:Int)).toArray⟩]] w (.int .i64 0):=by
 by_cases h1:l=1
 ·exact zjf x l hx hx0 k60 hl hb h1 w hE
 ·exact zhC x l hx hx0 k60 hl hb h1 w hE
def zmp(w:World)(B:Nat)(v:Value)(x:Rat)(l:Nat):Prop :=
 w.ownsRow B 60 2 v 1 [.string ⟨(ze x).toArray⟩,.string ⟨(Lib.itoa (l:Int)).toArray⟩]
structure Term1 (x:Rat) (l:Nat):Prop where
 lim:zam x=false
 ne:x≠0
 c60:za6 x≤60
 norm:zgE l
 c40:Bd 40 (l:Rat)
theorem zjg(x:Rat)(l:Nat)(ht:Term1 x l)(B:Nat)(v:Value)(w:World)(hE:Env w)(hv:zmp w B v x l) :
  CR 160 #[v] w (.int .i64 0):=by
 have HR:=LH (fun w hw=>zle x l ht.lim ht.ne ht.c60 ht.norm ht.c40 w hw)
 unfold zmp at hv
 generalize ze x=X at *
 generalize Lib.itoa (l:Int)=L at *
 clear ht
 obtain⟨g,cap,rfl,hg1,hg2⟩:=hv.form (by omega)
 go_enter Tryz.func160,Tryz.ntmps160
 go_wp2
 go_loopw [13] (fun i wr=>∃ k:Nat,k≤1∧i=.int .i64 k∧Q w wr) (fun i _=>1 - (intOf i).toNat)
 case atStart=>exact⟨0,by omega,rfl,Q.refl _⟩
 case round =>
  obtain⟨k,hk,rfl,hQ⟩:=hrel
  rcases(show k=0∨k=1 by omega)with rfl | rfl
  ·have hrow:=zi hv hQ
   have e0:=hrow.cellAt 0 (by omega)
   have e1:=hrow.cellAt 1 (by omega)
   simp only[zs4,zs5]at e0 e1
   go_wp2_with fail
   refine cx (HR.out _ (hE.q (hQ.alloc hQ.size _))) fun w1 hq1=>?_
   have hQ1:=Q.trans (hQ.alloc hQ.size _) hq1
   clear e0 e1
   go_wp2
   go_roundw
   case rel=>exact⟨1,by omega,by go_num,hQ1⟩
   case measure=>simp[intOf]
  ·go_wp2
   go_ret
   exact⟨rfl,hQ⟩
end
end Go.Proofs.YtapnkgdnflofbaaGreatDoor
namespace Kp
theorem zqL{c r l:Nat}(hc:0<c)(h:c*c*l=r*r):∃ t,r=c*t∧l=t*t:=by
 have h1:c*c ∣ r*r:=⟨l,h.symm⟩
 have h2:c ∣ r:=by
  have:=(Nat.pow_dvd_pow_iff (a:=c) (b:=r) (n:=2) (by decide)).1 (by rw[Nat.pow_two,Nat.pow_two];exact h1)
  exact this
 obtain⟨t,ht⟩:=h2
 refine⟨t,ht,?_⟩
 have h3:c*c*l=c*c*(t*t):=by rw[h,ht];grind
 exact Nat.eq_of_mul_eq_mul_left (Nat.mul_pos hc hc) h3
theorem zrt{r:Nat}(hr:0<r):za0 (r*r)=(r,1):=by
 obtain⟨a,b,d,f⟩:=zb3 zK zdL 1 (r*r) (Nat.mul_pos hr hr) (by decide)
 unfold za0
 generalize (zL zK (1,r*r)).1=c at *
 generalize (zL zK (1,r*r)).2=l at *
 obtain⟨t,ht,hl⟩:=zqL (r:=r) b (by rw[d];simp)
 have hi:zw l=t:=ze4 ⟨by omega,by rw[hl];exact Nat.mul_lt_mul_of_lt_of_lt (by omega) (by omega)⟩
 rw[hi,if_pos hl.symm,← ht]
end Kp
namespace Go.Proofs.YtapnkgdnflofbaaGreatDoor
section
open Kp
theorem zqi(s:Rat)(hs:0<s.num):(1 / s).num=s.den∧(1 / s).den=s.num.toNat:=by
 rw[ztz s hs]
 obtain⟨e1,e2⟩:=zcp (s.den:Int) s.num.toNat (by omega)
 have hg:Nat.gcd (s.den:Int).natAbs s.num.toNat=1:=by
  have h:=s.reduced
  rw[Int.natAbs_natCast,Nat.gcd_comm,show s.num.toNat=s.num.natAbs by omega];exact h
 rw[hg]at e1 e2
 refine⟨by rw[e1];simp,?_⟩
 have:((Rat.divInt (s.den:Int) (s.num.toNat:Int)).den:Int)=(s.num.toNat:Int):=by rw[e2];simp
 omega
end
section
open Go.RowKit Kp
theorem zrs:zgE 1:=⟨by decide,zgf⟩
theorem nat_ne{l:Nat}(h:0<l):(l:Rat)≠0:=fun e=>by
 have:l=0:=by exact_mod_cast e
 omega
theorem zoi{w w':World}{B:Nat}{v:Value}{x:Rat}{l:Nat}(h:zmp w B v x l)(hq:Q w w'):zmp w' B v x l:=zi h hq
theorem zeq(x y:Rat)(hx:zR x)(hy:zR y)(w:World) :
  CR 44 #[.string ⟨(ze x).toArray⟩,.string ⟨(ze y).toArray⟩] w (.tuple #[.int .i64 (Lib.compareInt (x.num*y.den) (y.num*x.den)),.int .i64 0]):=by
 have l1:=zaA (zR.root90 hx).zam
 have l2:=zaA (zR.root90 hy).zam
 have N1:=LH (fun w=>zH (ze x) (by omega) w)
 have N2:=LH (fun w=>zH (ze y) (by omega) w)
 rw[zaU hx]at N1
 rw[zaU hy]at N2
 have b1:=hx.1
 have b2:=hx.2
 have b3:=hy.1
 have b4:=hy.2
 have hd1:(0:Int)<x.den:=by have:=x.den_pos;omega
 have hd2:(0:Int)<y.den:=by have:=y.den_pos;omega
 have p1:(x.num*(y.den:Int)).natAbs<10000000000000000:=by
  rw[Int.natAbs_mul,Int.natAbs_natCast]
  have:=Nat.mul_lt_mul'' b1 b4
  omega
 have p2:(y.num*(x.den:Int)).natAbs<10000000000000000:=by
  rw[Int.natAbs_mul,Int.natAbs_natCast]
  have:=Nat.mul_lt_mul'' b3 b2
  omega
 generalize (x.den:Int)=xd at *
 generalize (y.den:Int)=yd at *
 generalize x.num=xn at *
 generalize y.num=yn at *
 generalize ze x=X at *
 generalize ze y=Y at *
 have q1:-10000000000000000<xn*yd:=by omega
 have q2:xn*yd<10000000000000000:=by omega
 have q3:-10000000000000000<yn*xd:=by omega
 have q4:yn*xd<10000000000000000:=by omega
 clear p1 p2 b1 b2 b3 b4 hx hy l1 l2
 go_enter Tryz.func44,Tryz.ntmps44
 go_wp2_with fail
 refine cx (N1.out _) fun w1 hq1=>?_
 go_wp2_with fail
 refine cx (N2.out _) fun w2 hq2=>?_
 have hQ2:Q w w2:=Q.trans hq1 (Q.trans ((Below.refl _ w1).alloc (Nat.le_refl _) _) hq2)
 have B1:=(Blk.new w1 [.int .i64 xn,.int .i64 xd] 126).keep hq2 (by simp)
 have l1:=B1.lt
 have c0:=B1.cell
 go_wp2_with fail
 refine(Tryz.cmp_Compare_int _ _ _).mono ?_
 rintro e w3⟨rfl,rfl⟩
 go_wp2
 go_ret2
 exact⟨rfl,hQ2.alloc hQ2.size _⟩
theorem zeE(x y:Rat)(hx:zam x=false)(hy:zam y=false)(hs:¬ (zR x∧zR y))(h1:lim (x.num*y.den)=false)(h2:lim (y.num*(x.den:Int))=false)(w:World)(hE:Env w) :
  CR 44 #[.string ⟨(ze x).toArray⟩,.string ⟨(ze y).toArray⟩] w (.tuple #[.int .i64 (Lib.compareInt (x.num*y.den) (y.num*x.den)),.int .i64 0]):=by
 have l1:=zaA hx
 have l2:=zaA hy
 have hor:=zbm hs
 have N1:=LH (fun w=>zH (ze x) (by omega) w)
 have N2:=LH (fun w=>zH (ze y) (by omega) w)
 have R1:=LH (fun w hw=>zaf x hx w hw)
 have R2:=LH (fun w hw=>zaf y hy w hw)
 have C:=LH (fun w hw=>zbp x.num (x.den:Int) y.num (y.den:Int) (zx hx).1 (zx hx).2 (zx hy).1 (zx hy).2 h1 h2 w hw)
 have K:=LH (fun w=>ziR (x.num*y.den) (y.num*(x.den:Int)) h1 h2 w)
 clear hx hy hs h1 h2 l1 l2
 generalize Lib.compareInt (x.num*y.den) (y.num*(x.den:Int))=ans at *
 cases hn:zcm (ze x)with
 | none =>
  rw[zc4 hn]at N1
  clear hn hor N2
  generalize Lib.itoa x.num=XN at *
  generalize Lib.itoa (x.den:Int)=XD at *
  generalize Lib.itoa y.num=YN at *
  generalize Lib.itoa (y.den:Int)=YD at *
  go_enter Tryz.func44,Tryz.ntmps44
  go_wp2_with fail
  refine cx (N1.out _) fun w1 hq1=>?_
  have hQ1:=hq1.alloc hq1.size (.cells #[.int .i64 0,.int .i64 0] 126)
  go_wp2_with fail
  refine cx (R1.out _ (hE.q hQ1)) fun w2 hq2=>?_
  have hQ2:=Q.trans hQ1 hq2
  have hQ2':=hQ2.alloc hQ2.size (.cells #[.string ⟨XN.toArray⟩,.string ⟨XD.toArray⟩] 133)
  have X0:=Blk.new w2 [.string ⟨XN.toArray⟩,.string ⟨XD.toArray⟩] 133
  go_wp2_with fail
  refine cx (R2.out _ (hE.q hQ2')) fun w3 hq3=>?_
  have hQ3:=Q.trans hQ2' hq3
  have hQ3':=hQ3.alloc hQ3.size (.cells #[.string ⟨YN.toArray⟩,.string ⟨YD.toArray⟩] 133)
  have X1:=X0.keep hq3 X0.lt
  have c0:=X1.cell
  have lx:=X1.lt
  go_wp2_with fail
  refine cx (C.out _ (hE.q hQ3')) fun w4 hq4=>?_
  have hQ4:=Q.trans hQ3' hq4
  clear c0 lx X0 X1
  go_wp2_with fail
  refine cx (K.out _) fun w5 hq5=>?_
  have hQ5:=Q.trans hQ4 hq5
  go_wp2
  go_ret2
  exact⟨rfl,hQ5⟩
 | some nd =>
  obtain⟨n,d⟩:=nd
  rw[zd9 hn]at N1
  have hy2:zcm (ze y)=none:=by
   rcases hor with h | h
   ·rw[h]at hn;cases hn
   ·exact h
  rw[zc4 hy2]at N2
  clear hn hor hy2
  generalize Lib.itoa x.num=XN at *
  generalize Lib.itoa (x.den:Int)=XD at *
  generalize Lib.itoa y.num=YN at *
  generalize Lib.itoa (y.den:Int)=YD at *
  go_enter Tryz.func44,Tryz.ntmps44
  go_wp2_with fail
  refine cx (N1.out _) fun w1 hq1=>?_
  have hQ1:=hq1.alloc hq1.size (.cells #[.int .i64 n,.int .i64 d] 126)
  go_wp2_with fail
  refine cx (N2.out _) fun w2 hq2=>?_
  have hQ2:=Q.trans hQ1 hq2
  have hQ2':=hQ2.alloc hQ2.size (.cells #[.int .i64 0,.int .i64 0] 126)
  go_wp2_with fail
  refine cx (R1.out _ (hE.q hQ2')) fun w3 hq3=>?_
  have hQ3:=Q.trans hQ2' hq3
  have hQ3':=hQ3.alloc hQ3.size (.cells #[.string ⟨XN.toArray⟩,.string ⟨XD.toArray⟩] 133)
  have X0:=Blk.new w3 [.string ⟨XN.toArray⟩,.string ⟨XD.toArray⟩] 133
  go_wp2_with fail
  refine cx (R2.out _ (hE.q hQ3')) fun w4 hq4=>?_
  have hQ4:=Q.trans hQ3' hq4
  have hQ4':=hQ4.alloc hQ4.size (.cells #[.string ⟨YN.toArray⟩,.string ⟨YD.toArray⟩] 133)
  have X1:=X0.keep hq4 X0.lt
  have c0:=X1.cell
  have lx:=X1.lt
  go_wp2_with fail
  refine cx (C.out _ (hE.q hQ4')) fun w5 hq5=>?_
  have hQ5:=Q.trans hQ4' hq5
  clear c0 lx X0 X1
  go_wp2_with fail
  refine cx (K.out _) fun w6 hq6=>?_
  have hQ6:=Q.trans hQ5 hq6
  go_wp2
  go_ret2
  exact⟨rfl,hQ6⟩
theorem zek(x y:Rat)(hx:zam x=false)(hy:zam y=false)(h1:lim (x.num*y.den)=false)(h2:lim (y.num*(x.den:Int))=false)(w:World)(hE:Env w) :
  CR 44 #[.string ⟨(ze x).toArray⟩,.string ⟨(ze y).toArray⟩] w (.tuple #[.int .i64 (Lib.compareInt (x.num*y.den) (y.num*x.den)),.int .i64 0]):=by
 by_cases hs:zR x∧zR y
 ·exact zeq x y hs.1 hs.2 w
 ·exact zeE x y hx hy hs h1 h2 w hE
theorem zcL(l m:Nat)(hl:lim (l:Int)=false)(hm:lim (m:Int)=false)(w:World)(hE:Env w) :
  CR 44 #[.string ⟨(Lib.itoa (l:Int)).toArray⟩,.string ⟨(Lib.itoa (m:Int)).toArray⟩] w (.tuple #[.int .i64 (Lib.compareInt l m),.int .i64 0]):=by
 have hr:∀ n:Nat,lim (n:Int)=false→zam (n:Rat)=false:=fun n hn=>by unfold zam;rw[Rat.num_natCast,Rat.den_natCast,hn];exact zm5
 have h:=zek (l:Rat) (m:Rat) (hr l hl) (hr m hm) (by rw[Rat.num_natCast,Rat.den_natCast];simpa using hl) (by rw[Rat.num_natCast,Rat.den_natCast];simpa using hm) w hE
 rw[zbN,zbN,Rat.num_natCast,Rat.num_natCast,Rat.den_natCast,Rat.den_natCast,show ((1:Nat):Int)=1 from rfl,Int.mul_one,Int.mul_one]at h
 exact h
def ze9(q:Rat):Bool:=decide (zw q.num.toNat*zw q.num.toNat=q.num.toNat) && decide (zw q.den*zw q.den=q.den)
def sqR(q:Rat):Rat:=Rat.divInt (zw q.num.toNat:Int) (zw q.den:Int)
theorem zl3{n:Nat}(h:0<n):0<zw n:=by
 have:=(zcV n).2
 rcases Nat.eq_zero_or_pos (zw n)with h0 | h0
 ·rw[h0]at this;omega
 ·exact h0
theorem zl4{n:Nat}(h:lim (n:Int)=false):lim (zw n:Int)=false:=zcj h (by have:=zgm n;omega)
theorem zmC(q:Rat)(h:zam q=false)(hp:0≤q.num)(w:World)(hE:Env w) :
  CR 225 #[.agg #[.string ⟨(Lib.itoa q.num).toArray⟩,.string ⟨(Lib.itoa (q.den:Int)).toArray⟩]] w (.tuple #[.string ⟨(if ze9 q then ze (sqR q)else []).toArray⟩,.bool (ze9 q)]):=by
 have hn:q.num=(q.num.toNat:Int):=by omega
 have l1:=(zx h).1
 have l2:=(zx h).2
 rw[hn]at l1
 have E1:=LH (fun w hw=>zgP q.num.toNat l1 w hw)
 have E2:=LH (fun w hw=>zgP q.den l2 w hw)
 have F:=LH (fun w hw=>zdX (zw q.num.toNat:Int) (zw q.den:Int) (zl4 l1) (zl4 l2) (by have:=zl3 q.den_pos;omega) w hw)
 unfold ze9 sqR
 rw[hn,Int.toNat_natCast]
 generalize ze (Rat.divInt (zw q.num.toNat:Int) (zw q.den:Int))=R at *
 generalize decide (zw q.num.toNat*zw q.num.toNat=q.num.toNat)=b1 at *
 generalize decide (zw q.den*zw q.den=q.den)=b2 at *
 generalize Lib.itoa (zw q.num.toNat:Int)=S1 at *
 generalize Lib.itoa (zw q.den:Int)=S2 at *
 generalize Lib.itoa (q.num.toNat:Int)=N at *
 generalize Lib.itoa (q.den:Int)=D at *
 clear hn l1 l2 h hp
 go_enter Tryz.func225,Tryz.ntmps225
 have T:=Blk.new w [.string ⟨N.toArray⟩,.string ⟨D.toArray⟩] 273
 have hQ0:Q w (w.alloc (.cells [.string ⟨N.toArray⟩,.string ⟨D.toArray⟩].toArray 273)):=(Below.refl _ w).alloc (Nat.le_refl _) _
 go_wp2_with fail
 refine cx (E1.out _ (hE.q hQ0)) fun w1 hq1=>?_
 have hQ1:=Q.trans hQ0 hq1
 have T1:=T.keep hq1 T.lt
 have c1:=T1.cell 1
 simp only[zs4,zs5]at c1
 go_wp2_with fail
 clear c1 T T1
 refine cx (E2.out _ (hE.q hQ1)) fun w2 hq2=>?_
 have hQ2:=Q.trans hQ1 hq2
 cases b1 with
 | false =>
  go_wp2
  go_ret2
  exact⟨rfl,hQ2⟩
 | true =>
  cases b2 with
  | false =>
   go_wp2
   go_ret2
   exact⟨rfl,hQ2⟩
  | true =>
   go_wp2_with fail
   refine cx (F.out _ (hE.q hQ2)) fun w3 hq3=>?_
   have hQ3:=Q.trans hQ2 hq3
   go_wp2
   go_ret2
   exact⟨rfl,hQ3⟩
theorem zpB{a b:Nat}:a*a<b*b ↔ a<b:=Nat.mul_self_lt_mul_self_iff
def zgU(low high:Rat × Nat):Rat × Nat:=(low.1+high.1*sqR ((high.2:Rat) / (low.2:Rat)),low.2)
def zgG:List (Rat × Nat)→Rat × Nat→List (Rat × Nat)
 | [],t=>[t]
 | c::r,t=>if ze9 ((t.2:Rat) / (c.2:Rat))then(if t.2<c.2 then zgU t c else zgU c t)::r else c::zgG r t
def zgF(cs:List (Rat × Nat)):List (Rat × Nat):=cs.filter fun c=>decide (c.1≠0)
def znx:List (Rat × Nat)→List (Rat × Nat)
 | [a,b]=>if b.2<a.2 then [b,a]else [a,b]
 | l=>l
theorem zoD{l m:Nat}(hl:0<l)(hm:0<m):0<((m:Rat) / (l:Rat)).num∧(l:Rat) / (m:Rat)=1 / ((m:Rat) / (l:Rat)):=by
 constructor
 ·rw[← Rat.div_is,Rat.num_natCast,Rat.num_natCast,Rat.den_natCast,Rat.den_natCast]
  have:=zfi (z:=(m:Int)) (k:=l) (by omega) hl
  simpa using this
 ·have h1:=nat_ne hl
  have h2:=nat_ne hm
  generalize (l:Rat)=a at *
  generalize (m:Rat)=b at *
  grind
theorem znS{l m:Nat}(hl:0<l)(hm:0<m)(h:ze9 ((m:Rat) / (l:Rat))=true):ze9 ((l:Rat) / (m:Rat))=true:=by
 obtain⟨h1,h2⟩:=zoD hl hm
 rw[h2]
 generalize (m:Rat) / (l:Rat)=q at *
 obtain⟨e1,e2⟩:=zqi q h1
 unfold ze9 at h ⊢
 rw[e1,e2,Int.toNat_natCast,Bool.and_comm]
 exact h
theorem znR{n b:Nat}(h:n<b*b):zw n<b:=by
 have:=(zcV n).1
 exact zpB.1 (by omega)
theorem zsz{l m n:Nat}(hl:0<l)(hl1:l<10 ^ n)(hm:m<10 ^ n):Bd n ((m:Rat) / (l:Rat)):=by
 rw[← Rat.div_is,Rat.num_natCast,Rat.num_natCast,Rat.den_natCast,Rat.den_natCast,show (m:Int)*((1:Nat):Int)=m by simp,show (l:Int)*((1:Nat):Int)=l by simp]
 exact zc8 hl (by rw[Int.natAbs_natCast];exact hm) hl1
theorem ztr{q:Rat}{n:Nat}(h:Bd (n+n) q):Bd n (sqR q):=by
 unfold sqR
 have h1:=h.1
 have h2:=h.2
 rw[Nat.pow_add]at h1 h2
 exact zc8 (zl3 q.den_pos) (by rw[Int.natAbs_natCast];exact znR (by omega)) (znR h2)
def zeo(l:List (Str × Str)):List Value:=l.flatMap fun p=>[.string ⟨p.1.toArray⟩,.string ⟨p.2.toArray⟩]
theorem zrh:zeo []=[]:=rfl
theorem zdI(p:Str × Str)(l:List (Str × Str)):zeo (p::l)=.string ⟨p.1.toArray⟩::.string ⟨p.2.toArray⟩::zeo l:=rfl
theorem zri(l:List (Str × Str)):(zeo l).length=l.length*2:=by
 induction l with
 | nil=>rfl
 | cons p l ih=>rw[zdI];simp only[List.length_cons,ih];omega
theorem znG(a b:List (Str × Str)):zeo (a++b)=zeo a++zeo b:=by unfold zeo;rw[List.flatMap_append]
theorem zfY:∀ (l:List (Str × Str)) (i:Nat),i<l.length→(zeo l)[i*2]? = some (.string ⟨(l.getD i ([],[])).1.toArray⟩)∧(zeo l)[i*2+1]? = some (.string ⟨(l.getD i ([],[])).2.toArray⟩)
 | [],i,h=>absurd h (by simp)
 | p::l,0,_=>⟨rfl,rfl⟩
 | p::l,i+1,h=>by
  have:=zfY l i (by simpa using h)
  rw[zdI,show (i+1)*2=i*2+2 by omega,show i*2+2+1=i*2+1+2 by omega]
  simpa using this
theorem zkj:∀ (l:List (Str × Str)) (i:Nat) (p:Str × Str),((zeo l).set (i*2) (.string ⟨p.1.toArray⟩)).set (i*2+1) (.string ⟨p.2.toArray⟩)=zeo (l.set i p)
 | [],i,p=>by simp[zrh]
 | q::l,0,p=>by rw[List.set_cons_zero,zdI,zdI];rfl
 | q::l,i+1,p=>by
  have:=zkj l i p
  rw[List.set_cons_succ,zdI,zdI,show (i+1)*2=i*2+2 by omega,show i*2+2+1=i*2+1+2 by omega,← this]
  rfl
def TSl(w:World)(B:Nat)(v:Value)(l:List (Str × Str)):Prop :=
 ∃ a cap,v=.slice a l.length cap∧B≤w.heap.size∧∀ i,i<l.length→∃ b o,a=some ⟨b,o,none⟩∧b<B ∧
  w.cell? ⟨b,o+i*2,none⟩=some (.string ⟨(l.getD i ([],[])).1.toArray⟩)∧w.cell? ⟨b,o+i*2+1,none⟩=some (.string ⟨(l.getD i ([],[])).2.toArray⟩)
theorem TSl.keep{w w':World}{B B':Nat}{v:Value}{l:List (Str × Str)}(h:TSl w B v l)(hb:Below B' w w')(hB:B≤B'):TSl w' B v l:=by
 obtain⟨a,cap,rfl,hs,hc⟩:=h
 refine⟨a,cap,rfl,Nat.le_trans hs hb.size,fun i hi=>?_⟩
 obtain⟨b,o,ha,hbb,c0,c1⟩:=hc i hi
 exact⟨b,o,ha,hbb,(hb.cell (p:=⟨b,o+i*2,none⟩) (show b<B' by omega)).trans c0,(hb.cell (p:=⟨b,o+i*2+1,none⟩) (show b<B' by omega)).trans c1⟩
theorem TSl.of_row{w:World}{base:Nat}{t:TypeId}{v:Value}{l:List (Str × Str)}(h:w.ownsRow base t 2 v l.length (zeo l)):TSl w w.heap.size v l:=by
 rcases Nat.eq_zero_or_pos l.length with h0 | h0
 ·rcases h.2 with⟨hv,_⟩|⟨g,cap,cur,hv,_,hg,_⟩
  ·exact⟨none,0,by rw[hv,h0],Nat.le_refl _,fun i hi=>by omega⟩
  ·exact⟨some ⟨g,0,none⟩,cap,hv,Nat.le_refl _,fun i hi=>by omega⟩
 ·obtain⟨g,cap,rfl,hb,hg⟩:=h.form h0
  refine⟨_,cap,rfl,Nat.le_refl _,fun i hi=>⟨g,0,rfl,hg,?_,?_⟩⟩
  ·rw[h.cellAt _ (by omega),Nat.zero_add];exact(zfY l i hi).1
  ·rw[h.cellAt _ (by omega),Nat.zero_add];exact(zfY l i hi).2
def ofT(t:Rat × Rat):Str × Str:=(ze t.1,ze t.2)
def ofC(c:Rat × Nat):Str × Str:=(ze c.1,Lib.itoa (c.2:Int))
def znq(w:World)(G:Nat)(cs:List (Rat × Nat)):Prop :=
 ∃ v,Blk w G [v] 156∧(cs=[]→v=.slice none 0 0)∧w.ownsRow (G+1) 160 2 v (cs.map ofC).length (zeo (cs.map ofC))
theorem znq.keep{w w':World}{G:Nat}{cs:List (Rat × Nat)}(h:znq w G cs)(hq:Q w w'):znq w' G cs:=by
 obtain⟨v,h1,h2,h3⟩:=h
 exact⟨v,h1.keep hq h1.lt,h2,zi h3 hq⟩
theorem znq.start{w:World}{G:Nat}(h:Blk w G [.slice none 0 0] 156):znq w G []:=⟨_,h,fun _=>rfl,World.ownsRow_nil _ _ _ _⟩
theorem zb2.two{w:World}{b:Nat}{s1 s2:Str}{t:TypeId}(h:Blk w b [.string ⟨s1.toArray⟩,.string ⟨s2.toArray⟩] t):zb2 w (.slice (some ⟨b,0,none⟩) 2 2) [s1,s2]:=by
 refine⟨b,0,2,rfl,h.lt,?_⟩
 intro i hi
 rcases(show i=0∨i=1 by simp at hi;omega)with rfl | rfl
 ·exact h.cell 0
 ·exact h.cell 1
theorem zpZ{p q:Rat}(pq:0<q.num):p / q=Rat.divInt (p.num*q.den) ((q.num.toNat*p.den:Nat):Int):=by
 rw[← Rat.div_is,Int.natCast_mul,Int.toNat_of_nonneg (by omega)]
theorem zmP{p q:Rat}(pp:0≤p.num)(pq:0<q.num):0≤(p / q).num:=by
 rw[zpZ pq]
 obtain⟨e1,-⟩:=zcp (p.num*q.den) (q.num.toNat*p.den) (Nat.mul_pos (by omega) p.den_pos)
 rw[e1]
 have h0:0≤p.num*(q.den:Int):=Int.mul_nonneg pp (by omega)
 rw[Int.tdiv_eq_ediv_of_nonneg h0]
 exact Int.ediv_nonneg h0 (Int.natCast_nonneg _)
theorem Bd.quot{m n:Nat}{p q:Rat}(hp:Bd m p)(hq:Bd n q)(pq:0<q.num):Bd (m+n) (p / q):=by
 rw[zpZ pq]
 refine zc8 (Nat.mul_pos (by omega) p.den_pos) (zbF hp hq) ?_
 have h1:q.num.toNat<10 ^ n:=by have:=hq.1;omega
 have:=Nat.mul_lt_mul'' h1 hp.2
 rw[Nat.add_comm,Nat.pow_add];exact this
theorem zkm(tmps:Array Value)(W:World)(b:Nat)(x y u:Value)(hp:tmps.getD 4 undef=.pointer (some ⟨b,0,none⟩))(hu:tmps.getD 5 undef=u)
  (c0:W.cell? ⟨b,0,none⟩=some x)(c1:W.cell? ⟨b,1,none⟩=some y) :
  (results Tryz.f166 tmps).run Tryz.prog W=.ok (.tuple #[.agg #[x,y],u]) W:=by
 simp only[Array.getD_eq_getD_getElem?]at hp hu
 simp[results,Tryz.results166,go_sem,hp,hu,c0,c1]
theorem zqX:∀ (cs:List (Rat × Nat)) (t:Rat × Nat) (k:Nat) (hk:k<cs.length),(∀ j (hj:j<k),ze9 ((t.2:Rat) / ((cs[j]'(by omega)).2:Rat))=false)→ze9 ((t.2:Rat) / ((cs[k]).2:Rat))=true →
  zgG cs t=cs.set k (if t.2<(cs[k]).2 then zgU t cs[k]else zgU cs[k] t)
 | [],_,_,hk,_,_=>absurd hk (by simp)
 | c::r,t,0,_,_,h=>by
  unfold zgG
  exact if_pos (show ze9 ((t.2:Rat) / (c.2:Rat))=true from h)
 | c::r,t,k+1,hk,h1,h=>by
  have h0:=h1 0 (by omega)
  simp only[List.getElem_cons_zero]at h0
  unfold zgG
  rw[if_neg (by rw[h0];decide),zqX r t k (by simpa using hk) (fun j hj=>by have:=h1 (j+1) (by omega);simpa using this) (by simpa using h)]
  rfl
theorem zn7:∀ (cs:List (Rat × Nat)) (t:Rat × Nat),(∀ j (hj:j<cs.length),ze9 ((t.2:Rat) / ((cs[j]).2:Rat))=false)→zgG cs t=cs++[t]
 | [],_,_=>rfl
 | c::r,t,h1=>by
  have h0:=h1 0 (by simp)
  simp only[List.getElem_cons_zero]at h0
  unfold zgG
  rw[if_neg (by rw[h0];decide),zn7 r t (fun j hj=>by have:=h1 (j+1) (by simp;omega);simpa using this)]
  rfl
theorem zn5{w:World}{G g cap k:Nat}{cs rs:List (Rat × Nat)}{p:Str × Str}(hG:Blk w G [.slice (some ⟨g,0,none⟩) cs.length cap] 156)(hr:w.ownsRow (G+1) 160 2 (.slice (some ⟨g,0,none⟩) cs.length cap) cs.length (zeo (cs.map ofC)))
  (hs:zeo (rs.map ofC)=((zeo (cs.map ofC)).set (k*2) (.string ⟨p.1.toArray⟩)).set (k*2+1) (.string ⟨p.2.toArray⟩)∧rs.length=cs.length)(hne:rs≠[])(hgG:G≠g) :
  znq ((w.setCell ⟨g,k*2,none⟩ (.string ⟨p.1.toArray⟩)).setCell ⟨g,k*2+1,none⟩ (.string ⟨p.2.toArray⟩)) G rs:=by
 refine⟨_,(hG.setOther (Ne.symm hgG) _ _).setOther (Ne.symm hgG) _ _,fun e=>absurd e hne,?_⟩
 rw[hs.1,List.length_map,hs.2]
 exact((hr.stored (k*2) _).1.stored (k*2+1) _).1
theorem znf{w w1:World}{G T g n cap:Nat}{o x y:Value}(hg:w.grownBy w1 (Value.slice (some ⟨g,0,none⟩) n cap).ownBlock)(hG:G<w.heap.size)(hT:T<w.heap.size)(hne:G≠T)(hGg:G≠g)(hTg:T≠g)(c:w.cell? ⟨G,0,none⟩=some o)
  (d0:w.cell? ⟨T,0,none⟩=some x)(d1:w.cell? ⟨T,1,none⟩=some y)(kf:w.frozen? ⟨G,0,none⟩=false) :
  w1.cell? ⟨G,0,none⟩=some o∧∀ v,(w1.setCell ⟨G,0,none⟩ v).cell? ⟨T,0,none⟩=some x∧(w1.setCell ⟨G,0,none⟩ v).cell? ⟨T,1,none⟩=some y∧(w1.setCell ⟨G,0,none⟩ v).frozen? ⟨G,0,none⟩=false:=by
 have n1:some G≠(Value.slice (some ⟨g,0,none⟩) n cap).ownBlock:=fun e=>hGg (Option.some.inj e)
 have n2:some T≠(Value.slice (some ⟨g,0,none⟩) n cap).ownBlock:=fun e=>hTg (Option.some.inj e)
 refine⟨(hg.cell_far ⟨G,0,none⟩ hG n1).trans c,fun v=>⟨?_,?_,?_⟩⟩
 ·exact(World.cell?_setCell_other w1 ⟨G,0,none⟩ ⟨T,0,none⟩ v (by intro h;exact hne (congrArg Addr.block h))).trans ((hg.cell_far ⟨T,0,none⟩ hT n2).trans d0)
 ·exact(World.cell?_setCell_other w1 ⟨G,0,none⟩ ⟨T,1,none⟩ v (by simp)).trans ((hg.cell_far ⟨T,1,none⟩ hT n2).trans d1)
 ·rw[World.frozen?_setCell];exact(hg.frozen_far ⟨G,0,none⟩ hG n1).trans kf
theorem zpj{w W w1:World}{G g n cap g4 cap4:Nat}{s1 s2:Str}{xs:List Value}{rs:List (Rat × Nat)}(hG:Blk W G [.slice (some ⟨g,0,none⟩) n cap] 156)(hgrow:W.drew.grownBy w1 (Value.slice (some ⟨g,0,none⟩) n cap).ownBlock)
  (hown:w1.ownsRow (G+1) 160 2 (.slice (some ⟨g4,0,none⟩) (n+1) cap4) (n+1) (xs++[.string ⟨s1.toArray⟩,.string ⟨s2.toArray⟩]))(hB:Below G w W.drew)(hl:G<W.drew.heap.size)(hGg:G<g)
  (hr:zeo (rs.map ofC)=xs++[.string ⟨s1.toArray⟩,.string ⟨s2.toArray⟩]∧rs.length=n+1)(hne:rs≠[]) :
  Below G w (w1.setCell ⟨G,0,none⟩ (.slice (some ⟨g4,0,none⟩) (n+1) cap4))∧znq (w1.setCell ⟨G,0,none⟩ (.slice (some ⟨g4,0,none⟩) (n+1) cap4)) G rs:=by
 have n1:some G≠(Value.slice (some ⟨g,0,none⟩) n cap).ownBlock:=fun e=>by
  have:=Option.some.inj e
  simp only at this;omega
 have bG:Blk w1 G [.slice (some ⟨g,0,none⟩) n cap] 156:=(hgrow.block G hl n1).trans hG
 have hb2:Below G w w1:=hB.grown hgrow (Nat.le_of_lt hl) (fun k hk=>by cases hk;exact Nat.le_of_lt hGg)
 refine⟨hb2.setCell (p:=⟨G,0,none⟩) (Nat.le_refl _) _,_,bG.set 0 _,fun e=>absurd e hne,?_⟩
 rw[hr.1,List.length_map,hr.2]
 exact ownsRow_setCell_below hown (by simp) _
theorem zlY{n:Nat}(h:n<10 ^ 80):lim (n:Int)=false:=zbw (n:=80) (by rw[Int.natAbs_natCast];exact h) (by decide)
theorem zn8:∀ (cs:List (Rat × Nat)) (t:Rat × Nat),(zgG cs t).length≤cs.length+1
 | [],_=>by simp[zgG]
 | c::r,t=>by
  unfold zgG
  have:=zn8 r t
  split <;> simp <;> omega
theorem zg3:leftOf 1=1:=by unfold leftOf;rw[show ((1:Rat)).num.toNat*((1:Rat)).den=1 from rfl,zgf]
end
end Go.Proofs.YtapnkgdnflofbaaGreatDoor
