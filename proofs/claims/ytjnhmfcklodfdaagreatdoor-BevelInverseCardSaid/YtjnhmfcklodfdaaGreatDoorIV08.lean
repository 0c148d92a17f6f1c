/-
  CD CE CF SqM CG CH LSquares, one behind the other (what SD leaves).; RA RM RO RP RR RB RD RC, one behind the other.
-/
import Derived.Test.YtjnhmfcklodfdaaGreatDoorIVSD
set_option maxRecDepth 100000
set_option maxHeartbeats 2000000
namespace Go.Proofs.YtjnhmfcklodfdaaGreatDoor
section
open Go.RowKit Kp
theorem zj1(l:Nat)(hl:zeP l)(hb:Bd 40 (l:Rat))(w:World)(hE:Env w) :
  CR 115 #[.string ⟨(Lib.itoa (l:Int)).toArray⟩] w (.tuple #[.string ⟨#[49]⟩,.string ⟨(Lib.itoa (l:Int)).toArray⟩,.int .i64 0]):=by
 have h:=zi3 (l:Rat) (hb.root90 (by decide)) (by rw[Rat.num_natCast];have:=hl.1;omega) w hE
 rw[zbf,Rat.num_natCast,Rat.den_natCast,Int.toNat_natCast,Nat.mul_one,hl.2]at h
 rw[show Rat.divInt ((1:Nat):Int) ((1:Nat):Int)=1 by rfl,zci]at h
 exact h
theorem zj6(x:Rat)(l:Nat)(hx:zah x=false)(hx0:x≠0)(k60:zbb x≤60)(hl:zeP l)(hb:Bd 40 (l:Rat))(hl1:l=1)(w:World)(hE:Env w) :
  CR 101 #[.agg #[.string ⟨(ze x).toArray⟩,.string ⟨(Lib.itoa (l:Int)).toArray⟩]] w (.int .i64 0):=by
 have hlr:zah (l:Rat)=false:=hb.zah (by decide)
 have k40:zbb (l:Rat)≤40:=zlI hb (by decide)
 have HC1:=LH (fun w hw=>zI x hx w hw)
 have hc2:=fun w hw=>zI (l:Rat) hlr w hw
 have HL1:=LH (fun w hw=>za2 x hx w hw)
 have hl2:=fun w hw=>za2 (l:Rat) hlr w hw
 rw[zbf]at hc2 hl2
 have HC2:=LH hc2
 have HL2:=LH hl2
 have HN:=LH (fun w hw=>zj1 l hl hb w hw)
 have hp:=hl.1
 have hz:(ze x == [48])=false:=by
  rw[beq_eq_false_iff_ne,← zaS];exact fun h=>hx0 (zaB h)
 have hlz:(Lib.itoa (l:Int) == [48])=false:=by
  rw[beq_eq_false_iff_ne,← zQ];exact fun h=>by have:=zai h;omega
 have hlo:(Lib.itoa (l:Int) == [49])=true:=by
  subst hl1;rw[show ((1:Nat):Int)=1 from rfl,zac];rfl
 have hm:decide ((Lib.itoa (l:Int)).head? = some 45)=false:=by
  rw[itoa_nonneg (by omega),decide_eq_false_iff_not];exact zG _
 have hs:zF (Lib.itoa (l:Int))=false:=zbZ _
 have hlen:(Lib.itoa (l:Int)).length≤301:=zZ _ (by have:=(zw hlr).1;rwa[Rat.num_natCast]at this)
 have HH:=LH (fun w=>zX (Lib.itoa (l:Int)) w)
 have HS:=LH (fun w hw=>zed (Lib.itoa (l:Int)) (by omega) w hw)
 rw[hm]at HH
 have n1:=zaE x
 have n2:=zaE (l:Rat)
 clear hc2 hl2 hx hx0 hl hb hlr hl1 hm
 generalize zbb x=v1 at *
 generalize zbb (l:Rat)=v2 at *
 generalize ze x=X at *
 generalize Lib.itoa (l:Int)=L at *
 go_enter Tryz.func101,Tryz.ntmps101
 go_wp2_with fail
 have B0:=Blk.new w [.string ⟨X.toArray⟩,.string ⟨L.toArray⟩] 37
 have hQ0:Q w (w.alloc (.cells [.string ⟨X.toArray⟩,.string ⟨L.toArray⟩].toArray 37)):=(Below.refl _ w).alloc (Nat.le_refl _) _
 refine cx (HC1.out _ (hE.q hQ0)) fun w1 hq1=>?_
 have hQ1:=Q.trans hQ0 hq1
 have B1:=B0.keep hq1 B0.lt
 have c0:=B1.cell
 go_wp2_with fail
 clear c0
 refine cx (HC2.out _ (hE.q hQ1)) fun w2 hq2=>?_
 have hQ2:=Q.trans hQ1 hq2
 have B2:=B1.keep hq2 B1.lt
 have c0:=B2.cell
 go_wp2_with fail
 clear c0
 refine cx (HL1.out _ (hE.q hQ2)) fun w3 hq3=>?_
 have hQ3:=Q.trans hQ2 hq3
 have B3:=B2.keep hq3 B2.lt
 have c0:=B3.cell
 go_wp2_with fail
 clear c0
 refine cx (HL2.out _ (hE.q hQ3)) fun w4 hq4=>?_
 have hQ4:=Q.trans hQ3 hq4
 have B4:=B3.keep hq4 B3.lt
 have c0:=B4.cell
 go_wp2
 go_ret
 exact⟨rfl,hQ4⟩
theorem zif(x:Rat)(l:Nat)(hx:zah x=false)(hx0:x≠0)(k60:zbb x≤60)(hl:zeP l)(hb:Bd 40 (l:Rat))(hl1:l≠1)(w:World)(hE:Env w) :
  CR 101 #[.agg #[.string ⟨(ze x).toArray⟩,.string ⟨(Lib.itoa (l:Int)).toArray⟩]] w (.int .i64 0):=by
 have hlr:zah (l:Rat)=false:=hb.zah (by decide)
 have k40:zbb (l:Rat)≤40:=zlI hb (by decide)
 have HC1:=LH (fun w hw=>zI x hx w hw)
 have hc2:=fun w hw=>zI (l:Rat) hlr w hw
 have HL1:=LH (fun w hw=>za2 x hx w hw)
 have hl2:=fun w hw=>za2 (l:Rat) hlr w hw
 rw[zbf]at hc2 hl2
 have HC2:=LH hc2
 have HL2:=LH hl2
 have HN:=LH (fun w hw=>zj1 l hl hb w hw)
 have hp:=hl.1
 have hz:(ze x == [48])=false:=by
  rw[beq_eq_false_iff_ne,← zaS];exact fun h=>hx0 (zaB h)
 have hlz:(Lib.itoa (l:Int) == [48])=false:=by
  rw[beq_eq_false_iff_ne,← zQ];exact fun h=>by have:=zai h;omega
 have hlo:(Lib.itoa (l:Int) == [49])=false:=by
  rw[beq_eq_false_iff_ne,← zac];exact fun h=>by have:=zai h;omega
 have hm:decide ((Lib.itoa (l:Int)).head? = some 45)=false:=by
  rw[itoa_nonneg (by omega),decide_eq_false_iff_not];exact zG _
 have hs:zF (Lib.itoa (l:Int))=false:=zbZ _
 have hlen:(Lib.itoa (l:Int)).length≤301:=zZ _ (by have:=(zw hlr).1;rwa[Rat.num_natCast]at this)
 have HH:=LH (fun w=>zX (Lib.itoa (l:Int)) w)
 have HS:=LH (fun w hw=>zed (Lib.itoa (l:Int)) (by omega) w hw)
 rw[hm]at HH
 have n1:=zaE x
 have n2:=zaE (l:Rat)
 clear hc2 hl2 hx hx0 hl hb hlr hl1 hm
 generalize zbb x=v1 at *
 generalize zbb (l:Rat)=v2 at *
 generalize ze x=X at *
 generalize Lib.itoa (l:Int)=L at *
 go_enter Tryz.func101,Tryz.ntmps101
 go_wp2_with fail
 have B0:=Blk.new w [.string ⟨X.toArray⟩,.string ⟨L.toArray⟩] 37
 have hQ0:Q w (w.alloc (.cells [.string ⟨X.toArray⟩,.string ⟨L.toArray⟩].toArray 37)):=(Below.refl _ w).alloc (Nat.le_refl _) _
 refine cx (HC1.out _ (hE.q hQ0)) fun w1 hq1=>?_
 have hQ1:=Q.trans hQ0 hq1
 have B1:=B0.keep hq1 B0.lt
 have c0:=B1.cell
 go_wp2_with fail
 clear c0
 refine cx (HC2.out _ (hE.q hQ1)) fun w2 hq2=>?_
 have hQ2:=Q.trans hQ1 hq2
 have B2:=B1.keep hq2 B1.lt
 have c0:=B2.cell
 go_wp2_with fail
 clear c0
 refine cx (HL1.out _ (hE.q hQ2)) fun w3 hq3=>?_
 have hQ3:=Q.trans hQ2 hq3
 have B3:=B2.keep hq3 B2.lt
 have c0:=B3.cell
 go_wp2_with fail
 clear c0
 refine cx (HL2.out _ (hE.q hQ3)) fun w4 hq4=>?_
 have hQ4:=Q.trans hQ3 hq4
 have B4:=B3.keep hq4 B3.lt
 have c0:=B4.cell
 go_wp2_with fail
 refine(HH.out _).mono ?_
 rintro e w5⟨rfl,rfl⟩
 go_wp2_with fail
 refine(HS.out _ (hE.q hQ4)).mono ?_
 rintro e w5⟨rfl,rfl⟩
 rw[hs]
 clear hs
 go_wp2_with fail
 refine cx (HN.out _ (hE.q hQ4)) fun w5 hq5=>?_
 have hQ5:=Q.trans hQ4 hq5
 have B5:=B4.keep hq5 B4.lt
 have c0:=B5.cell
 go_wp2
 go_ret
 exact⟨rfl,hQ5⟩
theorem zmf(x:Rat)(l:Nat)(hx:zah x=false)(hx0:x≠0)(k60:zbb x≤60)(hl:zeP l)(hb:Bd 40 (l:Rat))(w:World)(hE:Env w) :
  CR 101 #[.agg #[.string ⟨(ze x).toArray⟩,.string ⟨(Lib.itoa (l:Int)).toArray⟩]] w (.int .i64 0):=by
 by_cases h1:l=1
 ·exact zj6 x l hx hx0 k60 hl hb h1 w hE
 ·exact zif x l hx hx0 k60 hl hb h1 w hE
structure Term1 (x:Rat) (l:Nat):Prop where
 lim:zah x=false
 ne:x≠0
 c60:zbb x≤60
 norm:zeP l
 c40:Bd 40 (l:Rat)
end
end Go.Proofs.YtjnhmfcklodfdaaGreatDoor
namespace Kp
theorem zru{c r l:Nat}(hc:0<c)(h:c*c*l=r*r):∃ t,r=c*t∧l=t*t:=by
 have h1:c*c ∣ r*r:=⟨l,h.symm⟩
 have h2:c ∣ r:=by
  have:=(Nat.pow_dvd_pow_iff (a:=c) (b:=r) (n:=2) (by decide)).1 (by rw[Nat.pow_two,Nat.pow_two];exact h1)
  exact this
 obtain⟨t,ht⟩:=h2
 refine⟨t,ht,?_⟩
 have h3:c*c*l=c*c*(t*t):=by rw[h,ht];grind
 exact Nat.eq_of_mul_eq_mul_left (Nat.mul_pos hc hc) h3
theorem zor{r:Nat}(hr:0<r):za1 (r*r)=(r,1):=by
 obtain⟨a,b,d,f⟩:=zch zC zd8 1 (r*r) (Nat.mul_pos hr hr) (by decide)
 unfold za1
 generalize (zA zC (1,r*r)).1=c at *
 generalize (zA zC (1,r*r)).2=l at *
 obtain⟨t,ht,hl⟩:=zru (r:=r) b (by rw[d];simp)
 have hi:zq l=t:=zew ⟨by omega,by rw[hl];exact Nat.mul_lt_mul_of_lt_of_lt (by omega) (by omega)⟩
 rw[hi,if_pos hl.symm,← ht]
end Kp
namespace Go.Proofs.YtjnhmfcklodfdaaGreatDoor
section
open Kp
theorem zjA(s:Rat)(hs:0<s.num):(1 / s).num=s.den∧(1 / s).den=s.num.toNat:=by
 rw[zuE s hs]
 obtain⟨e1,e2⟩:=zdi (s.den:Int) s.num.toNat (by omega)
 have hg:Nat.gcd (s.den:Int).natAbs s.num.toNat=1:=by
  have h:=s.reduced
  rw[Int.natAbs_natCast,Nat.gcd_comm,show s.num.toNat=s.num.natAbs by omega];exact h
 rw[hg]at e1 e2
 refine⟨by rw[e1];simp,?_⟩
 have:((Rat.divInt (s.den:Int) (s.num.toNat:Int)).den:Int)=(s.num.toNat:Int):=by rw[e2];simp
 omega
theorem zn8(s:Rat)(hs:0<s.num):∃ C L N D:Rat,N≠0∧D≠0∧C*C*L=N*D∧s*D=N∧aOf s=C / D∧aOf (1 / s)=C / N∧(leftOf s:Rat)=L:=by
 have hm:0<s.num.toNat*s.den:=Nat.mul_pos (by omega) s.den_pos
 obtain⟨h1,h2,h3,h4⟩:=zfw hm
 have hd:=s.den_nz
 have hD:(s.den:Rat)≠0:=fun e=>hd (by exact_mod_cast e)
 have hN:(s.num.toNat:Rat)≠0:=fun e=>by
  have:s.num.toNat=0:=by exact_mod_cast e
  omega
 refine⟨((za1 (s.num.toNat*s.den)).1:Rat),(leftOf s:Rat),(s.num.toNat:Rat),(s.den:Rat),hN,hD,?_,?_,?_,?_,rfl⟩
 ·have:=congrArg (Nat.cast (R:=Rat)) h3
  unfold leftOf
  simpa[Rat.natCast_mul]using this
 ·have h5:(s.num:Rat) / ((s.den:Int):Rat)=s:=by rw[← Rat.divInt_eq_div];exact Rat.num_divInt_den s
  rw[Rat.intCast_natCast]at h5
  have h6:((s.num.toNat:Nat):Rat)=(s.num:Rat):=by
   rw[← Rat.intCast_natCast];congr 1;omega
  rw[h6]
  grind
 ·unfold aOf
  rw[Rat.divInt_eq_div,Rat.intCast_natCast,Rat.intCast_natCast]
 ·unfold aOf
  rw[(zjA s hs).1,(zjA s hs).2,Int.toNat_natCast,Nat.mul_comm s.den,Rat.divInt_eq_div,Rat.intCast_natCast,Rat.intCast_natCast]
end
section
open Go.RowKit Kp
theorem zoq:zeP 1:=⟨by decide,zgN⟩
theorem nat_ne{l:Nat}(h:0<l):(l:Rat)≠0:=fun e=>by
 have:l=0:=by exact_mod_cast e
 omega
theorem zcx(x y:Rat)(hx:zR x)(hy:zR y)(w:World) :
  CR 33 #[.string ⟨(ze x).toArray⟩,.string ⟨(ze y).toArray⟩] w (.tuple #[.int .i64 (Lib.compareInt (x.num*y.den) (y.num*x.den)),.int .i64 0]):=by
 have l1:=zaQ (zR.root90 hx).zah
 have l2:=zaQ (zR.root90 hy).zah
 have N1:=LH (fun w=>zJ (ze x) (by omega) w)
 have N2:=LH (fun w=>zJ (ze y) (by omega) w)
 rw[za3 hx]at N1
 rw[za3 hy]at N2
 have b1:=hx.1
 have b2:=hx.2
 have b3:=hy.1
 have b4:=hy.2
 have hd1:(0:Int)<x.den:=by have:=x.den_pos;omega
 have hd2:(0:Int)<y.den:=by have:=y.den_pos;omega
 have p1:(x.num*(y.den:Int)).natAbs<10000000000000000:=by
  rw[Int.natAbs_mul,Int.natAbs_natCast]
  have:=Nat.mul_lt_mul'' b1 b4
  omega
 have p2:(y.num*(x.den:Int)).natAbs<10000000000000000:=by
  rw[Int.natAbs_mul,Int.natAbs_natCast]
  have:=Nat.mul_lt_mul'' b3 b2
  omega
 generalize (x.den:Int)=xd at *
 generalize (y.den:Int)=yd at *
 generalize x.num=xn at *
 generalize y.num=yn at *
 generalize ze x=X at *
 generalize ze y=Y at *
 have q1:-10000000000000000<xn*yd:=by omega
 have q2:xn*yd<10000000000000000:=by omega
 have q3:-10000000000000000<yn*xd:=by omega
 have q4:yn*xd<10000000000000000:=by omega
 clear p1 p2 b1 b2 b3 b4 hx hy l1 l2
 go_enter Tryz.func33,Tryz.ntmps33
 go_wp2_with fail
 refine cx (N1.out _) fun w1 hq1=>?_
 go_wp2_with fail
 refine cx (N2.out _) fun w2 hq2=>?_
 have hQ2:Q w w2:=Q.trans hq1 (Q.trans ((Below.refl _ w1).alloc (Nat.le_refl _) _) hq2)
 have B1:=(Blk.new w1 [.int .i64 xn,.int .i64 xd] 112).keep hq2 (by simp)
 have l1:=B1.lt
 have c0:=B1.cell
 go_wp2_with fail
 refine(Tryz.cmp_Compare_int _ _ _).mono ?_
 rintro e w3⟨rfl,rfl⟩
 go_wp2
 go_ret2
 exact⟨rfl,hQ2.alloc hQ2.size _⟩
theorem ze5(x y:Rat)(hx:zah x=false)(hy:zah y=false)(hs:¬ (zR x∧zR y))(h1:lim (x.num*y.den)=false)(h2:lim (y.num*(x.den:Int))=false)(w:World)(hE:Env w) :
  CR 33 #[.string ⟨(ze x).toArray⟩,.string ⟨(ze y).toArray⟩] w (.tuple #[.int .i64 (Lib.compareInt (x.num*y.den) (y.num*x.den)),.int .i64 0]):=by
 have l1:=zaQ hx
 have l2:=zaQ hy
 have hor:=zbu hs
 have N1:=LH (fun w=>zJ (ze x) (by omega) w)
 have N2:=LH (fun w=>zJ (ze y) (by omega) w)
 have R1:=LH (fun w hw=>zan x hx w hw)
 have R2:=LH (fun w hw=>zan y hy w hw)
 have C:=LH (fun w hw=>zbB x.num (x.den:Int) y.num (y.den:Int) (zw hx).1 (zw hx).2 (zw hy).1 (zw hy).2 h1 h2 w hw)
 have K:=LH (fun w=>za9 (x.num*y.den) (y.num*(x.den:Int)) h1 h2 w)
 clear hx hy hs h1 h2 l1 l2
 generalize Lib.compareInt (x.num*y.den) (y.num*(x.den:Int))=ans at *
 cases hn:zcz (ze x)with
 | none =>
  rw[zdo hn]at N1
  clear hn hor N2
  generalize Lib.itoa x.num=XN at *
  generalize Lib.itoa (x.den:Int)=XD at *
  generalize Lib.itoa y.num=YN at *
  generalize Lib.itoa (y.den:Int)=YD at *
  go_enter Tryz.func33,Tryz.ntmps33
  go_wp2_with fail
  refine cx (N1.out _) fun w1 hq1=>?_
  have hQ1:=hq1.alloc hq1.size (.cells #[.int .i64 0,.int .i64 0] 112)
  go_wp2_with fail
  refine cx (R1.out _ (hE.q hQ1)) fun w2 hq2=>?_
  have hQ2:=Q.trans hQ1 hq2
  have hQ2':=hQ2.alloc hQ2.size (.cells #[.string ⟨XN.toArray⟩,.string ⟨XD.toArray⟩] 116)
  have X0:=Blk.new w2 [.string ⟨XN.toArray⟩,.string ⟨XD.toArray⟩] 116
  go_wp2_with fail
  refine cx (R2.out _ (hE.q hQ2')) fun w3 hq3=>?_
  have hQ3:=Q.trans hQ2' hq3
  have hQ3':=hQ3.alloc hQ3.size (.cells #[.string ⟨YN.toArray⟩,.string ⟨YD.toArray⟩] 116)
  have X1:=X0.keep hq3 X0.lt
  have c0:=X1.cell
  have lx:=X1.lt
  go_wp2_with fail
  refine cx (C.out _ (hE.q hQ3')) fun w4 hq4=>?_
  have hQ4:=Q.trans hQ3' hq4
  clear c0 lx X0 X1
  go_wp2_with fail
  refine cx (K.out _) fun w5 hq5=>?_
  have hQ5:=Q.trans hQ4 hq5
  go_wp2
  go_ret2
  exact⟨rfl,hQ5⟩
 | some nd =>
  obtain⟨n,d⟩:=nd
  rw[zeu hn]at N1
  have hy2:zcz (ze y)=none:=by
   rcases hor with h | h
   ·rw[h]at hn;cases hn
   ·exact h
  rw[zdo hy2]at N2
  clear hn hor hy2
  generalize Lib.itoa x.num=XN at *
  generalize Lib.itoa (x.den:Int)=XD at *
  generalize Lib.itoa y.num=YN at *
  generalize Lib.itoa (y.den:Int)=YD at *
  go_enter Tryz.func33,Tryz.ntmps33
  go_wp2_with fail
  refine cx (N1.out _) fun w1 hq1=>?_
  have hQ1:=hq1.alloc hq1.size (.cells #[.int .i64 n,.int .i64 d] 112)
  go_wp2_with fail
  refine cx (N2.out _) fun w2 hq2=>?_
  have hQ2:=Q.trans hQ1 hq2
  have hQ2':=hQ2.alloc hQ2.size (.cells #[.int .i64 0,.int .i64 0] 112)
  go_wp2_with fail
  refine cx (R1.out _ (hE.q hQ2')) fun w3 hq3=>?_
  have hQ3:=Q.trans hQ2' hq3
  have hQ3':=hQ3.alloc hQ3.size (.cells #[.string ⟨XN.toArray⟩,.string ⟨XD.toArray⟩] 116)
  have X0:=Blk.new w3 [.string ⟨XN.toArray⟩,.string ⟨XD.toArray⟩] 116
  go_wp2_with fail
  refine cx (R2.out _ (hE.q hQ3')) fun w4 hq4=>?_
  have hQ4:=Q.trans hQ3' hq4
  have hQ4':=hQ4.alloc hQ4.size (.cells #[.string ⟨YN.toArray⟩,.string ⟨YD.toArray⟩] 116)
  have X1:=X0.keep hq4 X0.lt
  have c0:=X1.cell
  have lx:=X1.lt
  go_wp2_with fail
  refine cx (C.out _ (hE.q hQ4')) fun w5 hq5=>?_
  have hQ5:=Q.trans hQ4' hq5
  clear c0 lx X0 X1
  go_wp2_with fail
  refine cx (K.out _) fun w6 hq6=>?_
  have hQ6:=Q.trans hQ5 hq6
  go_wp2
  go_ret2
  exact⟨rfl,hQ6⟩
theorem zim(x y:Rat)(hx:zah x=false)(hy:zah y=false)(h1:lim (x.num*y.den)=false)(h2:lim (y.num*(x.den:Int))=false)(w:World)(hE:Env w) :
  CR 33 #[.string ⟨(ze x).toArray⟩,.string ⟨(ze y).toArray⟩] w (.tuple #[.int .i64 (Lib.compareInt (x.num*y.den) (y.num*x.den)),.int .i64 0]):=by
 by_cases hs:zR x∧zR y
 ·exact zcx x y hs.1 hs.2 w
 ·exact ze5 x y hx hy hs h1 h2 w hE
theorem zbW(l m:Nat)(hl:lim (l:Int)=false)(hm:lim (m:Int)=false)(w:World)(hE:Env w) :
  CR 33 #[.string ⟨(Lib.itoa (l:Int)).toArray⟩,.string ⟨(Lib.itoa (m:Int)).toArray⟩] w (.tuple #[.int .i64 (Lib.compareInt l m),.int .i64 0]):=by
 have hr:∀ n:Nat,lim (n:Int)=false→zah (n:Rat)=false:=fun n hn=>by unfold zah;rw[Rat.num_natCast,Rat.den_natCast,hn];exact zf9
 have h:=zim (l:Rat) (m:Rat) (hr l hl) (hr m hm) (by rw[Rat.num_natCast,Rat.den_natCast];simpa using hl) (by rw[Rat.num_natCast,Rat.den_natCast];simpa using hm) w hE
 rw[zbf,zbf,Rat.num_natCast,Rat.num_natCast,Rat.den_natCast,Rat.den_natCast,show ((1:Nat):Int)=1 from rfl,Int.mul_one,Int.mul_one]at h
 exact h
def zdg(q:Rat):Bool:=decide (zq q.num.toNat*zq q.num.toNat=q.num.toNat) && decide (zq q.den*zq q.den=q.den)
def sqR(q:Rat):Rat:=Rat.divInt (zq q.num.toNat:Int) (zq q.den:Int)
theorem zmT{n:Nat}(h:0<n):0<zq n:=by
 have:=(zdf n).2
 rcases Nat.eq_zero_or_pos (zq n)with h0 | h0
 ·rw[h0]at this;omega
 ·exact h0
theorem zjz{n:Nat}(h:lim (n:Int)=false):lim (zq n:Int)=false:=zce h (by have:=zgW n;omega)
theorem zi0(q:Rat)(h:zah q=false)(hp:0≤q.num)(w:World)(hE:Env w) :
  CR 163 #[.agg #[.string ⟨(Lib.itoa q.num).toArray⟩,.string ⟨(Lib.itoa (q.den:Int)).toArray⟩]] w (.tuple #[.string ⟨(if zdg q then ze (sqR q)else []).toArray⟩,.bool (zdg q)]):=by
 have hn:q.num=(q.num.toNat:Int):=by omega
 have l1:=(zw h).1
 have l2:=(zw h).2
 rw[hn]at l1
 have E1:=LH (fun w hw=>zhm q.num.toNat l1 w hw)
 have E2:=LH (fun w hw=>zhm q.den l2 w hw)
 have F:=LH (fun w hw=>zem (zq q.num.toNat:Int) (zq q.den:Int) (zjz l1) (zjz l2) (by have:=zmT q.den_pos;omega) w hw)
 unfold zdg sqR
 rw[hn,Int.toNat_natCast]
 generalize ze (Rat.divInt (zq q.num.toNat:Int) (zq q.den:Int))=R at *
 generalize decide (zq q.num.toNat*zq q.num.toNat=q.num.toNat)=b1 at *
 generalize decide (zq q.den*zq q.den=q.den)=b2 at *
 generalize Lib.itoa (zq q.num.toNat:Int)=S1 at *
 generalize Lib.itoa (zq q.den:Int)=S2 at *
 generalize Lib.itoa (q.num.toNat:Int)=N at *
 generalize Lib.itoa (q.den:Int)=D at *
 clear hn l1 l2 h hp
 go_enter Tryz.func163,Tryz.ntmps163
 have T:=Blk.new w [.string ⟨N.toArray⟩,.string ⟨D.toArray⟩] 220
 have hQ0:Q w (w.alloc (.cells [.string ⟨N.toArray⟩,.string ⟨D.toArray⟩].toArray 220)):=(Below.refl _ w).alloc (Nat.le_refl _) _
 go_wp2_with fail
 refine cx (E1.out _ (hE.q hQ0)) fun w1 hq1=>?_
 have hQ1:=Q.trans hQ0 hq1
 have T1:=T.keep hq1 T.lt
 have c1:=T1.cell 1
 simp only[zs4,zs5]at c1
 go_wp2_with fail
 clear c1 T T1
 refine cx (E2.out _ (hE.q hQ1)) fun w2 hq2=>?_
 have hQ2:=Q.trans hQ1 hq2
 cases b1 with
 | false =>
  go_wp2
  go_ret2
  exact⟨rfl,hQ2⟩
 | true =>
  cases b2 with
  | false =>
   go_wp2
   go_ret2
   exact⟨rfl,hQ2⟩
  | true =>
   go_wp2_with fail
   refine cx (F.out _ (hE.q hQ2)) fun w3 hq3=>?_
   have hQ3:=Q.trans hQ2 hq3
   go_wp2
   go_ret2
   exact⟨rfl,hQ3⟩
def zW(x:Rat)(l P:Nat):Nat:=x.num.natAbs*x.num.natAbs*l*10 ^ (2*P)
def zh8(x:Rat)(l P:Nat):Nat :=
 if zq (zW x l P)*zq (zW x l P)=zW x l P∧zq (zW x l P) % x.den=0 then zq (zW x l P) / x.den else zq (zW x l P) / x.den+1
def zc3(x:Rat)(l P:Nat):Int:=if 0≤x.num then((zq (zW x l P) / x.den:Nat):Int)else -((zh8 x l P:Nat):Int)
theorem ziz(q:Rat):(-q).num = -q.num:=rfl
theorem zlh(q:Rat):(-q).den=q.den:=rfl
theorem zpP{x:Rat}(h:0≤x.num)(l P:Nat):zc3 x l P=((zq (zW x l P) / x.den:Nat):Int):=if_pos h
theorem zpQ{x:Rat}(h:x.num<0)(l P:Nat):zc3 x l P = -((zh8 x l P:Nat):Int):=if_neg (by omega)
theorem zqp{a b:Nat}:a*a<b*b ↔ a<b:=Nat.mul_self_lt_mul_self_iff
def zb2:List (Rat × Nat)→Nat→Int
 | [],_=>0
 | t::r,P=>zc3 t.1 t.2 P+zb2 r P
def zdM(n:Nat)(F:Int)(last:Bool):Option Int:=if 0<F then some 1 else if F+n<0∨(F+n=0∧last=true)then some (-1)else none
def zux(a b c:Option Int):Option Int:=match a with
 | some k=>some k
 | none=>match b with
  | some k=>some k
  | none=>c
def zqt(ts:List (Rat × Nat)):Option Int :=
 if ts=[]then some 0 else zux (zdM ts.length (zb2 ts 4) false) (zdM ts.length (zb2 ts 16) false) (zdM ts.length (zb2 ts 64) true)
theorem zjo(x:Rat):x*(x.den:Rat)=(x.num:Rat):=by
 have hd:(x.den:Rat)≠0:=nat_ne x.den_pos
 have h:(x.num:Rat) / (x.den:Rat)=x:=by
  conv=>rhs;rw[← Rat.num_divInt_den x,Rat.divInt_eq_div]
  rfl
 conv=>lhs;lhs;rw[← h]
 exact Rat.div_mul_cancel hd
def zgL(low high:Rat × Nat):Rat × Nat:=(low.1+high.1*sqR ((high.2:Rat) / (low.2:Rat)),low.2)
def zek:List (Rat × Nat)→Rat × Nat→List (Rat × Nat)
 | [],t=>[t]
 | c::r,t=>if zdg ((t.2:Rat) / (c.2:Rat))then(if t.2<c.2 then zgL t c else zgL c t)::r else c::zek r t
def zeH(cs:List (Rat × Nat)):List (Rat × Nat):=cs.filter fun c=>decide (c.1≠0)
def zgj:List (Rat × Nat)→List (Rat × Nat)
 | [a,b]=>if b.2<a.2 then [b,a]else [a,b]
 | l=>l
theorem zpi{l m:Nat}(hl:0<l)(hm:0<m):0<((m:Rat) / (l:Rat)).num∧(l:Rat) / (m:Rat)=1 / ((m:Rat) / (l:Rat)):=by
 constructor
 ·rw[← Rat.div_is,Rat.num_natCast,Rat.num_natCast,Rat.den_natCast,Rat.den_natCast]
  have:=zdW (z:=(m:Int)) (k:=l) (by omega) hl
  simpa using this
 ·have h1:=nat_ne hl
  have h2:=nat_ne hm
  generalize (l:Rat)=a at *
  generalize (m:Rat)=b at *
  grind
theorem zoB{l m:Nat}(hl:0<l)(hm:0<m)(h:zdg ((m:Rat) / (l:Rat))=true):zdg ((l:Rat) / (m:Rat))=true:=by
 obtain⟨h1,h2⟩:=zpi hl hm
 rw[h2]
 generalize (m:Rat) / (l:Rat)=q at *
 obtain⟨e1,e2⟩:=zjA q h1
 unfold zdg at h ⊢
 rw[e1,e2,Int.toNat_natCast,Bool.and_comm]
 exact h
theorem ziE{n b:Nat}(h:n<b*b):zq n<b:=by
 have:=(zdf n).1
 exact zqp.1 (by omega)
theorem ztw{l m n:Nat}(hl:0<l)(hl1:l<10 ^ n)(hm:m<10 ^ n):Bd n ((m:Rat) / (l:Rat)):=by
 rw[← Rat.div_is,Rat.num_natCast,Rat.num_natCast,Rat.den_natCast,Rat.den_natCast,show (m:Int)*((1:Nat):Int)=m by simp,show (l:Int)*((1:Nat):Int)=l by simp]
 exact zcX hl (by rw[Int.natAbs_natCast];exact hm) hl1
theorem zus{q:Rat}{n:Nat}(h:Bd (n+n) q):Bd n (sqR q):=by
 unfold sqR
 have h1:=h.1
 have h2:=h.2
 rw[Nat.pow_add]at h1 h2
 exact zcX (zmT q.den_pos) (by rw[Int.natAbs_natCast];exact ziE (by omega)) (ziE h2)
def zcg(l:List (Str × Str)):List Value:=l.flatMap fun p=>[.string ⟨p.1.toArray⟩,.string ⟨p.2.toArray⟩]
theorem zrY:zcg []=[]:=rfl
theorem zdk(p:Str × Str)(l:List (Str × Str)):zcg (p::l)=.string ⟨p.1.toArray⟩::.string ⟨p.2.toArray⟩::zcg l:=rfl
theorem zgv(l:List (Str × Str)):(zcg l).length=l.length*2:=by
 induction l with
 | nil=>rfl
 | cons p l ih=>rw[zdk];simp only[List.length_cons,ih];omega
theorem zgx(a b:List (Str × Str)):zcg (a++b)=zcg a++zcg b:=by unfold zcg;rw[List.flatMap_append]
theorem zgw:∀ (l:List (Str × Str)) (i:Nat),i<l.length→(zcg l)[i*2]? = some (.string ⟨(l.getD i ([],[])).1.toArray⟩)∧(zcg l)[i*2+1]? = some (.string ⟨(l.getD i ([],[])).2.toArray⟩)
 | [],i,h=>absurd h (by simp)
 | p::l,0,_=>⟨rfl,rfl⟩
 | p::l,i+1,h=>by
  have:=zgw l i (by simpa using h)
  rw[zdk,show (i+1)*2=i*2+2 by omega,show i*2+2+1=i*2+1+2 by omega]
  simpa using this
theorem zlf:∀ (l:List (Str × Str)) (i:Nat) (p:Str × Str),((zcg l).set (i*2) (.string ⟨p.1.toArray⟩)).set (i*2+1) (.string ⟨p.2.toArray⟩)=zcg (l.set i p)
 | [],i,p=>by simp[zrY]
 | q::l,0,p=>by rw[List.set_cons_zero,zdk,zdk];rfl
 | q::l,i+1,p=>by
  have:=zlf l i p
  rw[List.set_cons_succ,zdk,zdk,show (i+1)*2=i*2+2 by omega,show i*2+2+1=i*2+1+2 by omega,← this]
  rfl
theorem zgu:∀ (l:List (Str × Str)),∀ u∈zcg l,u.oneCell'=true
 | [],u,h=>by cases h
 | p::l,u,h=>by
  rw[zdk,List.mem_cons,List.mem_cons]at h
  rcases h with rfl | rfl | h
  ·rfl
  ·rfl
  ·exact zgu l u h
def TSl(w:World)(B:Nat)(v:Value)(l:List (Str × Str)):Prop :=
 ∃ a cap,v=.slice a l.length cap∧B≤w.heap.size∧∀ i,i<l.length→∃ b o,a=some ⟨b,o,none⟩∧b<B ∧
  w.cell? ⟨b,o+i*2,none⟩=some (.string ⟨(l.getD i ([],[])).1.toArray⟩)∧w.cell? ⟨b,o+i*2+1,none⟩=some (.string ⟨(l.getD i ([],[])).2.toArray⟩)
theorem TSl.keep{w w':World}{B B':Nat}{v:Value}{l:List (Str × Str)}(h:TSl w B v l)(hb:Below B' w w')(hB:B≤B'):TSl w' B v l:=by
 obtain⟨a,cap,rfl,hs,hc⟩:=h
 refine⟨a,cap,rfl,Nat.le_trans hs hb.size,fun i hi=>?_⟩
 obtain⟨b,o,ha,hbb,c0,c1⟩:=hc i hi
 exact⟨b,o,ha,hbb,(hb.cell (p:=⟨b,o+i*2,none⟩) (show b<B' by omega)).trans c0,(hb.cell (p:=⟨b,o+i*2+1,none⟩) (show b<B' by omega)).trans c1⟩
theorem TSl.of_row{w:World}{base:Nat}{t:TypeId}{v:Value}{l:List (Str × Str)}(h:w.ownsRow base t 2 v l.length (zcg l)):TSl w w.heap.size v l:=by
 rcases Nat.eq_zero_or_pos l.length with h0 | h0
 ·rcases h.2 with⟨hv,_⟩|⟨g,cap,cur,hv,_,hg,_⟩
  ·exact⟨none,0,by rw[hv,h0],Nat.le_refl _,fun i hi=>by omega⟩
  ·exact⟨some ⟨g,0,none⟩,cap,hv,Nat.le_refl _,fun i hi=>by omega⟩
 ·obtain⟨g,cap,rfl,hb,hg⟩:=h.form h0
  refine⟨_,cap,rfl,Nat.le_refl _,fun i hi=>⟨g,0,rfl,hg,?_,?_⟩⟩
  ·rw[h.cellAt _ (by omega),Nat.zero_add];exact(zgw l i hi).1
  ·rw[h.cellAt _ (by omega),Nat.zero_add];exact(zgw l i hi).2
def ofT(t:Rat × Rat):Str × Str:=(ze t.1,ze t.2)
def ofC(c:Rat × Nat):Str × Str:=(ze c.1,Lib.itoa (c.2:Int))
def zod(w:World)(G:Nat)(cs:List (Rat × Nat)):Prop :=
 ∃ v,Blk w G [v] 123∧(cs=[]→v=.slice none 0 0)∧w.ownsRow (G+1) 127 2 v (cs.map ofC).length (zcg (cs.map ofC))
theorem zod.keep{w w':World}{G:Nat}{cs:List (Rat × Nat)}(h:zod w G cs)(hq:Q w w'):zod w' G cs:=by
 obtain⟨v,h1,h2,h3⟩:=h
 exact⟨v,h1.keep hq h1.lt,h2,zn h3 hq⟩
theorem zod.start{w:World}{G:Nat}(h:Blk w G [.slice none 0 0] 123):zod w G []:=⟨_,h,fun _=>rfl,World.ownsRow_nil _ _ _ _⟩
theorem zcY.two{w:World}{b:Nat}{s1 s2:Str}{t:TypeId}(h:Blk w b [.string ⟨s1.toArray⟩,.string ⟨s2.toArray⟩] t):zcY w (.slice (some ⟨b,0,none⟩) 2 2) [s1,s2]:=by
 refine⟨b,0,2,rfl,h.lt,?_⟩
 intro i hi
 rcases(show i=0∨i=1 by simp at hi;omega)with rfl | rfl
 ·exact h.cell 0
 ·exact h.cell 1
theorem zqO{p q:Rat}(pq:0<q.num):p / q=Rat.divInt (p.num*q.den) ((q.num.toNat*p.den:Nat):Int):=by
 rw[← Rat.div_is,Int.natCast_mul,Int.toNat_of_nonneg (by omega)]
theorem zer{p q:Rat}(pp:0≤p.num)(pq:0<q.num):0≤(p / q).num:=by
 rw[zqO pq]
 obtain⟨e1,-⟩:=zdi (p.num*q.den) (q.num.toNat*p.den) (Nat.mul_pos (by omega) p.den_pos)
 rw[e1]
 have h0:0≤p.num*(q.den:Int):=Int.mul_nonneg pp (by omega)
 rw[Int.tdiv_eq_ediv_of_nonneg h0]
 exact Int.ediv_nonneg h0 (Int.natCast_nonneg _)
theorem Bd.quot{m n:Nat}{p q:Rat}(hp:Bd m p)(hq:Bd n q)(pq:0<q.num):Bd (m+n) (p / q):=by
 rw[zqO pq]
 refine zcX (Nat.mul_pos (by omega) p.den_pos) (zct hp hq) ?_
 have h1:q.num.toNat<10 ^ n:=by have:=hq.1;omega
 have:=Nat.mul_lt_mul'' h1 hp.2
 rw[Nat.add_comm,Nat.pow_add];exact this
theorem zpe(p q:Rat)(hp:Bd 80 p)(hq:Bd 80 q)(pp:0≤p.num)(pq:0<q.num)(w:World)(hE:Env w) :
  CR 104 #[.string ⟨(ze p).toArray⟩,.string ⟨(ze q).toArray⟩] w (.tuple #[.string ⟨(if zdg (p / q)then ze (sqR (p / q))else []).toArray⟩,.bool (zdg (p / q)),.int .i64 0]):=by
 have hz:(ze q == [48])=false:=by
  rw[beq_eq_false_iff_ne,← zaS];exact fun h=>by have:=zaB h;subst this;exact absurd pq (by decide)
 have bq:=hp.quot hq pq
 have hlq:zah (p / q)=false:=bq.zah (by decide)
 have HC:=fun v1 v2 w hw h1 h2=>zfu [p,q] [p,q] (by intro x hx;rw[List.mem_cons,List.mem_singleton]at hx;rcases hx with rfl | rfl;exact hp.root90 (by decide);exact hq.root90 (by decide)) v1 v2 w hw h1 h2 (by simp) (by simp)
 rw[if_pos (by intro x hx;rw[List.mem_cons,List.mem_singleton]at hx;rcases hx with rfl | rfl <;> omega)]at HC
 have HC:=LH HC
 have HD:=LH (fun w hw=>zcl p q hp hq (by omega) (by decide) w hw)
 have HO:=LH (fun w hw=>zhk (p / q) hlq w hw)
 have HR:=LH (fun w hw=>zi0 (p / q) hlq (zer pp pq) w hw)
 generalize (⟨(if zdg (p / q)then ze (sqR (p / q))else []).toArray⟩:ByteArray)=A at *
 generalize zdg (p / q)=b at *
 generalize ze (p / q)=PQ at *
 generalize Lib.itoa (p / q).num=N at *
 generalize Lib.itoa ((p / q).den:Int)=D at *
 clear hp hq pp pq bq hlq
 generalize hsp:ze p=P at *
 generalize hsq:ze q=S at *
 go_enter Tryz.func104,Tryz.ntmps104
 go_wp2_with fail
 have B1:=((Blk.new w [.string ⟨P.toArray⟩,.string ⟨S.toArray⟩] 22).alloc (.cells #[.string ⟨P.toArray⟩,.string ⟨S.toArray⟩] 22))
 have B2:=Blk.new (w.alloc (.cells #[.string ⟨P.toArray⟩,.string ⟨S.toArray⟩] 22)) [.string ⟨P.toArray⟩,.string ⟨S.toArray⟩] 22
 have S1:=zcY.two B1
 have S2:=zcY.two B2
 have e2:(w.alloc (.cells #[.string ⟨P.toArray⟩,.string ⟨S.toArray⟩] 22)).heap.size=w.heap.size+1:=by simp
 rw[e2]at S2
 clear e2 B2 B1
 simp only[List.map_cons,List.map_nil,hsp,hsq]at HC
 refine(HC.out _ _ _ (hE.q bt) S1 S2).mono ?_
 clear S1 S2
 rintro e w1⟨rfl,hq1⟩
 have hQ1:Q w w1:=Q.trans (show Below w.heap.size w _ from bt) hq1
 clear hq1
 go_wp2_with fail
 refine cx (HD.out _ (hE.q hQ1)) fun w2 hq2=>?_
 have hQ2:=Q.trans hQ1 hq2
 go_wp2_with fail
 refine cx (HO.out _ (hE.q hQ2)) fun w3 hq3=>?_
 have hQ3:=Q.trans hQ2 hq3
 go_wp2_with fail
 refine cx (HR.out _ (hE.q hQ3)) fun w4 hq4=>?_
 have hQ4:=Q.trans hQ3 hq4
 go_wp2
 go_ret3
 exact⟨rfl,hQ4⟩
theorem zj9(l m:Nat)(hl:0<l)(hl1:l<10 ^ 80)(hm:0<m)(hm1:m<10 ^ 80)(w:World)(hE:Env w) :
  CR 104 #[.string ⟨(Lib.itoa (m:Int)).toArray⟩,.string ⟨(Lib.itoa (l:Int)).toArray⟩] w (.tuple #[.string ⟨(if zdg ((m:Rat) / (l:Rat))then ze (sqR ((m:Rat) / (l:Rat)))else []).toArray⟩,.bool (zdg ((m:Rat) / (l:Rat))),.int .i64 0]):=by
 have hb:∀ n:Nat,n<10 ^ 80→Bd 80 (n:Rat):=fun n hn=>⟨by rw[Rat.num_natCast,Int.natAbs_natCast];exact hn,by rw[Rat.den_natCast];exact by decide⟩
 have h:=zpe (m:Rat) (l:Rat) (hb m hm1) (hb l hl1) (by rw[Rat.num_natCast];omega) (by rw[Rat.num_natCast];omega) w hE
 rw[zbf,zbf]at h
 exact h
theorem zlj(tmps:Array Value)(W:World)(b:Nat)(x y u:Value)(hp:tmps.getD 4 undef=.pointer (some ⟨b,0,none⟩))(hu:tmps.getD 5 undef=u)
  (c0:W.cell? ⟨b,0,none⟩=some x)(c1:W.cell? ⟨b,1,none⟩=some y) :
  (results Tryz.f116 tmps).run Tryz.prog W=.ok (.tuple #[.agg #[x,y],u]) W:=by
 simp only[Array.getD_eq_getD_getElem?]at hp hu
 simp[results,Tryz.results116,go_sem,hp,hu,c0,c1]
theorem zrH:∀ (cs:List (Rat × Nat)) (t:Rat × Nat) (k:Nat) (hk:k<cs.length),(∀ j (hj:j<k),zdg ((t.2:Rat) / ((cs[j]'(by omega)).2:Rat))=false)→zdg ((t.2:Rat) / ((cs[k]).2:Rat))=true →
  zek cs t=cs.set k (if t.2<(cs[k]).2 then zgL t cs[k]else zgL cs[k] t)
 | [],_,_,hk,_,_=>absurd hk (by simp)
 | c::r,t,0,_,_,h=>by
  unfold zek
  exact if_pos (show zdg ((t.2:Rat) / (c.2:Rat))=true from h)
 | c::r,t,k+1,hk,h1,h=>by
  have h0:=h1 0 (by omega)
  simp only[List.getElem_cons_zero]at h0
  unfold zek
  rw[if_neg (by rw[h0];decide),zrH r t k (by simpa using hk) (fun j hj=>by have:=h1 (j+1) (by omega);simpa using this) (by simpa using h)]
  rfl
theorem zoP:∀ (cs:List (Rat × Nat)) (t:Rat × Nat),(∀ j (hj:j<cs.length),zdg ((t.2:Rat) / ((cs[j]).2:Rat))=false)→zek cs t=cs++[t]
 | [],_,_=>rfl
 | c::r,t,h1=>by
  have h0:=h1 0 (by simp)
  simp only[List.getElem_cons_zero]at h0
  unfold zek
  rw[if_neg (by rw[h0];decide),zoP r t (fun j hj=>by have:=h1 (j+1) (by simp;omega);simpa using this)]
  rfl
theorem zoN{w:World}{G g cap k:Nat}{cs rs:List (Rat × Nat)}{p:Str × Str}(hG:Blk w G [.slice (some ⟨g,0,none⟩) cs.length cap] 123)(hr:w.ownsRow (G+1) 127 2 (.slice (some ⟨g,0,none⟩) cs.length cap) cs.length (zcg (cs.map ofC)))
  (hs:zcg (rs.map ofC)=((zcg (cs.map ofC)).set (k*2) (.string ⟨p.1.toArray⟩)).set (k*2+1) (.string ⟨p.2.toArray⟩)∧rs.length=cs.length)(hne:rs≠[])(hgG:G≠g) :
  zod ((w.setCell ⟨g,k*2,none⟩ (.string ⟨p.1.toArray⟩)).setCell ⟨g,k*2+1,none⟩ (.string ⟨p.2.toArray⟩)) G rs:=by
 refine⟨_,(hG.setOther (Ne.symm hgG) _ _).setOther (Ne.symm hgG) _ _,fun e=>absurd e hne,?_⟩
 rw[hs.1,List.length_map,hs.2]
 exact((hr.stored (k*2) _).1.stored (k*2+1) _).1
theorem znZ{w w1:World}{G T g n cap:Nat}{o x y:Value}(hg:w.grownBy w1 (Value.slice (some ⟨g,0,none⟩) n cap).ownBlock)(hG:G<w.heap.size)(hT:T<w.heap.size)(hne:G≠T)(hGg:G≠g)(hTg:T≠g)(c:w.cell? ⟨G,0,none⟩=some o)
  (d0:w.cell? ⟨T,0,none⟩=some x)(d1:w.cell? ⟨T,1,none⟩=some y)(kf:w.frozen? ⟨G,0,none⟩=false) :
  w1.cell? ⟨G,0,none⟩=some o∧∀ v,(w1.setCell ⟨G,0,none⟩ v).cell? ⟨T,0,none⟩=some x∧(w1.setCell ⟨G,0,none⟩ v).cell? ⟨T,1,none⟩=some y∧(w1.setCell ⟨G,0,none⟩ v).frozen? ⟨G,0,none⟩=false:=by
 have n1:some G≠(Value.slice (some ⟨g,0,none⟩) n cap).ownBlock:=fun e=>hGg (Option.some.inj e)
 have n2:some T≠(Value.slice (some ⟨g,0,none⟩) n cap).ownBlock:=fun e=>hTg (Option.some.inj e)
 refine⟨(hg.cell_far ⟨G,0,none⟩ hG n1).trans c,fun v=>⟨?_,?_,?_⟩⟩
 ·exact(World.cell?_setCell_other w1 ⟨G,0,none⟩ ⟨T,0,none⟩ v (by intro h;exact hne (congrArg Addr.block h))).trans ((hg.cell_far ⟨T,0,none⟩ hT n2).trans d0)
 ·exact(World.cell?_setCell_other w1 ⟨G,0,none⟩ ⟨T,1,none⟩ v (by simp)).trans ((hg.cell_far ⟨T,1,none⟩ hT n2).trans d1)
 ·rw[World.frozen?_setCell];exact(hg.frozen_far ⟨G,0,none⟩ hG n1).trans kf
theorem zp2{w W w1:World}{G g n cap g4 cap4:Nat}{s1 s2:Str}{xs:List Value}{rs:List (Rat × Nat)}(hG:Blk W G [.slice (some ⟨g,0,none⟩) n cap] 123)(hgrow:W.drew.grownBy w1 (Value.slice (some ⟨g,0,none⟩) n cap).ownBlock)
  (hown:w1.ownsRow (G+1) 127 2 (.slice (some ⟨g4,0,none⟩) (n+1) cap4) (n+1) (xs++[.string ⟨s1.toArray⟩,.string ⟨s2.toArray⟩]))(hB:Below G w W.drew)(hl:G<W.drew.heap.size)(hGg:G<g)
  (hr:zcg (rs.map ofC)=xs++[.string ⟨s1.toArray⟩,.string ⟨s2.toArray⟩]∧rs.length=n+1)(hne:rs≠[]) :
  Below G w (w1.setCell ⟨G,0,none⟩ (.slice (some ⟨g4,0,none⟩) (n+1) cap4))∧zod (w1.setCell ⟨G,0,none⟩ (.slice (some ⟨g4,0,none⟩) (n+1) cap4)) G rs:=by
 have n1:some G≠(Value.slice (some ⟨g,0,none⟩) n cap).ownBlock:=fun e=>by
  have:=Option.some.inj e
  simp only at this;omega
 have bG:Blk w1 G [.slice (some ⟨g,0,none⟩) n cap] 123:=(hgrow.block G hl n1).trans hG
 have hb2:Below G w w1:=hB.grown hgrow (Nat.le_of_lt hl) (fun k hk=>by cases hk;exact Nat.le_of_lt hGg)
 refine⟨hb2.setCell (p:=⟨G,0,none⟩) (Nat.le_refl _) _,_,bG.set 0 _,fun e=>absurd e hne,?_⟩
 rw[hr.1,List.length_map,hr.2]
 exact ownsRow_setCell_below hown (by simp) _
theorem zgT{n:Nat}(h:n<10 ^ 80):lim (n:Int)=false:=za8 (n:=80) (by rw[Int.natAbs_natCast];exact h) (by decide)
theorem zoQ:∀ (cs:List (Rat × Nat)) (t:Rat × Nat),(zek cs t).length≤cs.length+1
 | [],_=>by simp[zek]
 | c::r,t=>by
  unfold zek
  have:=zoQ r t
  split <;> simp <;> omega
theorem zhx:leftOf 1=1:=by unfold leftOf;rw[show ((1:Rat)).num.toNat*((1:Rat)).den=1 from rfl,zgN]
end
end Go.Proofs.YtjnhmfcklodfdaaGreatDoor
