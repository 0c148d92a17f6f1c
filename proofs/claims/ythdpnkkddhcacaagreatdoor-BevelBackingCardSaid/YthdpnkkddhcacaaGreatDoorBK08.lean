/-
  CD CE CF SqM CG CH LSquares, one behind the other (what SD leaves).; RA RM RO RP RR RB RD RC, one behind the other.
-/
import Derived.Test.YthdpnkkddhcacaaGreatDoorBKSD
set_option maxRecDepth 100000
set_option maxHeartbeats 2000000
namespace Go.Proofs.YthdpnkkddhcacaaGreatDoor
section
open Go.RowKit Kp
theorem zjT(l:Nat)(hl:zeG l)(hb:Bd 40 (l:Rat))(w:World)(hE:Env w) :
  CR 148 #[.string ⟨(Lib.itoa (l:Int)).toArray⟩] w (.tuple #[.string ⟨#[49]⟩,.string ⟨(Lib.itoa (l:Int)).toArray⟩,.int .i64 0]):=by
 have h:=ziY (l:Rat) (hb.root90 (by decide)) (by rw[Rat.num_natCast];have:=hl.1;omega) w hE
 rw[zba,Rat.num_natCast,Rat.den_natCast,Int.toNat_natCast,Nat.mul_one,hl.2]at h
 rw[show Rat.divInt ((1:Nat):Int) ((1:Nat):Int)=1 by rfl,zb4]at h
 exact h
theorem zjY(x:Rat)(l:Nat)(hx:zah x=false)(hx0:x≠0)(k60:za8 x≤60)(hl:zeG l)(hb:Bd 40 (l:Rat))(hl1:l=1)(w:World)(hE:Env w) :
  CR 135 #[.agg #[.string ⟨(ze x).toArray⟩,.string ⟨(Lib.itoa (l:Int)).toArray⟩]] w (.int .i64 0):=by
 have hlr:zah (l:Rat)=false:=hb.zah (by decide)
 have k40:za8 (l:Rat)≤40:=zdq hb (by decide)
 have HC1:=LH (fun w hw=>zI x hx w hw)
 have hc2:=fun w hw=>zI (l:Rat) hlr w hw
 have HL1:=LH (fun w hw=>zaZ x hx w hw)
 have hl2:=fun w hw=>zaZ (l:Rat) hlr w hw
 rw[zba]at hc2 hl2
 have HC2:=LH hc2
 have HL2:=LH hl2
 have HN:=LH (fun w hw=>zjT l hl hb w hw)
 have hp:=hl.1
 have hz:(ze x == [48])=false:=by
  rw[beq_eq_false_iff_ne,← zaw];exact fun h=>hx0 (zaS h)
 have hlz:(Lib.itoa (l:Int) == [48])=false:=by
  rw[beq_eq_false_iff_ne,← zR];exact fun h=>by have:=zaj h;omega
 have hlo:(Lib.itoa (l:Int) == [49])=true:=by
  subst hl1;rw[show ((1:Nat):Int)=1 from rfl,zan];rfl
 have hm:decide ((Lib.itoa (l:Int)).head? = some 45)=false:=by
  rw[itoa_nonneg (by omega),decide_eq_false_iff_not];exact zB _
 have hs:zG (Lib.itoa (l:Int))=false:=zb0 _
 have hlen:(Lib.itoa (l:Int)).length≤301:=zW _ (by have:=(zx hlr).1;rwa[Rat.num_natCast]at this)
 have HH:=LH (fun w=>zY (Lib.itoa (l:Int)) w)
 have HS:=LH (fun w hw=>zdY (Lib.itoa (l:Int)) (by omega) w hw)
 rw[hm]at HH
 have n1:=zaF x
 have n2:=zaF (l:Rat)
 clear hc2 hl2 hx hx0 hl hb hlr hl1 hm
 generalize za8 x=v1 at *
 generalize za8 (l:Rat)=v2 at *
 generalize ze x=X at *
 generalize Lib.itoa (l:Int)=L at *
 go_enter Tryz.func135,Tryz.ntmps135
 go_wp2_with fail
 have B0:=Blk.new w [.string ⟨X.toArray⟩,.string ⟨L.toArray⟩] 47
 have hQ0:Q w (w.alloc (.cells [.string ⟨X.toArray⟩,.string ⟨L.toArray⟩].toArray 47)):=(Below.refl _ w).alloc (Nat.le_refl _) _
 refine cx (HC1.out _ (hE.q hQ0)) fun w1 hq1=>?_
 have hQ1:=Q.trans hQ0 hq1
 have B1:=B0.keep hq1 B0.lt
 have c0:=B1.cell
 go_wp2_with fail
 clear c0
 refine cx (HC2.out _ (hE.q hQ1)) fun w2 hq2=>?_
 have hQ2:=Q.trans hQ1 hq2
 have B2:=B1.keep hq2 B1.lt
 have c0:=B2.cell
 go_wp2_with fail
 clear c0
 refine cx (HL1.out _ (hE.q hQ2)) fun w3 hq3=>?_
 have hQ3:=Q.trans hQ2 hq3
 have B3:=B2.keep hq3 B2.lt
 have c0:=B3.cell
 go_wp2_with fail
 clear c0
 refine cx (HL2.out _ (hE.q hQ3)) fun w4 hq4=>?_
 have hQ4:=Q.trans hQ3 hq4
 have B4:=B3.keep hq4 B3.lt
 have c0:=B4.cell
 go_wp2
 go_ret
 exact⟨rfl,hQ4⟩
theorem zia(x:Rat)(l:Nat)(hx:zah x=false)(hx0:x≠0)(k60:za8 x≤60)(hl:zeG l)(hb:Bd 40 (l:Rat))(hl1:l≠1)(w:World)(hE:Env w) :
  CR 135 #[.agg #[.string ⟨(ze x).toArray⟩,.string ⟨(Lib.itoa (l:Int)).toArray⟩]] w (.int .i64 0):=by
 have hlr:zah (l:Rat)=false:=hb.zah (by decide)
 have k40:za8 (l:Rat)≤40:=zdq hb (by decide)
 have HC1:=LH (fun w hw=>zI x hx w hw)
 have hc2:=fun w hw=>zI (l:Rat) hlr w hw
 have HL1:=LH (fun w hw=>zaZ x hx w hw)
 have hl2:=fun w hw=>zaZ (l:Rat) hlr w hw
 rw[zba]at hc2 hl2
 have HC2:=LH hc2
 have HL2:=LH hl2
 have HN:=LH (fun w hw=>zjT l hl hb w hw)
 have hp:=hl.1
 have hz:(ze x == [48])=false:=by
  rw[beq_eq_false_iff_ne,← zaw];exact fun h=>hx0 (zaS h)
 have hlz:(Lib.itoa (l:Int) == [48])=false:=by
  rw[beq_eq_false_iff_ne,← zR];exact fun h=>by have:=zaj h;omega
 have hlo:(Lib.itoa (l:Int) == [49])=false:=by
  rw[beq_eq_false_iff_ne,← zan];exact fun h=>by have:=zaj h;omega
 have hm:decide ((Lib.itoa (l:Int)).head? = some 45)=false:=by
  rw[itoa_nonneg (by omega),decide_eq_false_iff_not];exact zB _
 have hs:zG (Lib.itoa (l:Int))=false:=zb0 _
 have hlen:(Lib.itoa (l:Int)).length≤301:=zW _ (by have:=(zx hlr).1;rwa[Rat.num_natCast]at this)
 have HH:=LH (fun w=>zY (Lib.itoa (l:Int)) w)
 have HS:=LH (fun w hw=>zdY (Lib.itoa (l:Int)) (by omega) w hw)
 rw[hm]at HH
 have n1:=zaF x
 have n2:=zaF (l:Rat)
 clear hc2 hl2 hx hx0 hl hb hlr hl1 hm
 generalize za8 x=v1 at *
 generalize za8 (l:Rat)=v2 at *
 generalize ze x=X at *
 generalize Lib.itoa (l:Int)=L at *
 go_enter Tryz.func135,Tryz.ntmps135
 go_wp2_with fail
 have B0:=Blk.new w [.string ⟨X.toArray⟩,.string ⟨L.toArray⟩] 47
 have hQ0:Q w (w.alloc (.cells [.string ⟨X.toArray⟩,.string ⟨L.toArray⟩].toArray 47)):=(Below.refl _ w).alloc (Nat.le_refl _) _
 refine cx (HC1.out _ (hE.q hQ0)) fun w1 hq1=>?_
 have hQ1:=Q.trans hQ0 hq1
 have B1:=B0.keep hq1 B0.lt
 have c0:=B1.cell
 go_wp2_with fail
 clear c0
 refine cx (HC2.out _ (hE.q hQ1)) fun w2 hq2=>?_
 have hQ2:=Q.trans hQ1 hq2
 have B2:=B1.keep hq2 B1.lt
 have c0:=B2.cell
 go_wp2_with fail
 clear c0
 refine cx (HL1.out _ (hE.q hQ2)) fun w3 hq3=>?_
 have hQ3:=Q.trans hQ2 hq3
 have B3:=B2.keep hq3 B2.lt
 have c0:=B3.cell
 go_wp2_with fail
 clear c0
 refine cx (HL2.out _ (hE.q hQ3)) fun w4 hq4=>?_
 have hQ4:=Q.trans hQ3 hq4
 have B4:=B3.keep hq4 B3.lt
 have c0:=B4.cell
 go_wp2_with fail
 refine(HH.out _).mono ?_
 rintro e w5⟨rfl,rfl⟩
 go_wp2_with fail
 refine(HS.out _ (hE.q hQ4)).mono ?_
 rintro e w5⟨rfl,rfl⟩
 rw[hs]
 clear hs
 go_wp2_with fail
 refine cx (HN.out _ (hE.q hQ4)) fun w5 hq5=>?_
 have hQ5:=Q.trans hQ4 hq5
 have B5:=B4.keep hq5 B4.lt
 have c0:=B5.cell
 go_wp2
 go_ret
 exact⟨rfl,hQ5⟩
theorem zlU(x:Rat)(l:Nat)(hx:zah x=false)(hx0:x≠0)(k60:za8 x≤60)(hl:zeG l)(hb:Bd 40 (l:Rat))(w:World)(hE:Env w) :
  CR 135 #[.agg #[.string ⟨(ze x).toArray⟩,.string ⟨(Lib.itoa (l:Int)).toArray⟩]] w (.int .i64 0):=by
 by_cases h1:l=1
 ·exact zjY x l hx hx0 k60 hl hb h1 w hE
 ·exact zia x l hx hx0 k60 hl hb h1 w hE
structure Term1 (x:Rat) (l:Nat):Prop where
 lim:zah x=false
 ne:x≠0
 c60:za8 x≤60
 norm:zeG l
 c40:Bd 40 (l:Rat)
end
end Go.Proofs.YthdpnkkddhcacaaGreatDoor
namespace Kp
theorem zre{c r l:Nat}(hc:0<c)(h:c*c*l=r*r):∃ t,r=c*t∧l=t*t:=by
 have h1:c*c ∣ r*r:=⟨l,h.symm⟩
 have h2:c ∣ r:=by
  have:=(Nat.pow_dvd_pow_iff (a:=c) (b:=r) (n:=2) (by decide)).1 (by rw[Nat.pow_two,Nat.pow_two];exact h1)
  exact this
 obtain⟨t,ht⟩:=h2
 refine⟨t,ht,?_⟩
 have h3:c*c*l=c*c*(t*t):=by rw[h,ht];grind
 exact Nat.eq_of_mul_eq_mul_left (Nat.mul_pos hc hc) h3
theorem zoo{r:Nat}(hr:0<r):zbc (r*r)=(r,1):=by
 obtain⟨a,b,d,f⟩:=zcf zK zdR 1 (r*r) (Nat.mul_pos hr hr) (by decide)
 unfold zbc
 generalize (zL zK (1,r*r)).1=c at *
 generalize (zL zK (1,r*r)).2=l at *
 obtain⟨t,ht,hl⟩:=zre (r:=r) b (by rw[d];simp)
 have hi:zq l=t:=zem ⟨by omega,by rw[hl];exact Nat.mul_lt_mul_of_lt_of_lt (by omega) (by omega)⟩
 rw[hi,if_pos hl.symm,← ht]
end Kp
namespace Go.Proofs.YthdpnkkddhcacaaGreatDoor
section
open Kp
theorem zjx(s:Rat)(hs:0<s.num):(1 / s).num=s.den∧(1 / s).den=s.num.toNat:=by
 rw[zul s hs]
 obtain⟨e1,e2⟩:=zc7 (s.den:Int) s.num.toNat (by omega)
 have hg:Nat.gcd (s.den:Int).natAbs s.num.toNat=1:=by
  have h:=s.reduced
  rw[Int.natAbs_natCast,Nat.gcd_comm,show s.num.toNat=s.num.natAbs by omega];exact h
 rw[hg]at e1 e2
 refine⟨by rw[e1];simp,?_⟩
 have:((Rat.divInt (s.den:Int) (s.num.toNat:Int)).den:Int)=(s.num.toNat:Int):=by rw[e2];simp
 omega
theorem znS(s:Rat)(hs:0<s.num):∃ C L N D:Rat,N≠0∧D≠0∧C*C*L=N*D∧s*D=N∧aOf s=C / D∧aOf (1 / s)=C / N∧(leftOf s:Rat)=L:=by
 have hm:0<s.num.toNat*s.den:=Nat.mul_pos (by omega) s.den_pos
 obtain⟨h1,h2,h3,h4⟩:=zfm hm
 have hd:=s.den_nz
 have hD:(s.den:Rat)≠0:=fun e=>hd (by exact_mod_cast e)
 have hN:(s.num.toNat:Rat)≠0:=fun e=>by
  have:s.num.toNat=0:=by exact_mod_cast e
  omega
 refine⟨((zbc (s.num.toNat*s.den)).1:Rat),(leftOf s:Rat),(s.num.toNat:Rat),(s.den:Rat),hN,hD,?_,?_,?_,?_,rfl⟩
 ·have:=congrArg (Nat.cast (R:=Rat)) h3
  unfold leftOf
  simpa[Rat.natCast_mul]using this
 ·have h5:(s.num:Rat) / ((s.den:Int):Rat)=s:=by rw[← Rat.divInt_eq_div];exact Rat.num_divInt_den s
  rw[Rat.intCast_natCast]at h5
  have h6:((s.num.toNat:Nat):Rat)=(s.num:Rat):=by
   rw[← Rat.intCast_natCast];congr 1;omega
  rw[h6]
  grind
 ·unfold aOf
  rw[Rat.divInt_eq_div,Rat.intCast_natCast,Rat.intCast_natCast]
 ·unfold aOf
  rw[(zjx s hs).1,(zjx s hs).2,Int.toNat_natCast,Nat.mul_comm s.den,Rat.divInt_eq_div,Rat.intCast_natCast,Rat.intCast_natCast]
end
section
open Go.RowKit Kp
theorem zon:zeG 1:=⟨by decide,zgJ⟩
theorem nat_ne{l:Nat}(h:0<l):(l:Rat)≠0:=fun e=>by
 have:l=0:=by exact_mod_cast e
 omega
theorem zge{x:Int}(h:(Go.Lit.int .u8 x).wf=true):0≤x∧x≤255:=by
 have h2:(decide (IntKind.min .u8≤x) && decide (x≤IntKind.max .u8))=true:=h
 rw[show IntKind.min .u8=0 from rfl,show IntKind.max .u8=255 from rfl]at h2
 simpa using h2
theorem zeD(x y:Rat)(hx:zS x)(hy:zS y)(w:World) :
  CR 84 #[.string ⟨(ze x).toArray⟩,.string ⟨(ze y).toArray⟩] w (.tuple #[.int .i64 (Lib.compareInt (x.num*y.den) (y.num*x.den)),.int .i64 0]):=by
 have l1:=zaQ (zS.root90 hx).zah
 have l2:=zaQ (zS.root90 hy).zah
 have N1:=LH (fun w=>zF (ze x) (by omega) w)
 have N2:=LH (fun w=>zF (ze y) (by omega) w)
 rw[za0 hx]at N1
 rw[za0 hy]at N2
 have b1:=hx.1
 have b2:=hx.2
 have b3:=hy.1
 have b4:=hy.2
 have hd1:(0:Int)<x.den:=by have:=x.den_pos;omega
 have hd2:(0:Int)<y.den:=by have:=y.den_pos;omega
 have p1:(x.num*(y.den:Int)).natAbs<10000000000000000:=by
  rw[Int.natAbs_mul,Int.natAbs_natCast]
  have:=Nat.mul_lt_mul'' b1 b4
  omega
 have p2:(y.num*(x.den:Int)).natAbs<10000000000000000:=by
  rw[Int.natAbs_mul,Int.natAbs_natCast]
  have:=Nat.mul_lt_mul'' b3 b2
  omega
 generalize (x.den:Int)=xd at *
 generalize (y.den:Int)=yd at *
 generalize x.num=xn at *
 generalize y.num=yn at *
 generalize ze x=X at *
 generalize ze y=Y at *
 have q1:-10000000000000000<xn*yd:=by omega
 have q2:xn*yd<10000000000000000:=by omega
 have q3:-10000000000000000<yn*xd:=by omega
 have q4:yn*xd<10000000000000000:=by omega
 clear p1 p2 b1 b2 b3 b4 hx hy l1 l2
 go_enter Tryz.func84,Tryz.ntmps84
 go_wp2_with fail
 refine cx (N1.out _) fun w1 hq1=>?_
 go_wp2_with fail
 refine cx (N2.out _) fun w2 hq2=>?_
 have hQ2:Q w w2:=Q.trans hq1 (Q.trans ((Below.refl _ w1).alloc (Nat.le_refl _) _) hq2)
 have B1:=(Blk.new w1 [.int .i64 xn,.int .i64 xd] 126).keep hq2 (by simp)
 have l1:=B1.lt
 have c0:=B1.cell
 go_wp2_with fail
 refine(Tryz.cmp_Compare_int _ _ _).mono ?_
 rintro e w3⟨rfl,rfl⟩
 go_wp2
 go_ret2
 exact⟨rfl,hQ2.alloc hQ2.size _⟩
theorem zeU(x y:Rat)(hx:zah x=false)(hy:zah y=false)(hs:¬ (zS x∧zS y))(h1:lim (x.num*y.den)=false)(h2:lim (y.num*(x.den:Int))=false)(w:World)(hE:Env w) :
  CR 84 #[.string ⟨(ze x).toArray⟩,.string ⟨(ze y).toArray⟩] w (.tuple #[.int .i64 (Lib.compareInt (x.num*y.den) (y.num*x.den)),.int .i64 0]):=by
 have l1:=zaQ hx
 have l2:=zaQ hy
 have hor:=zbw hs
 have N1:=LH (fun w=>zF (ze x) (by omega) w)
 have N2:=LH (fun w=>zF (ze y) (by omega) w)
 have R1:=LH (fun w hw=>zam x hx w hw)
 have R2:=LH (fun w hw=>zam y hy w hw)
 have C:=LH (fun w hw=>zbB x.num (x.den:Int) y.num (y.den:Int) (zx hx).1 (zx hx).2 (zx hy).1 (zx hy).2 h1 h2 w hw)
 have K:=LH (fun w=>za6 (x.num*y.den) (y.num*(x.den:Int)) h1 h2 w)
 clear hx hy hs h1 h2 l1 l2
 generalize Lib.compareInt (x.num*y.den) (y.num*(x.den:Int))=ans at *
 cases hn:zcx (ze x)with
 | none =>
  rw[zdc hn]at N1
  clear hn hor N2
  generalize Lib.itoa x.num=XN at *
  generalize Lib.itoa (x.den:Int)=XD at *
  generalize Lib.itoa y.num=YN at *
  generalize Lib.itoa (y.den:Int)=YD at *
  go_enter Tryz.func84,Tryz.ntmps84
  go_wp2_with fail
  refine cx (N1.out _) fun w1 hq1=>?_
  have hQ1:=hq1.alloc hq1.size (.cells #[.int .i64 0,.int .i64 0] 126)
  go_wp2_with fail
  refine cx (R1.out _ (hE.q hQ1)) fun w2 hq2=>?_
  have hQ2:=Q.trans hQ1 hq2
  have hQ2':=hQ2.alloc hQ2.size (.cells #[.string ⟨XN.toArray⟩,.string ⟨XD.toArray⟩] 130)
  have X0:=Blk.new w2 [.string ⟨XN.toArray⟩,.string ⟨XD.toArray⟩] 130
  go_wp2_with fail
  refine cx (R2.out _ (hE.q hQ2')) fun w3 hq3=>?_
  have hQ3:=Q.trans hQ2' hq3
  have hQ3':=hQ3.alloc hQ3.size (.cells #[.string ⟨YN.toArray⟩,.string ⟨YD.toArray⟩] 130)
  have X1:=X0.keep hq3 X0.lt
  have c0:=X1.cell
  have lx:=X1.lt
  go_wp2_with fail
  refine cx (C.out _ (hE.q hQ3')) fun w4 hq4=>?_
  have hQ4:=Q.trans hQ3' hq4
  clear c0 lx X0 X1
  go_wp2_with fail
  refine cx (K.out _) fun w5 hq5=>?_
  have hQ5:=Q.trans hQ4 hq5
  go_wp2
  go_ret2
  exact⟨rfl,hQ5⟩
 | some nd =>
  obtain⟨n,d⟩:=nd
  rw[zej hn]at N1
  have hy2:zcx (ze y)=none:=by
   rcases hor with h | h
   ·rw[h]at hn;cases hn
   ·exact h
  rw[zdc hy2]at N2
  clear hn hor hy2
  generalize Lib.itoa x.num=XN at *
  generalize Lib.itoa (x.den:Int)=XD at *
  generalize Lib.itoa y.num=YN at *
  generalize Lib.itoa (y.den:Int)=YD at *
  go_enter Tryz.func84,Tryz.ntmps84
  go_wp2_with fail
  refine cx (N1.out _) fun w1 hq1=>?_
  have hQ1:=hq1.alloc hq1.size (.cells #[.int .i64 n,.int .i64 d] 126)
  go_wp2_with fail
  refine cx (N2.out _) fun w2 hq2=>?_
  have hQ2:=Q.trans hQ1 hq2
  have hQ2':=hQ2.alloc hQ2.size (.cells #[.int .i64 0,.int .i64 0] 126)
  go_wp2_with fail
  refine cx (R1.out _ (hE.q hQ2')) fun w3 hq3=>?_
  have hQ3:=Q.trans hQ2' hq3
  have hQ3':=hQ3.alloc hQ3.size (.cells #[.string ⟨XN.toArray⟩,.string ⟨XD.toArray⟩] 130)
  have X0:=Blk.new w3 [.string ⟨XN.toArray⟩,.string ⟨XD.toArray⟩] 130
  go_wp2_with fail
  refine cx (R2.out _ (hE.q hQ3')) fun w4 hq4=>?_
  have hQ4:=Q.trans hQ3' hq4
  have hQ4':=hQ4.alloc hQ4.size (.cells #[.string ⟨YN.toArray⟩,.string ⟨YD.toArray⟩] 130)
  have X1:=X0.keep hq4 X0.lt
  have c0:=X1.cell
  have lx:=X1.lt
  go_wp2_with fail
  refine cx (C.out _ (hE.q hQ4')) fun w5 hq5=>?_
  have hQ5:=Q.trans hQ4' hq5
  clear c0 lx X0 X1
  go_wp2_with fail
  refine cx (K.out _) fun w6 hq6=>?_
  have hQ6:=Q.trans hQ5 hq6
  go_wp2
  go_ret2
  exact⟨rfl,hQ6⟩
theorem zih(x y:Rat)(hx:zah x=false)(hy:zah y=false)(h1:lim (x.num*y.den)=false)(h2:lim (y.num*(x.den:Int))=false)(w:World)(hE:Env w) :
  CR 84 #[.string ⟨(ze x).toArray⟩,.string ⟨(ze y).toArray⟩] w (.tuple #[.int .i64 (Lib.compareInt (x.num*y.den) (y.num*x.den)),.int .i64 0]):=by
 by_cases hs:zS x∧zS y
 ·exact zeD x y hs.1 hs.2 w
 ·exact zeU x y hx hy hs h1 h2 w hE
theorem zbY(l m:Nat)(hl:lim (l:Int)=false)(hm:lim (m:Int)=false)(w:World)(hE:Env w) :
  CR 84 #[.string ⟨(Lib.itoa (l:Int)).toArray⟩,.string ⟨(Lib.itoa (m:Int)).toArray⟩] w (.tuple #[.int .i64 (Lib.compareInt l m),.int .i64 0]):=by
 have hr:∀ n:Nat,lim (n:Int)=false→zah (n:Rat)=false:=fun n hn=>by unfold zah;rw[Rat.num_natCast,Rat.den_natCast,hn];exact zhs
 have h:=zih (l:Rat) (m:Rat) (hr l hl) (hr m hm) (by rw[Rat.num_natCast,Rat.den_natCast];simpa using hl) (by rw[Rat.num_natCast,Rat.den_natCast];simpa using hm) w hE
 rw[zba,zba,Rat.num_natCast,Rat.num_natCast,Rat.den_natCast,Rat.den_natCast,show ((1:Nat):Int)=1 from rfl,Int.mul_one,Int.mul_one]at h
 exact h
def zc5(q:Rat):Bool:=decide (zq q.num.toNat*zq q.num.toNat=q.num.toNat) && decide (zq q.den*zq q.den=q.den)
def sqR(q:Rat):Rat:=Rat.divInt (zq q.num.toNat:Int) (zq q.den:Int)
theorem zmD{n:Nat}(h:0<n):0<zq n:=by
 have:=(zc4 n).2
 rcases Nat.eq_zero_or_pos (zq n)with h0 | h0
 ·rw[h0]at this;omega
 ·exact h0
theorem zjw{n:Nat}(h:lim (n:Int)=false):lim (zq n:Int)=false:=zcl h (by have:=zgR n;omega)
theorem ziV(q:Rat)(h:zah q=false)(hp:0≤q.num)(w:World)(hE:Env w) :
  CR 206 #[.agg #[.string ⟨(Lib.itoa q.num).toArray⟩,.string ⟨(Lib.itoa (q.den:Int)).toArray⟩]] w (.tuple #[.string ⟨(if zc5 q then ze (sqR q)else []).toArray⟩,.bool (zc5 q)]):=by
 have hn:q.num=(q.num.toNat:Int):=by omega
 have l1:=(zx h).1
 have l2:=(zx h).2
 rw[hn]at l1
 have E1:=LH (fun w hw=>zhj q.num.toNat l1 w hw)
 have E2:=LH (fun w hw=>zhj q.den l2 w hw)
 have F:=LH (fun w hw=>zd9 (zq q.num.toNat:Int) (zq q.den:Int) (zjw l1) (zjw l2) (by have:=zmD q.den_pos;omega) w hw)
 unfold zc5 sqR
 rw[hn,Int.toNat_natCast]
 generalize ze (Rat.divInt (zq q.num.toNat:Int) (zq q.den:Int))=R at *
 generalize decide (zq q.num.toNat*zq q.num.toNat=q.num.toNat)=b1 at *
 generalize decide (zq q.den*zq q.den=q.den)=b2 at *
 generalize Lib.itoa (zq q.num.toNat:Int)=S1 at *
 generalize Lib.itoa (zq q.den:Int)=S2 at *
 generalize Lib.itoa (q.num.toNat:Int)=N at *
 generalize Lib.itoa (q.den:Int)=D at *
 clear hn l1 l2 h hp
 go_enter Tryz.func206,Tryz.ntmps206
 have T:=Blk.new w [.string ⟨N.toArray⟩,.string ⟨D.toArray⟩] 275
 have hQ0:Q w (w.alloc (.cells [.string ⟨N.toArray⟩,.string ⟨D.toArray⟩].toArray 275)):=(Below.refl _ w).alloc (Nat.le_refl _) _
 go_wp2_with fail
 refine cx (E1.out _ (hE.q hQ0)) fun w1 hq1=>?_
 have hQ1:=Q.trans hQ0 hq1
 have T1:=T.keep hq1 T.lt
 have c1:=T1.cell 1
 simp only[zs4,zs5]at c1
 go_wp2_with fail
 clear c1 T T1
 refine cx (E2.out _ (hE.q hQ1)) fun w2 hq2=>?_
 have hQ2:=Q.trans hQ1 hq2
 cases b1 with
 | false =>
  go_wp2
  go_ret2
  exact⟨rfl,hQ2⟩
 | true =>
  cases b2 with
  | false =>
   go_wp2
   go_ret2
   exact⟨rfl,hQ2⟩
  | true =>
   go_wp2_with fail
   refine cx (F.out _ (hE.q hQ2)) fun w3 hq3=>?_
   have hQ3:=Q.trans hQ2 hq3
   go_wp2
   go_ret2
   exact⟨rfl,hQ3⟩
def zX(x:Rat)(l P:Nat):Nat:=x.num.natAbs*x.num.natAbs*l*10 ^ (2*P)
def zh4(x:Rat)(l P:Nat):Nat :=
 if zq (zX x l P)*zq (zX x l P)=zX x l P∧zq (zX x l P) % x.den=0 then zq (zX x l P) / x.den else zq (zX x l P) / x.den+1
def zcV(x:Rat)(l P:Nat):Int:=if 0≤x.num then((zq (zX x l P) / x.den:Nat):Int)else -((zh4 x l P:Nat):Int)
theorem ziu(q:Rat):(-q).num = -q.num:=rfl
theorem zk2(q:Rat):(-q).den=q.den:=rfl
theorem zpL{x:Rat}(h:0≤x.num)(l P:Nat):zcV x l P=((zq (zX x l P) / x.den:Nat):Int):=if_pos h
theorem zpM{x:Rat}(h:x.num<0)(l P:Nat):zcV x l P = -((zh4 x l P:Nat):Int):=if_neg (by omega)
theorem zqj{a b:Nat}:a*a<b*b ↔ a<b:=Nat.mul_self_lt_mul_self_iff
def zb3:List (Rat × Nat)→Nat→Int
 | [],_=>0
 | t::r,P=>zcV t.1 t.2 P+zb3 r P
def zdz(n:Nat)(F:Int)(last:Bool):Option Int:=if 0<F then some 1 else if F+n<0∨(F+n=0∧last=true)then some (-1)else none
def zt8(a b c:Option Int):Option Int:=match a with
 | some k=>some k
 | none=>match b with
  | some k=>some k
  | none=>c
def zqm(ts:List (Rat × Nat)):Option Int :=
 if ts=[]then some 0 else zt8 (zdz ts.length (zb3 ts 4) false) (zdz ts.length (zb3 ts 16) false) (zdz ts.length (zb3 ts 64) true)
theorem zjk(x:Rat):x*(x.den:Rat)=(x.num:Rat):=by
 have hd:(x.den:Rat)≠0:=nat_ne x.den_pos
 have h:(x.num:Rat) / (x.den:Rat)=x:=by
  conv=>rhs;rw[← Rat.num_divInt_den x,Rat.divInt_eq_div]
  rfl
 conv=>lhs;lhs;rw[← h]
 exact Rat.div_mul_cancel hd
def zgH(low high:Rat × Nat):Rat × Nat:=(low.1+high.1*sqR ((high.2:Rat) / (low.2:Rat)),low.2)
def zd6:List (Rat × Nat)→Rat × Nat→List (Rat × Nat)
 | [],t=>[t]
 | c::r,t=>if zc5 ((t.2:Rat) / (c.2:Rat))then(if t.2<c.2 then zgH t c else zgH c t)::r else c::zd6 r t
def zex(cs:List (Rat × Nat)):List (Rat × Nat):=cs.filter fun c=>decide (c.1≠0)
def zgj:List (Rat × Nat)→List (Rat × Nat)
 | [a,b]=>if b.2<a.2 then [b,a]else [a,b]
 | l=>l
theorem zpj{l m:Nat}(hl:0<l)(hm:0<m):0<((m:Rat) / (l:Rat)).num∧(l:Rat) / (m:Rat)=1 / ((m:Rat) / (l:Rat)):=by
 constructor
 ·rw[← Rat.div_is,Rat.num_natCast,Rat.num_natCast,Rat.den_natCast,Rat.den_natCast]
  have:=zdG (z:=(m:Int)) (k:=l) (by omega) hl
  simpa using this
 ·have h1:=nat_ne hl
  have h2:=nat_ne hm
  generalize (l:Rat)=a at *
  generalize (m:Rat)=b at *
  grind
theorem zoz{l m:Nat}(hl:0<l)(hm:0<m)(h:zc5 ((m:Rat) / (l:Rat))=true):zc5 ((l:Rat) / (m:Rat))=true:=by
 obtain⟨h1,h2⟩:=zpj hl hm
 rw[h2]
 generalize (m:Rat) / (l:Rat)=q at *
 obtain⟨e1,e2⟩:=zjx q h1
 unfold zc5 at h ⊢
 rw[e1,e2,Int.toNat_natCast,Bool.and_comm]
 exact h
theorem ziy{n b:Nat}(h:n<b*b):zq n<b:=by
 have:=(zc4 n).1
 exact zqj.1 (by omega)
theorem ztf{l m n:Nat}(hl:0<l)(hl1:l<10 ^ n)(hm:m<10 ^ n):Bd n ((m:Rat) / (l:Rat)):=by
 rw[← Rat.div_is,Rat.num_natCast,Rat.num_natCast,Rat.den_natCast,Rat.den_natCast,show (m:Int)*((1:Nat):Int)=m by simp,show (l:Int)*((1:Nat):Int)=l by simp]
 exact zcQ hl (by rw[Int.natAbs_natCast];exact hm) hl1
theorem zt2{q:Rat}{n:Nat}(h:Bd (n+n) q):Bd n (sqR q):=by
 unfold sqR
 have h1:=h.1
 have h2:=h.2
 rw[Nat.pow_add]at h1 h2
 exact zcQ (zmD q.den_pos) (by rw[Int.natAbs_natCast];exact ziy (by omega)) (ziy h2)
def zca(l:List (Str × Str)):List Value:=l.flatMap fun p=>[.string ⟨p.1.toArray⟩,.string ⟨p.2.toArray⟩]
theorem zrL:zca []=[]:=rfl
theorem zc9(p:Str × Str)(l:List (Str × Str)):zca (p::l)=.string ⟨p.1.toArray⟩::.string ⟨p.2.toArray⟩::zca l:=rfl
theorem zgq(l:List (Str × Str)):(zca l).length=l.length*2:=by
 induction l with
 | nil=>rfl
 | cons p l ih=>rw[zc9];simp only[List.length_cons,ih];omega
theorem zgs(a b:List (Str × Str)):zca (a++b)=zca a++zca b:=by unfold zca;rw[List.flatMap_append]
theorem zgr:∀ (l:List (Str × Str)) (i:Nat),i<l.length→(zca l)[i*2]? = some (.string ⟨(l.getD i ([],[])).1.toArray⟩)∧(zca l)[i*2+1]? = some (.string ⟨(l.getD i ([],[])).2.toArray⟩)
 | [],i,h=>absurd h (by simp)
 | p::l,0,_=>⟨rfl,rfl⟩
 | p::l,i+1,h=>by
  have:=zgr l i (by simpa using h)
  rw[zc9,show (i+1)*2=i*2+2 by omega,show i*2+2+1=i*2+1+2 by omega]
  simpa using this
theorem zk0:∀ (l:List (Str × Str)) (i:Nat) (p:Str × Str),((zca l).set (i*2) (.string ⟨p.1.toArray⟩)).set (i*2+1) (.string ⟨p.2.toArray⟩)=zca (l.set i p)
 | [],i,p=>by simp[zrL]
 | q::l,0,p=>by rw[List.set_cons_zero,zc9,zc9];rfl
 | q::l,i+1,p=>by
  have:=zk0 l i p
  rw[List.set_cons_succ,zc9,zc9,show (i+1)*2=i*2+2 by omega,show i*2+2+1=i*2+1+2 by omega,← this]
  rfl
theorem zgp:∀ (l:List (Str × Str)),∀ u∈zca l,u.oneCell'=true
 | [],u,h=>by cases h
 | p::l,u,h=>by
  rw[zc9,List.mem_cons,List.mem_cons]at h
  rcases h with rfl | rfl | h
  ·rfl
  ·rfl
  ·exact zgp l u h
def TSl(w:World)(B:Nat)(v:Value)(l:List (Str × Str)):Prop :=
 ∃ a cap,v=.slice a l.length cap∧B≤w.heap.size∧∀ i,i<l.length→∃ b o,a=some ⟨b,o,none⟩∧b<B ∧
  w.cell? ⟨b,o+i*2,none⟩=some (.string ⟨(l.getD i ([],[])).1.toArray⟩)∧w.cell? ⟨b,o+i*2+1,none⟩=some (.string ⟨(l.getD i ([],[])).2.toArray⟩)
theorem TSl.keep{w w':World}{B B':Nat}{v:Value}{l:List (Str × Str)}(h:TSl w B v l)(hb:Below B' w w')(hB:B≤B'):TSl w' B v l:=by
 obtain⟨a,cap,rfl,hs,hc⟩:=h
 refine⟨a,cap,rfl,Nat.le_trans hs hb.size,fun i hi=>?_⟩
 obtain⟨b,o,ha,hbb,c0,c1⟩:=hc i hi
 exact⟨b,o,ha,hbb,(hb.cell (p:=⟨b,o+i*2,none⟩) (show b<B' by omega)).trans c0,(hb.cell (p:=⟨b,o+i*2+1,none⟩) (show b<B' by omega)).trans c1⟩
theorem TSl.of_row{w:World}{base:Nat}{t:TypeId}{v:Value}{l:List (Str × Str)}(h:w.ownsRow base t 2 v l.length (zca l)):TSl w w.heap.size v l:=by
 rcases Nat.eq_zero_or_pos l.length with h0 | h0
 ·rcases h.2 with⟨hv,_⟩|⟨g,cap,cur,hv,_,hg,_⟩
  ·exact⟨none,0,by rw[hv,h0],Nat.le_refl _,fun i hi=>by omega⟩
  ·exact⟨some ⟨g,0,none⟩,cap,hv,Nat.le_refl _,fun i hi=>by omega⟩
 ·obtain⟨g,cap,rfl,hb,hg⟩:=h.form h0
  refine⟨_,cap,rfl,Nat.le_refl _,fun i hi=>⟨g,0,rfl,hg,?_,?_⟩⟩
  ·rw[h.cellAt _ (by omega),Nat.zero_add];exact(zgr l i hi).1
  ·rw[h.cellAt _ (by omega),Nat.zero_add];exact(zgr l i hi).2
def ofT(t:Rat × Rat):Str × Str:=(ze t.1,ze t.2)
def ofC(c:Rat × Nat):Str × Str:=(ze c.1,Lib.itoa (c.2:Int))
def zn4(w:World)(G:Nat)(cs:List (Rat × Nat)):Prop :=
 ∃ v,Blk w G [v] 135∧(cs=[]→v=.slice none 0 0)∧w.ownsRow (G+1) 139 2 v (cs.map ofC).length (zca (cs.map ofC))
theorem zn4.keep{w w':World}{G:Nat}{cs:List (Rat × Nat)}(h:zn4 w G cs)(hq:Q w w'):zn4 w' G cs:=by
 obtain⟨v,h1,h2,h3⟩:=h
 exact⟨v,h1.keep hq h1.lt,h2,zn h3 hq⟩
theorem zn4.start{w:World}{G:Nat}(h:Blk w G [.slice none 0 0] 135):zn4 w G []:=⟨_,h,fun _=>rfl,World.ownsRow_nil _ _ _ _⟩
theorem zcR.two{w:World}{b:Nat}{s1 s2:Str}{t:TypeId}(h:Blk w b [.string ⟨s1.toArray⟩,.string ⟨s2.toArray⟩] t):zcR w (.slice (some ⟨b,0,none⟩) 2 2) [s1,s2]:=by
 refine⟨b,0,2,rfl,h.lt,?_⟩
 intro i hi
 rcases(show i=0∨i=1 by simp at hi;omega)with rfl | rfl
 ·exact h.cell 0
 ·exact h.cell 1
theorem zqC{p q:Rat}(pq:0<q.num):p / q=Rat.divInt (p.num*q.den) ((q.num.toNat*p.den:Nat):Int):=by
 rw[← Rat.div_is,Int.natCast_mul,Int.toNat_of_nonneg (by omega)]
theorem zeh{p q:Rat}(pp:0≤p.num)(pq:0<q.num):0≤(p / q).num:=by
 rw[zqC pq]
 obtain⟨e1,-⟩:=zc7 (p.num*q.den) (q.num.toNat*p.den) (Nat.mul_pos (by omega) p.den_pos)
 rw[e1]
 have h0:0≤p.num*(q.den:Int):=Int.mul_nonneg pp (by omega)
 rw[Int.tdiv_eq_ediv_of_nonneg h0]
 exact Int.ediv_nonneg h0 (Int.natCast_nonneg _)
theorem Bd.quot{m n:Nat}{p q:Rat}(hp:Bd m p)(hq:Bd n q)(pq:0<q.num):Bd (m+n) (p / q):=by
 rw[zqC pq]
 refine zcQ (Nat.mul_pos (by omega) p.den_pos) (zcq hp hq) ?_
 have h1:q.num.toNat<10 ^ n:=by have:=hq.1;omega
 have:=Nat.mul_lt_mul'' h1 hp.2
 rw[Nat.add_comm,Nat.pow_add];exact this
theorem zpe(p q:Rat)(hp:Bd 80 p)(hq:Bd 80 q)(pp:0≤p.num)(pq:0<q.num)(w:World)(hE:Env w) :
  CR 138 #[.string ⟨(ze p).toArray⟩,.string ⟨(ze q).toArray⟩] w (.tuple #[.string ⟨(if zc5 (p / q)then ze (sqR (p / q))else []).toArray⟩,.bool (zc5 (p / q)),.int .i64 0]):=by
 have hz:(ze q == [48])=false:=by
  rw[beq_eq_false_iff_ne,← zaw];exact fun h=>by have:=zaS h;subst this;exact absurd pq (by decide)
 have bq:=hp.quot hq pq
 have hlq:zah (p / q)=false:=bq.zah (by decide)
 have HC:=fun v1 v2 w hw h1 h2=>zfl [p,q] [p,q] (by intro x hx;rw[List.mem_cons,List.mem_singleton]at hx;rcases hx with rfl | rfl;exact hp.root90 (by decide);exact hq.root90 (by decide)) v1 v2 w hw h1 h2 (by simp) (by simp)
 rw[if_pos (by intro x hx;rw[List.mem_cons,List.mem_singleton]at hx;rcases hx with rfl | rfl <;> omega)]at HC
 have HC:=LH HC
 have HD:=LH (fun w hw=>zbK p q hp hq (by omega) (by decide) w hw)
 have HO:=LH (fun w hw=>zhh (p / q) hlq w hw)
 have HR:=LH (fun w hw=>ziV (p / q) hlq (zeh pp pq) w hw)
 generalize (⟨(if zc5 (p / q)then ze (sqR (p / q))else []).toArray⟩:ByteArray)=A at *
 generalize zc5 (p / q)=b at *
 generalize ze (p / q)=PQ at *
 generalize Lib.itoa (p / q).num=N at *
 generalize Lib.itoa ((p / q).den:Int)=D at *
 clear hp hq pp pq bq hlq
 generalize hsp:ze p=P at *
 generalize hsq:ze q=S at *
 go_enter Tryz.func138,Tryz.ntmps138
 go_wp2_with fail
 have B1:=((Blk.new w [.string ⟨P.toArray⟩,.string ⟨S.toArray⟩] 29).alloc (.cells #[.string ⟨P.toArray⟩,.string ⟨S.toArray⟩] 29))
 have B2:=Blk.new (w.alloc (.cells #[.string ⟨P.toArray⟩,.string ⟨S.toArray⟩] 29)) [.string ⟨P.toArray⟩,.string ⟨S.toArray⟩] 29
 have S1:=zcR.two B1
 have S2:=zcR.two B2
 have e2:(w.alloc (.cells #[.string ⟨P.toArray⟩,.string ⟨S.toArray⟩] 29)).heap.size=w.heap.size+1:=by simp
 rw[e2]at S2
 clear e2 B2 B1
 simp only[List.map_cons,List.map_nil,hsp,hsq]at HC
 refine(HC.out _ _ _ (hE.q bt) S1 S2).mono ?_
 clear S1 S2
 rintro e w1⟨rfl,hq1⟩
 have hQ1:Q w w1:=Q.trans (show Below w.heap.size w _ from bt) hq1
 clear hq1
 go_wp2_with fail
 refine cx (HD.out _ (hE.q hQ1)) fun w2 hq2=>?_
 have hQ2:=Q.trans hQ1 hq2
 go_wp2_with fail
 refine cx (HO.out _ (hE.q hQ2)) fun w3 hq3=>?_
 have hQ3:=Q.trans hQ2 hq3
 go_wp2_with fail
 refine cx (HR.out _ (hE.q hQ3)) fun w4 hq4=>?_
 have hQ4:=Q.trans hQ3 hq4
 go_wp2
 go_ret3
 exact⟨rfl,hQ4⟩
theorem zj1(l m:Nat)(hl:0<l)(hl1:l<10 ^ 80)(hm:0<m)(hm1:m<10 ^ 80)(w:World)(hE:Env w) :
  CR 138 #[.string ⟨(Lib.itoa (m:Int)).toArray⟩,.string ⟨(Lib.itoa (l:Int)).toArray⟩] w (.tuple #[.string ⟨(if zc5 ((m:Rat) / (l:Rat))then ze (sqR ((m:Rat) / (l:Rat)))else []).toArray⟩,.bool (zc5 ((m:Rat) / (l:Rat))),.int .i64 0]):=by
 have hb:∀ n:Nat,n<10 ^ 80→Bd 80 (n:Rat):=fun n hn=>⟨by rw[Rat.num_natCast,Int.natAbs_natCast];exact hn,by rw[Rat.den_natCast];exact by decide⟩
 have h:=zpe (m:Rat) (l:Rat) (hb m hm1) (hb l hl1) (by rw[Rat.num_natCast];omega) (by rw[Rat.num_natCast];omega) w hE
 rw[zba,zba]at h
 exact h
theorem zk4(tmps:Array Value)(W:World)(b:Nat)(x y u:Value)(hp:tmps.getD 4 undef=.pointer (some ⟨b,0,none⟩))(hu:tmps.getD 5 undef=u)
  (c0:W.cell? ⟨b,0,none⟩=some x)(c1:W.cell? ⟨b,1,none⟩=some y) :
  (results Tryz.f149 tmps).run Tryz.prog W=.ok (.tuple #[.agg #[x,y],u]) W:=by
 simp only[Array.getD_eq_getD_getElem?]at hp hu
 simp[results,Tryz.results149,go_sem,hp,hu,c0,c1]
theorem zrt:∀ (cs:List (Rat × Nat)) (t:Rat × Nat) (k:Nat) (hk:k<cs.length),(∀ j (hj:j<k),zc5 ((t.2:Rat) / ((cs[j]'(by omega)).2:Rat))=false)→zc5 ((t.2:Rat) / ((cs[k]).2:Rat))=true →
  zd6 cs t=cs.set k (if t.2<(cs[k]).2 then zgH t cs[k]else zgH cs[k] t)
 | [],_,_,hk,_,_=>absurd hk (by simp)
 | c::r,t,0,_,_,h=>by
  unfold zd6
  exact if_pos (show zc5 ((t.2:Rat) / (c.2:Rat))=true from h)
 | c::r,t,k+1,hk,h1,h=>by
  have h0:=h1 0 (by omega)
  simp only[List.getElem_cons_zero]at h0
  unfold zd6
  rw[if_neg (by rw[h0];decide),zrt r t k (by simpa using hk) (fun j hj=>by have:=h1 (j+1) (by omega);simpa using this) (by simpa using h)]
  rfl
theorem zoP:∀ (cs:List (Rat × Nat)) (t:Rat × Nat),(∀ j (hj:j<cs.length),zc5 ((t.2:Rat) / ((cs[j]).2:Rat))=false)→zd6 cs t=cs++[t]
 | [],_,_=>rfl
 | c::r,t,h1=>by
  have h0:=h1 0 (by simp)
  simp only[List.getElem_cons_zero]at h0
  unfold zd6
  rw[if_neg (by rw[h0];decide),zoP r t (fun j hj=>by have:=h1 (j+1) (by simp;omega);simpa using this)]
  rfl
theorem zoN{w:World}{G g cap k:Nat}{cs rs:List (Rat × Nat)}{p:Str × Str}(hG:Blk w G [.slice (some ⟨g,0,none⟩) cs.length cap] 135)(hr:w.ownsRow (G+1) 139 2 (.slice (some ⟨g,0,none⟩) cs.length cap) cs.length (zca (cs.map ofC)))
  (hs:zca (rs.map ofC)=((zca (cs.map ofC)).set (k*2) (.string ⟨p.1.toArray⟩)).set (k*2+1) (.string ⟨p.2.toArray⟩)∧rs.length=cs.length)(hne:rs≠[])(hgG:G≠g) :
  zn4 ((w.setCell ⟨g,k*2,none⟩ (.string ⟨p.1.toArray⟩)).setCell ⟨g,k*2+1,none⟩ (.string ⟨p.2.toArray⟩)) G rs:=by
 refine⟨_,(hG.setOther (Ne.symm hgG) _ _).setOther (Ne.symm hgG) _ _,fun e=>absurd e hne,?_⟩
 rw[hs.1,List.length_map,hs.2]
 exact((hr.stored (k*2) _).1.stored (k*2+1) _).1
theorem znJ{w w1:World}{G T g n cap:Nat}{o x y:Value}(hg:w.grownBy w1 (Value.slice (some ⟨g,0,none⟩) n cap).ownBlock)(hG:G<w.heap.size)(hT:T<w.heap.size)(hne:G≠T)(hGg:G≠g)(hTg:T≠g)(c:w.cell? ⟨G,0,none⟩=some o)
  (d0:w.cell? ⟨T,0,none⟩=some x)(d1:w.cell? ⟨T,1,none⟩=some y)(kf:w.frozen? ⟨G,0,none⟩=false) :
  w1.cell? ⟨G,0,none⟩=some o∧∀ v,(w1.setCell ⟨G,0,none⟩ v).cell? ⟨T,0,none⟩=some x∧(w1.setCell ⟨G,0,none⟩ v).cell? ⟨T,1,none⟩=some y∧(w1.setCell ⟨G,0,none⟩ v).frozen? ⟨G,0,none⟩=false:=by
 have n1:some G≠(Value.slice (some ⟨g,0,none⟩) n cap).ownBlock:=fun e=>hGg (Option.some.inj e)
 have n2:some T≠(Value.slice (some ⟨g,0,none⟩) n cap).ownBlock:=fun e=>hTg (Option.some.inj e)
 refine⟨(hg.cell_far ⟨G,0,none⟩ hG n1).trans c,fun v=>⟨?_,?_,?_⟩⟩
 ·exact(World.cell?_setCell_other w1 ⟨G,0,none⟩ ⟨T,0,none⟩ v (by intro h;exact hne (congrArg Addr.block h))).trans ((hg.cell_far ⟨T,0,none⟩ hT n2).trans d0)
 ·exact(World.cell?_setCell_other w1 ⟨G,0,none⟩ ⟨T,1,none⟩ v (by simp)).trans ((hg.cell_far ⟨T,1,none⟩ hT n2).trans d1)
 ·rw[World.frozen?_setCell];exact(hg.frozen_far ⟨G,0,none⟩ hG n1).trans kf
theorem zp1{w W w1:World}{G g n cap g4 cap4:Nat}{s1 s2:Str}{xs:List Value}{rs:List (Rat × Nat)}(hG:Blk W G [.slice (some ⟨g,0,none⟩) n cap] 135)(hgrow:W.drew.grownBy w1 (Value.slice (some ⟨g,0,none⟩) n cap).ownBlock)
  (hown:w1.ownsRow (G+1) 139 2 (.slice (some ⟨g4,0,none⟩) (n+1) cap4) (n+1) (xs++[.string ⟨s1.toArray⟩,.string ⟨s2.toArray⟩]))(hB:Below G w W.drew)(hl:G<W.drew.heap.size)(hGg:G<g)
  (hr:zca (rs.map ofC)=xs++[.string ⟨s1.toArray⟩,.string ⟨s2.toArray⟩]∧rs.length=n+1)(hne:rs≠[]) :
  Below G w (w1.setCell ⟨G,0,none⟩ (.slice (some ⟨g4,0,none⟩) (n+1) cap4))∧zn4 (w1.setCell ⟨G,0,none⟩ (.slice (some ⟨g4,0,none⟩) (n+1) cap4)) G rs:=by
 have n1:some G≠(Value.slice (some ⟨g,0,none⟩) n cap).ownBlock:=fun e=>by
  have:=Option.some.inj e
  simp only at this;omega
 have bG:Blk w1 G [.slice (some ⟨g,0,none⟩) n cap] 135:=(hgrow.block G hl n1).trans hG
 have hb2:Below G w w1:=hB.grown hgrow (Nat.le_of_lt hl) (fun k hk=>by cases hk;exact Nat.le_of_lt hGg)
 refine⟨hb2.setCell (p:=⟨G,0,none⟩) (Nat.le_refl _) _,_,bG.set 0 _,fun e=>absurd e hne,?_⟩
 rw[hr.1,List.length_map,hr.2]
 exact ownsRow_setCell_below hown (by simp) _
theorem zgO{n:Nat}(h:n<10 ^ 80):lim (n:Int)=false:=zaN (n:=80) (by rw[Int.natAbs_natCast];exact h) (by decide)
theorem zoQ:∀ (cs:List (Rat × Nat)) (t:Rat × Nat),(zd6 cs t).length≤cs.length+1
 | [],_=>by simp[zd6]
 | c::r,t=>by
  unfold zd6
  have:=zoQ r t
  split <;> simp <;> omega
theorem zht:leftOf 1=1:=by unfold leftOf;rw[show ((1:Rat)).num.toNat*((1:Rat)).den=1 from rfl,zgJ]
end
end Go.Proofs.YthdpnkkddhcacaaGreatDoor
