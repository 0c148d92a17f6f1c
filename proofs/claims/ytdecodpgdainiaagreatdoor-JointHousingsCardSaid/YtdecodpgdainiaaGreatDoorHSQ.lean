/-
  CD CE CF SqM CG CH LSquares, one behind the other (what SD leaves).
-/
import Derived.Test.YtdecodpgdainiaaGreatDoorHSD
set_option maxRecDepth 100000
set_option maxHeartbeats 2000000
namespace Go.Proofs.YtdecodpgdainiaaGreatDoor
section
open Go.RowKit Kp
open Go.Lib (decDigits)
theorem zjR(l:Nat)(hl:zeB l)(hb:Bd 40 (l:Rat))(w:World)(hE:Env w) :
  CR 66 #[.string ⟨(Lib.itoa (l:Int)).toArray⟩] w (.tuple #[.string ⟨#[49]⟩,.string ⟨(Lib.itoa (l:Int)).toArray⟩,.int .i64 0]):=by
 have h:=zi0 (l:Rat) (hb.root90 (by decide)) (by rw[Rat.num_natCast];have:=hl.1;omega) w hE
 rw[zbf,Rat.num_natCast,Rat.den_natCast,Int.toNat_natCast,Nat.mul_one,hl.2]at h
 rw[show Rat.divInt ((1:Nat):Int) ((1:Nat):Int)=1 by rfl,zdC]at h
 exact h
theorem zjW(x:Rat)(l:Nat)(hx:zak x=false)(hx0:x≠0)(k60:zaL x≤60)(hl:zeB l)(hb:Bd 40 (l:Rat))(hl1:l=1)(w:World)(hE:Env w) :
  CR 162 #[.agg #[.string ⟨(za x).toArray⟩,.string ⟨(Lib.itoa (l:Int)).toArray⟩]] w (.int .i64 0):=by
 have hlr:zak (l:Rat)=false:=hb.zak (by decide)
 have k40:zaL (l:Rat)≤40:=zdH hb (by decide)
 have HC1:=LH (fun w hw=>zO x hx w hw)
 have hc2:=fun w hw=>zO (l:Rat) hlr w hw
 have HL1:=LH (fun w hw=>zaY x hx w hw)
 have hl2:=fun w hw=>zaY (l:Rat) hlr w hw
 rw[zbf]at hc2 hl2
 have HC2:=LH hc2
 have HL2:=LH hl2
 have HN:=LH (fun w hw=>zjR l hl hb w hw)
 have hp:=hl.1
 have hz:(za x == [48])=false:=by
  rw[beq_eq_false_iff_ne,← zav];exact fun h=>hx0 (zaR h)
 have hlz:(Lib.itoa (l:Int) == [48])=false:=by
  rw[beq_eq_false_iff_ne,← zP];exact fun h=>by have:=zaj h;omega
 have hlo:(Lib.itoa (l:Int) == [49])=true:=by
  subst hl1;rw[show ((1:Nat):Int)=1 from rfl,zac];rfl
 have hm:decide ((Lib.itoa (l:Int)).head? = some 45)=false:=by
  rw[itoa_nonneg (by omega),decide_eq_false_iff_not];exact zA _
 have hs:zZ (Lib.itoa (l:Int))=false:=zcJ _
 have hlen:(Lib.itoa (l:Int)).length≤301:=zV _ (by have:=(zw hlr).1;rwa[Rat.num_natCast]at this)
 have HH:=LH (fun w=>zU (Lib.itoa (l:Int)) w)
 have HS:=LH (fun w hw=>zee (Lib.itoa (l:Int)) (by omega) w hw)
 rw[hm]at HH
 have n1:=zae x
 have n2:=zae (l:Rat)
 clear hc2 hl2 hx hx0 hl hb hlr hl1 hm
 generalize zaL x=v1 at *
 generalize zaL (l:Rat)=v2 at *
 generalize za x=X at *
 generalize Lib.itoa (l:Int)=L at *
 go_enter Tryz.func162,Tryz.ntmps162
 go_wp2_with fail
 have B0:=Blk.new w [.string ⟨X.toArray⟩,.string ⟨L.toArray⟩] 40
 have hQ0:Q w (w.alloc (.cells [.string ⟨X.toArray⟩,.string ⟨L.toArray⟩].toArray 40)):=(Below.refl _ w).alloc (Nat.le_refl _) _
 refine cx (HC1.out _ (hE.q hQ0)) fun w1 hq1=>?_
 have hQ1:=Q.trans hQ0 hq1
 have B1:=B0.keep hq1 B0.lt
 have c0:=B1.cell
 go_wp2_with fail
 clear c0
 refine cx (HC2.out _ (hE.q hQ1)) fun w2 hq2=>?_
 have hQ2:=Q.trans hQ1 hq2
 have B2:=B1.keep hq2 B1.lt
 have c0:=B2.cell
 go_wp2_with fail
 clear c0
 refine cx (HL1.out _ (hE.q hQ2)) fun w3 hq3=>?_
 have hQ3:=Q.trans hQ2 hq3
 have B3:=B2.keep hq3 B2.lt
 have c0:=B3.cell
 go_wp2_with fail
 clear c0
 refine cx (HL2.out _ (hE.q hQ3)) fun w4 hq4=>?_
 have hQ4:=Q.trans hQ3 hq4
 have B4:=B3.keep hq4 B3.lt
 have c0:=B4.cell
 go_wp2
 go_ret
 exact⟨rfl,hQ4⟩
theorem zih(x:Rat)(l:Nat)(hx:zak x=false)(hx0:x≠0)(k60:zaL x≤60)(hl:zeB l)(hb:Bd 40 (l:Rat))(hl1:l≠1)(w:World)(hE:Env w) :
  CR 162 #[.agg #[.string ⟨(za x).toArray⟩,.string ⟨(Lib.itoa (l:Int)).toArray⟩]] w (.int .i64 0):=by
 have hlr:zak (l:Rat)=false:=hb.zak (by decide)
 have k40:zaL (l:Rat)≤40:=zdH hb (by decide)
 have HC1:=LH (fun w hw=>zO x hx w hw)
 have hc2:=fun w hw=>zO (l:Rat) hlr w hw
 have HL1:=LH (fun w hw=>zaY x hx w hw)
 have hl2:=fun w hw=>zaY (l:Rat) hlr w hw
 rw[zbf]at hc2 hl2
 have HC2:=LH hc2
 have HL2:=LH hl2
 have HN:=LH (fun w hw=>zjR l hl hb w hw)
 have hp:=hl.1
 have hz:(za x == [48])=false:=by
  rw[beq_eq_false_iff_ne,← zav];exact fun h=>hx0 (zaR h)
 have hlz:(Lib.itoa (l:Int) == [48])=false:=by
  rw[beq_eq_false_iff_ne,← zP];exact fun h=>by have:=zaj h;omega
 have hlo:(Lib.itoa (l:Int) == [49])=false:=by
  rw[beq_eq_false_iff_ne,← zac];exact fun h=>by have:=zaj h;omega
 have hm:decide ((Lib.itoa (l:Int)).head? = some 45)=false:=by
  rw[itoa_nonneg (by omega),decide_eq_false_iff_not];exact zA _
 have hs:zZ (Lib.itoa (l:Int))=false:=zcJ _
 have hlen:(Lib.itoa (l:Int)).length≤301:=zV _ (by have:=(zw hlr).1;rwa[Rat.num_natCast]at this)
 have HH:=LH (fun w=>zU (Lib.itoa (l:Int)) w)
 have HS:=LH (fun w hw=>zee (Lib.itoa (l:Int)) (by omega) w hw)
 rw[hm]at HH
 have n1:=zae x
 have n2:=zae (l:Rat)
 clear hc2 hl2 hx hx0 hl hb hlr hl1 hm
 generalize zaL x=v1 at *
 generalize zaL (l:Rat)=v2 at *
 generalize za x=X at *
 generalize Lib.itoa (l:Int)=L at *
 go_enter Tryz.func162,Tryz.ntmps162
 go_wp2_with fail
 have B0:=Blk.new w [.string ⟨X.toArray⟩,.string ⟨L.toArray⟩] 40
 have hQ0:Q w (w.alloc (.cells [.string ⟨X.toArray⟩,.string ⟨L.toArray⟩].toArray 40)):=(Below.refl _ w).alloc (Nat.le_refl _) _
 refine cx (HC1.out _ (hE.q hQ0)) fun w1 hq1=>?_
 have hQ1:=Q.trans hQ0 hq1
 have B1:=B0.keep hq1 B0.lt
 have c0:=B1.cell
 go_wp2_with fail
 clear c0
 refine cx (HC2.out _ (hE.q hQ1)) fun w2 hq2=>?_
 have hQ2:=Q.trans hQ1 hq2
 have B2:=B1.keep hq2 B1.lt
 have c0:=B2.cell
 go_wp2_with fail
 clear c0
 refine cx (HL1.out _ (hE.q hQ2)) fun w3 hq3=>?_
 have hQ3:=Q.trans hQ2 hq3
 have B3:=B2.keep hq3 B2.lt
 have c0:=B3.cell
 go_wp2_with fail
 clear c0
 refine cx (HL2.out _ (hE.q hQ3)) fun w4 hq4=>?_
 have hQ4:=Q.trans hQ3 hq4
 have B4:=B3.keep hq4 B3.lt
 have c0:=B4.cell
 go_wp2_with fail
 refine(HH.out _).mono ?_
 rintro e w5⟨rfl,rfl⟩
 go_wp2_with fail
 refine(HS.out _ (hE.q hQ4)).mono ?_
 rintro e w5⟨rfl,rfl⟩
 rw[hs]
 clear hs
 go_wp2_with fail
 refine cx (HN.out _ (hE.q hQ4)) fun w5 hq5=>?_
 have hQ5:=Q.trans hQ4 hq5
 have B5:=B4.keep hq5 B4.lt
 have c0:=B5.cell
 go_wp2
 go_ret
 exact⟨rfl,hQ5⟩
theorem zma(x:Rat)(l:Nat)(hx:zak x=false)(hx0:x≠0)(k60:zaL x≤60)(hl:zeB l)(hb:Bd 40 (l:Rat))(w:World)(hE:Env w) :
  CR 162 #[.agg #[.string ⟨(za x).toArray⟩,.string ⟨(Lib.itoa (l:Int)).toArray⟩]] w (.int .i64 0):=by
 by_cases h1:l=1
 ·exact zjW x l hx hx0 k60 hl hb h1 w hE
 ·exact zih x l hx hx0 k60 hl hb h1 w hE
end
section
open Go.RowKit Kp
open Go.Lib (decDigits)
def zss(w:World)(B:Nat)(v:Value)(x:Rat)(l:Nat):Prop :=
 w.ownsRow B 40 2 v 1 [.string ⟨(za x).toArray⟩,.string ⟨(Lib.itoa (l:Int)).toArray⟩]
structure Term1 (x:Rat) (l:Nat):Prop where
 lim:zak x=false
 ne:x≠0
 c60:zaL x≤60
 norm:zeB l
 c40:Bd 40 (l:Rat)
end
section
open Go.RowKit Kp
open Go.Lib (decDigits)
end
end Go.Proofs.YtdecodpgdainiaaGreatDoor
namespace Kp
theorem zq9{c r l:Nat}(hc:0<c)(h:c*c*l=r*r):∃ t,r=c*t∧l=t*t:=by
 have h1:c*c ∣ r*r:=⟨l,h.symm⟩
 have h2:c ∣ r:=by
  have:=(Nat.pow_dvd_pow_iff (a:=c) (b:=r) (n:=2) (by decide)).1 (by rw[Nat.pow_two,Nat.pow_two];exact h1)
  exact this
 obtain⟨t,ht⟩:=h2
 refine⟨t,ht,?_⟩
 have h3:c*c*l=c*c*(t*t):=by rw[h,ht];grind
 exact Nat.eq_of_mul_eq_mul_left (Nat.mul_pos hc hc) h3
theorem zoc{r:Nat}(hr:0<r):zaJ (r*r)=(r,1):=by
 obtain⟨a,b,d,f⟩:=zci zJ zd6 1 (r*r) (Nat.mul_pos hr hr) (by decide)
 unfold zaJ
 generalize (zK zJ (1,r*r)).1=c at *
 generalize (zK zJ (1,r*r)).2=l at *
 obtain⟨t,ht,hl⟩:=zq9 (r:=r) b (by rw[d];simp)
 have hi:zm l=t:=zeu ⟨by omega,by rw[hl];exact Nat.mul_lt_mul_of_lt_of_lt (by omega) (by omega)⟩
 rw[hi,if_pos hl.symm,← ht]
end Kp
namespace Go.Proofs.YtdecodpgdainiaaGreatDoor
section
open Kp
theorem zjx(s:Rat)(hs:0<s.num):(1 / s).num=s.den∧(1 / s).den=s.num.toNat:=by
 rw[zsG s hs]
 obtain⟨e1,e2⟩:=zcg (s.den:Int) s.num.toNat (by omega)
 have hg:Nat.gcd (s.den:Int).natAbs s.num.toNat=1:=by
  have h:=s.reduced
  rw[Int.natAbs_natCast,Nat.gcd_comm,show s.num.toNat=s.num.natAbs by omega];exact h
 rw[hg]at e1 e2
 refine⟨by rw[e1];simp,?_⟩
 have:((Rat.divInt (s.den:Int) (s.num.toNat:Int)).den:Int)=(s.num.toNat:Int):=by rw[e2];simp
 omega
theorem zjM(s:Rat)(hs:0<s.num):∃ C L N D:Rat,N≠0∧D≠0∧C*C*L=N*D∧s*D=N∧aOf s=C / D∧aOf (1 / s)=C / N∧(leftOf s:Rat)=L:=by
 have hm:0<s.num.toNat*s.den:=Nat.mul_pos (by omega) s.den_pos
 obtain⟨h1,h2,h3,h4⟩:=zd9 hm
 have hd:=s.den_nz
 have hD:(s.den:Rat)≠0:=fun e=>hd (by exact_mod_cast e)
 have hN:(s.num.toNat:Rat)≠0:=fun e=>by
  have:s.num.toNat=0:=by exact_mod_cast e
  omega
 refine⟨((zaJ (s.num.toNat*s.den)).1:Rat),(leftOf s:Rat),(s.num.toNat:Rat),(s.den:Rat),hN,hD,?_,?_,?_,?_,rfl⟩
 ·have:=congrArg (Nat.cast (R:=Rat)) h3
  unfold leftOf
  simpa[Rat.natCast_mul]using this
 ·have h5:(s.num:Rat) / ((s.den:Int):Rat)=s:=by rw[← Rat.divInt_eq_div];exact Rat.num_divInt_den s
  rw[Rat.intCast_natCast]at h5
  have h6:((s.num.toNat:Nat):Rat)=(s.num:Rat):=by
   rw[← Rat.intCast_natCast];congr 1;omega
  rw[h6]
  grind
 ·unfold aOf
  rw[Rat.divInt_eq_div,Rat.intCast_natCast,Rat.intCast_natCast]
 ·unfold aOf
  rw[(zjx s hs).1,(zjx s hs).2,Int.toNat_natCast,Nat.mul_comm s.den,Rat.divInt_eq_div,Rat.intCast_natCast,Rat.intCast_natCast]
end
section
open Go.RowKit Kp
open Go.Lib (decDigits)
end
section
open Go.RowKit Kp
open Go.Lib (decDigits)
theorem zlq:zeB 1:=⟨by decide,zgR⟩
theorem nat_ne{l:Nat}(h:0<l):(l:Rat)≠0:=fun e=>by
 have:l=0:=by exact_mod_cast e
 omega
theorem zkm{w w':World}{B:Nat}{v:Value}{x:Rat}{l:Nat}(h:zss w B v x l)(hq:Q w w'):zss w' B v x l:=zl h hq
end
section
open Go.RowKit Kp
open Go.Lib (decDigits)
theorem zrR(w:World):(Builtin.max_ #[29,29,29,29] 29 #[.int .i64 0,.int .i64 0,.int .i64 0,.int .i64 0]).run Tryz.prog w=.ok (.int .i64 0) w:=by kernel_rfl
theorem zn5{x:Int}(h:(Go.Lit.int .u8 x).wf=true):0≤x∧x≤255:=by
 have h2:(decide (IntKind.min .u8≤x) && decide (x≤IntKind.max .u8))=true:=h
 rw[show IntKind.min .u8=0 from rfl,show IntKind.max .u8=255 from rfl]at h2
 simpa using h2
end
end Go.Proofs.YtdecodpgdainiaaGreatDoor
