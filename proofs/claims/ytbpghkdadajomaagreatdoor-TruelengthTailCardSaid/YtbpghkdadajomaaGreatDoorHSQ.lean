/-
  CD CE CF SqM CG CH LSquares, one behind the other (what SD leaves).
-/
import Derived.Test.YtbpghkdadajomaaGreatDoorHSD
set_option maxRecDepth 100000
set_option maxHeartbeats 2000000
namespace Go.Proofs.YtbpghkdadajomaaGreatDoor
section
open Go.RowKit Kp
open Go.Lib (decDigits)
theorem zi8(l:Nat)(hl:zmd l)(hb:Bd 40 (l:Rat))(w:World)(hE:Env w) :
  Calls Tryz.prog 138 #[.string ⟨(Lib.itoa (l:Int)).toArray⟩] w fun e w'=>e=.returned (.tuple #[.string ⟨#[49]⟩,.string ⟨(Lib.itoa (l:Int)).toArray⟩,.int .i64 0])∧Q w w':=by
 have h:=zei (l:Rat) (hb.root90 (by decide)) (by rw[Rat.num_natCast];have:=hl.1;omega) w hE
 rw[zT,Rat.num_natCast,Rat.den_natCast,Int.toNat_natCast,Nat.mul_one,hl.2]at h
 rw[show Rat.divInt ((1:Nat):Int) ((1:Nat):Int)=1 by rfl,zaM]at h
 exact h
theorem zjc(x:Rat)(l:Nat)(hx:zak x=false)(hx0:x≠0)(k60:zbi x≤60)(hl:zmd l)(hb:Bd 40 (l:Rat))(hl1:l=1)(w:World)(hE:Env w) :
  Calls Tryz.prog 91 #[.agg #[.string ⟨(za x).toArray⟩,.string ⟨(Lib.itoa (l:Int)).toArray⟩]] w fun e w'=>e=.returned (.int .i64 0)∧Q w w':=by
 have hlr:zak (l:Rat)=false:=hb.zak (by decide)
 have k40:zbi (l:Rat)≤40:=zbd hb (by decide)
 have HC1:=LH (fun w hw=>zm x hx w hw)
 have hc2:=fun w hw=>zm (l:Rat) hlr w hw
 have HL1:=LH (fun w hw=>zY x hx w hw)
 have hl2:=fun w hw=>zY (l:Rat) hlr w hw
 rw[zT]at hc2 hl2
 have HC2:=LH hc2
 have HL2:=LH hl2
 have HN:=LH (fun w hw=>zi8 l hl hb w hw)
 have hp:=hl.1
 have hz:(za x == [48])=false:=by
  rw[beq_eq_false_iff_ne,← zI];exact fun h=>hx0 (zav h)
 have hlz:(Lib.itoa (l:Int) == [48])=false:=by
  rw[beq_eq_false_iff_ne,← zN];exact fun h=>by have:=zan h;omega
 have hlo:(Lib.itoa (l:Int) == [49])=true:=by
  subst hl1;rw[show ((1:Nat):Int)=1 from rfl,zZ];rfl
 have hm:decide ((Lib.itoa (l:Int)).head? = some 45)=false:=by
  rw[itoa_nonneg (by omega),decide_eq_false_iff_not];exact zB _
 have hs:zad (Lib.itoa (l:Int))=false:=zcG _
 have hlen:(Lib.itoa (l:Int)).length≤301:=zac _ (by have:=(zA hlr).1;rwa[Rat.num_natCast]at this)
 have HH:=LH (fun w=>zG (Lib.itoa (l:Int)) w)
 have HS:=LH (fun w hw=>zd4 (Lib.itoa (l:Int)) (by omega) w hw)
 rw[hm]at HH
 have n1:=zai x
 have n2:=zai (l:Rat)
 clear hc2 hl2 hx hx0 hl hb hlr hl1 hm
 generalize zbi x=v1 at *
 generalize zbi (l:Rat)=v2 at *
 generalize za x=X at *
 generalize Lib.itoa (l:Int)=L at *
 go_enter Tryz.func91,Tryz.ntmps91
 go_wp2_with fail
 have B0:=Blk.new w [.string ⟨X.toArray⟩,.string ⟨L.toArray⟩] 84
 have hQ0:Q w (w.alloc (.cells [.string ⟨X.toArray⟩,.string ⟨L.toArray⟩].toArray 84)):=(Below.refl _ w).alloc (Nat.le_refl _) _
 refine(HC1.out _ (hE.q hQ0)).mono ?_
 rintro e w1⟨rfl,hq1⟩
 have hQ1:=Q.trans hQ0 hq1
 have B1:=B0.keep hq1 B0.lt
 have c0:=B1.cell 0
 have c1:=B1.cell 1
 simp only[zs4,zs5]at c0 c1
 go_wp2_with fail
 clear c0 c1
 refine(HC2.out _ (hE.q hQ1)).mono ?_
 rintro e w2⟨rfl,hq2⟩
 have hQ2:=Q.trans hQ1 hq2
 have B2:=B1.keep hq2 B1.lt
 have c0:=B2.cell 0
 have c1:=B2.cell 1
 simp only[zs4,zs5]at c0 c1
 go_wp2_with fail
 clear c0 c1
 refine(HL1.out _ (hE.q hQ2)).mono ?_
 rintro e w3⟨rfl,hq3⟩
 have hQ3:=Q.trans hQ2 hq3
 have B3:=B2.keep hq3 B2.lt
 have c0:=B3.cell 0
 have c1:=B3.cell 1
 simp only[zs4,zs5]at c0 c1
 go_wp2_with fail
 clear c0 c1
 refine(HL2.out _ (hE.q hQ3)).mono ?_
 rintro e w4⟨rfl,hq4⟩
 have hQ4:=Q.trans hQ3 hq4
 have B4:=B3.keep hq4 B3.lt
 have c0:=B4.cell 0
 have c1:=B4.cell 1
 simp only[zs4,zs5]at c0 c1
 go_wp2
 go_ret
 exact⟨rfl,hQ4⟩
theorem zhP(x:Rat)(l:Nat)(hx:zak x=false)(hx0:x≠0)(k60:zbi x≤60)(hl:zmd l)(hb:Bd 40 (l:Rat))(hl1:l≠1)(w:World)(hE:Env w) :
  Calls Tryz.prog 91 #[.agg #[.string ⟨(za x).toArray⟩,.string ⟨(Lib.itoa (l:Int)).toArray⟩]] w fun e w'=>e=.returned (.int .i64 0)∧Q w w':=by
 have hlr:zak (l:Rat)=false:=hb.zak (by decide)
 have k40:zbi (l:Rat)≤40:=zbd hb (by decide)
 have HC1:=LH (fun w hw=>zm x hx w hw)
 have hc2:=fun w hw=>zm (l:Rat) hlr w hw
 have HL1:=LH (fun w hw=>zY x hx w hw)
 have hl2:=fun w hw=>zY (l:Rat) hlr w hw
 rw[zT]at hc2 hl2
 have HC2:=LH hc2
 have HL2:=LH hl2
 have HN:=LH (fun w hw=>zi8 l hl hb w hw)
 have hp:=hl.1
 have hz:(za x == [48])=false:=by
  rw[beq_eq_false_iff_ne,← zI];exact fun h=>hx0 (zav h)
 have hlz:(Lib.itoa (l:Int) == [48])=false:=by
  rw[beq_eq_false_iff_ne,← zN];exact fun h=>by have:=zan h;omega
 have hlo:(Lib.itoa (l:Int) == [49])=false:=by
  rw[beq_eq_false_iff_ne,← zZ];exact fun h=>by have:=zan h;omega
 have hm:decide ((Lib.itoa (l:Int)).head? = some 45)=false:=by
  rw[itoa_nonneg (by omega),decide_eq_false_iff_not];exact zB _
 have hs:zad (Lib.itoa (l:Int))=false:=zcG _
 have hlen:(Lib.itoa (l:Int)).length≤301:=zac _ (by have:=(zA hlr).1;rwa[Rat.num_natCast]at this)
 have HH:=LH (fun w=>zG (Lib.itoa (l:Int)) w)
 have HS:=LH (fun w hw=>zd4 (Lib.itoa (l:Int)) (by omega) w hw)
 rw[hm]at HH
 have n1:=zai x
 have n2:=zai (l:Rat)
 clear hc2 hl2 hx hx0 hl hb hlr hl1 hm
 generalize zbi x=v1 at *
 generalize zbi (l:Rat)=v2 at *
 generalize za x=X at *
 generalize Lib.itoa (l:Int)=L at *
 go_enter Tryz.func91,Tryz.ntmps91
 go_wp2_with fail
 have B0:=Blk.new w [.string ⟨X.toArray⟩,.string ⟨L.toArray⟩] 84
 have hQ0:Q w (w.alloc (.cells [.string ⟨X.toArray⟩,.string ⟨L.toArray⟩].toArray 84)):=(Below.refl _ w).alloc (Nat.le_refl _) _
 refine(HC1.out _ (hE.q hQ0)).mono ?_
 rintro e w1⟨rfl,hq1⟩
 have hQ1:=Q.trans hQ0 hq1
 have B1:=B0.keep hq1 B0.lt
 have c0:=B1.cell 0
 have c1:=B1.cell 1
 simp only[zs4,zs5]at c0 c1
 go_wp2_with fail
 clear c0 c1
 refine(HC2.out _ (hE.q hQ1)).mono ?_
 rintro e w2⟨rfl,hq2⟩
 have hQ2:=Q.trans hQ1 hq2
 have B2:=B1.keep hq2 B1.lt
 have c0:=B2.cell 0
 have c1:=B2.cell 1
 simp only[zs4,zs5]at c0 c1
 go_wp2_with fail
 clear c0 c1
 refine(HL1.out _ (hE.q hQ2)).mono ?_
 rintro e w3⟨rfl,hq3⟩
 have hQ3:=Q.trans hQ2 hq3
 have B3:=B2.keep hq3 B2.lt
 have c0:=B3.cell 0
 have c1:=B3.cell 1
 simp only[zs4,zs5]at c0 c1
 go_wp2_with fail
 clear c0 c1
 refine(HL2.out _ (hE.q hQ3)).mono ?_
 rintro e w4⟨rfl,hq4⟩
 have hQ4:=Q.trans hQ3 hq4
 have B4:=B3.keep hq4 B3.lt
 have c0:=B4.cell 0
 have c1:=B4.cell 1
 simp only[zs4,zs5]at c0 c1
 go_wp2_with fail
 refine(HH.out _).mono ?_
 rintro e w5⟨rfl,rfl⟩
 go_wp2_with fail
 refine(HS.out _ (hE.q hQ4)).mono ?_
 rintro e w5⟨rfl,rfl⟩
 rw[hs]
 clear c0 hs
 go_wp2_with fail
 clear c1
 refine(HN.out _ (hE.q hQ4)).mono ?_
 rintro e w5⟨rfl,hq5⟩
 have hQ5:=Q.trans hQ4 hq5
 have B5:=B4.keep hq5 B4.lt
 have c0:=B5.cell 0
 have c1:=B5.cell 1
 simp only[zs4,zs5]at c0 c1
 go_wp2
 go_ret
 exact⟨rfl,hQ5⟩
theorem zlg(x:Rat)(l:Nat)(hx:zak x=false)(hx0:x≠0)(k60:zbi x≤60)(hl:zmd l)(hb:Bd 40 (l:Rat))(w:World)(hE:Env w) :
  Calls Tryz.prog 91 #[.agg #[.string ⟨(za x).toArray⟩,.string ⟨(Lib.itoa (l:Int)).toArray⟩]] w fun e w'=>e=.returned (.int .i64 0)∧Q w w':=by
 by_cases h1:l=1
 ·exact zjc x l hx hx0 k60 hl hb h1 w hE
 ·exact zhP x l hx hx0 k60 hl hb h1 w hE
end
section
open Go.RowKit Kp
open Go.Lib (decDigits)
def zaJ(w:World)(B:Nat)(v:Value)(x:Rat)(l:Nat):Prop :=
 w.ownsRow B 84 2 v 1 [.string ⟨(za x).toArray⟩,.string ⟨(Lib.itoa (l:Int)).toArray⟩]
structure Term1 (x:Rat) (l:Nat):Prop where
 lim:zak x=false
 ne:x≠0
 c60:zbi x≤60
 norm:zmd l
 c40:Bd 40 (l:Rat)
theorem zaV(x:Rat)(l:Nat)(ht:Term1 x l)(B:Nat)(v:Value)(w:World)(hE:Env w)(hv:zaJ w B v x l) :
  Calls Tryz.prog 42 #[v] w fun e w'=>e=.returned (.int .i64 0)∧Q w w':=by
 have HR:=LH (fun w hw=>zlg x l ht.lim ht.ne ht.c60 ht.norm ht.c40 w hw)
 unfold zaJ at hv
 generalize za x=X at *
 generalize Lib.itoa (l:Int)=L at *
 clear ht
 obtain⟨g,cap,rfl,hg1,hg2⟩:=hv.form (by omega)
 go_enter Tryz.func42,Tryz.ntmps42
 go_wp2
 go_loopw [13] (fun i wr=>∃ k:Nat,k≤1∧i=.int .i64 k∧Q w wr) (fun i _=>1 - (intOf i).toNat)
 case atStart=>exact⟨0,by omega,rfl,Q.refl _⟩
 case round =>
  obtain⟨k,hk,rfl,hQ⟩:=hrel
  rcases(show k=0∨k=1 by omega)with rfl | rfl
  ·have hrow:=zf hv hQ
   have e0:=hrow.cellAt 0 (by omega)
   have e1:=hrow.cellAt 1 (by omega)
   simp only[zs4,zs5]at e0 e1
   go_wp2_with fail
   refine(HR.out _ (hE.q (hQ.alloc hQ.size _))).mono ?_
   rintro e w1⟨rfl,hq1⟩
   have hQ1:=Q.trans (hQ.alloc hQ.size _) hq1
   clear e0 e1
   go_wp2
   go_roundw
   case rel=>exact⟨1,by omega,by go_num,hQ1⟩
   case measure=>simp[intOf]
  ·go_wp2
   go_ret
   exact⟨rfl,hQ⟩
theorem zkb(x y:Rat)(l m:Nat)(hx:Term1 x l)(hy:Term1 y m)(B1 B2:Nat)(v1 v2:Value)(w:World)(hE:Env w)(h1:zaJ w B1 v1 x l)(h2:zaJ w B2 v2 y m) :
  Calls Tryz.prog 39 #[v1,v2] w fun e w'=>e=.returned (.bool true)∧Q w w':=by
 have HC1:=LH (zaV x l hx B1 v1 w hE h1)
 have HC2:=LH (fun w' (hq:Q w w')=>zaV y m hy B2 v2 w' (hE.q hq) (zf h2 hq))
 unfold zaJ at h1 h2
 obtain⟨g1,c1,rfl,-,-⟩:=h1.form (by omega)
 obtain⟨g2,c2,rfl,-,-⟩:=h2.form (by omega)
 clear hx hy h1 h2
 go_enter Tryz.func39,Tryz.ntmps39
 go_wp2_with fail
 refine HC1.out.mono ?_
 rintro e w1⟨rfl,hq1⟩
 go_wp2_with fail
 refine(HC2.out _ hq1).mono ?_
 rintro e w2⟨rfl,hq2⟩
 have hQ2:=Q.trans hq1 hq2
 go_wp2
 go_ret
 exact⟨rfl,hQ2⟩
end
section
open Go.RowKit Kp
open Go.Lib (decDigits)
end
end Go.Proofs.YtbpghkdadajomaaGreatDoor
namespace Kp
theorem zl3{c r l:Nat}(hc:0<c)(h:c*c*l=r*r):∃ t,r=c*t∧l=t*t:=by
 have h1:c*c ∣ r*r:=⟨l,h.symm⟩
 have h2:c ∣ r:=by
  have:=(Nat.pow_dvd_pow_iff (a:=c) (b:=r) (n:=2) (by decide)).1 (by rw[Nat.pow_two,Nat.pow_two];exact h1)
  exact this
 obtain⟨t,ht⟩:=h2
 refine⟨t,ht,?_⟩
 have h3:c*c*l=c*c*(t*t):=by rw[h,ht];grind
 exact Nat.eq_of_mul_eq_mul_left (Nat.mul_pos hc hc) h3
theorem zqE{r:Nat}(hr:0<r):zaI (r*r)=(r,1):=by
 obtain⟨a,b,d,f⟩:=zcc zJ zdV 1 (r*r) (Nat.mul_pos hr hr) (by decide)
 unfold zaI
 generalize (zK zJ (1,r*r)).1=c at *
 generalize (zK zJ (1,r*r)).2=l at *
 obtain⟨t,ht,hl⟩:=zl3 (r:=r) b (by rw[d];simp)
 have hi:zl l=t:=zet ⟨by omega,by rw[hl];exact Nat.mul_lt_mul_of_lt_of_lt (by omega) (by omega)⟩
 rw[hi,if_pos hl.symm,← ht]
end Kp
namespace Go.Proofs.YtbpghkdadajomaaGreatDoor
section
open Kp
theorem ziS(s:Rat)(hs:0<s.num):(1 / s).num=s.den∧(1 / s).den=s.num.toNat:=by
 rw[zpF s hs]
 obtain⟨e1,e2⟩:=zcv (s.den:Int) s.num.toNat (by omega)
 have hg:Nat.gcd (s.den:Int).natAbs s.num.toNat=1:=by
  have h:=s.reduced
  rw[Int.natAbs_natCast,Nat.gcd_comm,show s.num.toNat=s.num.natAbs by omega];exact h
 rw[hg]at e1 e2
 refine⟨by rw[e1];simp,?_⟩
 have:((Rat.divInt (s.den:Int) (s.num.toNat:Int)).den:Int)=(s.num.toNat:Int):=by rw[e2];simp
 omega
theorem zmT(s:Rat)(hs:0<s.num):∃ C L N D:Rat,N≠0∧D≠0∧C*C*L=N*D∧s*D=N∧aOf s=C / D∧aOf (1 / s)=C / N∧(leftOf s:Rat)=L:=by
 have hm:0<s.num.toNat*s.den:=Nat.mul_pos (by omega) s.den_pos
 obtain⟨h1,h2,h3,h4⟩:=zdZ hm
 have hd:=s.den_nz
 have hD:(s.den:Rat)≠0:=fun e=>hd (by exact_mod_cast e)
 have hN:(s.num.toNat:Rat)≠0:=fun e=>by
  have:s.num.toNat=0:=by exact_mod_cast e
  omega
 refine⟨((zaI (s.num.toNat*s.den)).1:Rat),(leftOf s:Rat),(s.num.toNat:Rat),(s.den:Rat),hN,hD,?_,?_,?_,?_,rfl⟩
 ·have:=congrArg (Nat.cast (R:=Rat)) h3
  unfold leftOf
  simpa[Rat.natCast_mul]using this
 ·have h5:(s.num:Rat) / ((s.den:Int):Rat)=s:=by rw[← Rat.divInt_eq_div];exact Rat.num_divInt_den s
  rw[Rat.intCast_natCast]at h5
  have h6:((s.num.toNat:Nat):Rat)=(s.num:Rat):=by
   rw[← Rat.intCast_natCast];congr 1;omega
  rw[h6]
  grind
 ·unfold aOf
  rw[Rat.divInt_eq_div,Rat.intCast_natCast,Rat.intCast_natCast]
 ·unfold aOf
  rw[(ziS s hs).1,(ziS s hs).2,Int.toNat_natCast,Nat.mul_comm s.den,Rat.divInt_eq_div,Rat.intCast_natCast,Rat.intCast_natCast]
end
section
open Go.RowKit Kp
open Go.Lib (decDigits)
theorem zdP.good{w:World}{x:Rat}{l:Nat}{e:Ending}{w':World}(h:zdP w x (l:Rat) e w')(ht:zbi x≤60)(hl:zbi (l:Rat)≤40) :
  Q w w'∧∃ v,e=.returned (.tuple #[v,.int .i64 0])∧zaJ w' w.heap.size v x l:=by
 obtain⟨h1,⟨_,_,v,hv,ho⟩|⟨h2,_⟩⟩:=h
 ·refine⟨h1,v,hv,?_⟩
  unfold zaJ;rw[zT]at ho;exact ho
 ·omega
end
section
open Go.RowKit Kp
open Go.Lib (decDigits)
theorem zkD:zmd 1:=⟨by decide,zeZ⟩
theorem nat_ne{l:Nat}(h:0<l):(l:Rat)≠0:=fun e=>by
 have:l=0:=by exact_mod_cast e
 omega
theorem zU{w w':World}{B:Nat}{v:Value}{x:Rat}{l:Nat}(h:zaJ w B v x l)(hq:Q w w'):zaJ w' B v x l:=zf h hq
end
section
open Go.RowKit Kp
open Go.Lib (decDigits)
theorem zdn{x:Int}(h:(Go.Lit.int .u8 x).wf=true):0≤x∧x≤255:=by
 have h2:(decide (IntKind.min .u8≤x) && decide (x≤IntKind.max .u8))=true:=h
 rw[show IntKind.min .u8=0 from rfl,show IntKind.max .u8=255 from rfl]at h2
 simpa using h2
end
end Go.Proofs.YtbpghkdadajomaaGreatDoor
