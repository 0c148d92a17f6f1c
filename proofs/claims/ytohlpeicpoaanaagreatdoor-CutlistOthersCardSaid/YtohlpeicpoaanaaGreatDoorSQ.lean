/-
  CD CE CF SqM CG CH LSquares, one behind the other (what SD leaves).
-/
import Derived.Test.YtohlpeicpoaanaaGreatDoorSD
namespace Go.Proofs.YtohlpeicpoaanaaGreatDoor
section
open Go.RowKit Kp
open Go.Lib (decDigits)
theorem Normal_norm (l:Nat) (hl:NormL l) (hb:Bd 40 (l:Rat)) (w:World) (hE:Env w) :
  Calls Tryz.prog 153 #[.string ⟨(Lib.itoa (l:Int)).toArray⟩] w fun e w'=>e=.returned (.tuple #[.string ⟨#[49]⟩,.string ⟨(Lib.itoa (l:Int)).toArray⟩,.int .i64 0])∧Q w w':=by
 have h:=root_Normal (l:Rat) (hb.root90 (by decide)) (by rw [Rat.num_natCast]; have:=hl.1; omega) w hE
 rw [rstr_nat,Rat.num_natCast,Rat.den_natCast,Int.toNat_natCast,Nat.mul_one,hl.2] at h
 rw [show Rat.divInt ((1:Nat):Int) ((1:Nat):Int)=1 by rfl,rstr_one] at h
 exact h
set_option maxRecDepth 100000 in
set_option maxHeartbeats 2000000 in
theorem surd_right_one (x:Rat) (l:Nat) (hx:rlim x=false) (hx0:x≠0) (k60:longV x≤60) (hl:NormL l) (hb:Bd 40 (l:Rat)) (hl1:l=1) (w:World) (hE:Env w) :
  Calls Tryz.prog 200 #[.agg #[.string ⟨(rstr x).toArray⟩,.string ⟨(Lib.itoa (l:Int)).toArray⟩]] w fun e w'=>e=.returned (.int .i64 0)∧Q w w':=by
 have hlr:rlim (l:Rat)=false:=hb.rlim (by decide)
 have k40:longV (l:Rat)≤40:=longV_bd hb (by decide)
 have HC1:=LH (fun w hw=>rational_Check_num x hx w hw)
 have hc2:=fun w hw=>rational_Check_num (l:Rat) hlr w hw
 have HL1:=LH (fun w hw=>surd_longest_g x hx w hw)
 have hl2:=fun w hw=>surd_longest_g (l:Rat) hlr w hw
 rw [rstr_nat] at hc2 hl2
 have HC2:=LH hc2
 have HL2:=LH hl2
 have HN:=LH (fun w hw=>Normal_norm l hl hb w hw)
 have hp:=hl.1
 have hz:(rstr x == [48])=false:=by
  rw [beq_eq_false_iff_ne,← rstr_zero]; exact fun h=>hx0 (rstr_inj h)
 have hlz:(Lib.itoa (l:Int) == [48])=false:=by
  rw [beq_eq_false_iff_ne,← itoa_zero]; exact fun h=>by have:=itoa_inj h; omega
 have hlo:(Lib.itoa (l:Int) == [49])=true:=by
  subst hl1; rw [show ((1:Nat):Int)=1 from rfl,itoa_one]; rfl
 have hm:decide ((Lib.itoa (l:Int)).head?=some 45)=false:=by
  rw [itoa_nonneg (by omega),decide_eq_false_iff_not]; exact decDigits_head_ne_minus _
 have hs:hasSlash (Lib.itoa (l:Int))=false:=hasSlash_whole _
 have hlen:(Lib.itoa (l:Int)).length≤301:=itoa_len _ (by have:=(rlim_parts hlr).1; rwa [Rat.num_natCast] at this)
 have HH:=LH (fun w=>lib_HasMinus (Lib.itoa (l:Int)) w)
 have HS:=LH (fun w hw=>lib_ContainsSlash (Lib.itoa (l:Int)) (by omega) w hw)
 rw [hm] at HH
 have n1:=longV_nonneg x
 have n2:=longV_nonneg (l:Rat)
 clear hc2 hl2 hx hx0 hl hb hlr hl1 hm
 generalize longV x=v1 at *
 generalize longV (l:Rat)=v2 at *
 generalize rstr x=X at *
 generalize Lib.itoa (l:Int)=L at *
 go_enter Tryz.func200,Tryz.ntmps200
 go_wp2_with fail
 have B0:=Blk.new w [.string ⟨X.toArray⟩,.string ⟨L.toArray⟩] 225
 have hQ0:Q w (w.alloc (.cells [.string ⟨X.toArray⟩,.string ⟨L.toArray⟩].toArray 225)):=(Below.refl _ w).alloc (Nat.le_refl _) _
 refine (HC1.out _ (hE.q hQ0)).mono ?_
 rintro e w1 ⟨rfl,hq1⟩
 have hQ1:=Q.trans hQ0 hq1
 have B1:=B0.keep hq1 B0.lt
 have c0:=B1.cell 0
 have c1:=B1.cell 1
 simp only [zs4,zs5] at c0 c1
 go_wp2_with fail
 clear c0 c1
 refine (HC2.out _ (hE.q hQ1)).mono ?_
 rintro e w2 ⟨rfl,hq2⟩
 have hQ2:=Q.trans hQ1 hq2
 have B2:=B1.keep hq2 B1.lt
 have c0:=B2.cell 0
 have c1:=B2.cell 1
 simp only [zs4,zs5] at c0 c1
 go_wp2_with fail
 clear c0 c1
 refine (HL1.out _ (hE.q hQ2)).mono ?_
 rintro e w3 ⟨rfl,hq3⟩
 have hQ3:=Q.trans hQ2 hq3
 have B3:=B2.keep hq3 B2.lt
 have c0:=B3.cell 0
 have c1:=B3.cell 1
 simp only [zs4,zs5] at c0 c1
 go_wp2_with fail
 clear c0 c1
 refine (HL2.out _ (hE.q hQ3)).mono ?_
 rintro e w4 ⟨rfl,hq4⟩
 have hQ4:=Q.trans hQ3 hq4
 have B4:=B3.keep hq4 B3.lt
 have c0:=B4.cell 0
 have c1:=B4.cell 1
 simp only [zs4,zs5] at c0 c1
 go_wp2
 go_ret
 exact ⟨rfl,hQ4⟩
set_option maxRecDepth 100000 in
set_option maxHeartbeats 2000000 in
theorem surd_right_other (x:Rat) (l:Nat) (hx:rlim x=false) (hx0:x≠0) (k60:longV x≤60) (hl:NormL l) (hb:Bd 40 (l:Rat)) (hl1:l≠1) (w:World) (hE:Env w) :
  Calls Tryz.prog 200 #[.agg #[.string ⟨(rstr x).toArray⟩,.string ⟨(Lib.itoa (l:Int)).toArray⟩]] w fun e w'=>e=.returned (.int .i64 0)∧Q w w':=by
 have hlr:rlim (l:Rat)=false:=hb.rlim (by decide)
 have k40:longV (l:Rat)≤40:=longV_bd hb (by decide)
 have HC1:=LH (fun w hw=>rational_Check_num x hx w hw)
 have hc2:=fun w hw=>rational_Check_num (l:Rat) hlr w hw
 have HL1:=LH (fun w hw=>surd_longest_g x hx w hw)
 have hl2:=fun w hw=>surd_longest_g (l:Rat) hlr w hw
 rw [rstr_nat] at hc2 hl2
 have HC2:=LH hc2
 have HL2:=LH hl2
 have HN:=LH (fun w hw=>Normal_norm l hl hb w hw)
 have hp:=hl.1
 have hz:(rstr x == [48])=false:=by
  rw [beq_eq_false_iff_ne,← rstr_zero]; exact fun h=>hx0 (rstr_inj h)
 have hlz:(Lib.itoa (l:Int) == [48])=false:=by
  rw [beq_eq_false_iff_ne,← itoa_zero]; exact fun h=>by have:=itoa_inj h; omega
 have hlo:(Lib.itoa (l:Int) == [49])=false:=by
  rw [beq_eq_false_iff_ne,← itoa_one]; exact fun h=>by have:=itoa_inj h; omega
 have hm:decide ((Lib.itoa (l:Int)).head?=some 45)=false:=by
  rw [itoa_nonneg (by omega),decide_eq_false_iff_not]; exact decDigits_head_ne_minus _
 have hs:hasSlash (Lib.itoa (l:Int))=false:=hasSlash_whole _
 have hlen:(Lib.itoa (l:Int)).length≤301:=itoa_len _ (by have:=(rlim_parts hlr).1; rwa [Rat.num_natCast] at this)
 have HH:=LH (fun w=>lib_HasMinus (Lib.itoa (l:Int)) w)
 have HS:=LH (fun w hw=>lib_ContainsSlash (Lib.itoa (l:Int)) (by omega) w hw)
 rw [hm] at HH
 have n1:=longV_nonneg x
 have n2:=longV_nonneg (l:Rat)
 clear hc2 hl2 hx hx0 hl hb hlr hl1 hm
 generalize longV x=v1 at *
 generalize longV (l:Rat)=v2 at *
 generalize rstr x=X at *
 generalize Lib.itoa (l:Int)=L at *
 go_enter Tryz.func200,Tryz.ntmps200
 go_wp2_with fail
 have B0:=Blk.new w [.string ⟨X.toArray⟩,.string ⟨L.toArray⟩] 225
 have hQ0:Q w (w.alloc (.cells [.string ⟨X.toArray⟩,.string ⟨L.toArray⟩].toArray 225)):=(Below.refl _ w).alloc (Nat.le_refl _) _
 refine (HC1.out _ (hE.q hQ0)).mono ?_
 rintro e w1 ⟨rfl,hq1⟩
 have hQ1:=Q.trans hQ0 hq1
 have B1:=B0.keep hq1 B0.lt
 have c0:=B1.cell 0
 have c1:=B1.cell 1
 simp only [zs4,zs5] at c0 c1
 go_wp2_with fail
 clear c0 c1
 refine (HC2.out _ (hE.q hQ1)).mono ?_
 rintro e w2 ⟨rfl,hq2⟩
 have hQ2:=Q.trans hQ1 hq2
 have B2:=B1.keep hq2 B1.lt
 have c0:=B2.cell 0
 have c1:=B2.cell 1
 simp only [zs4,zs5] at c0 c1
 go_wp2_with fail
 clear c0 c1
 refine (HL1.out _ (hE.q hQ2)).mono ?_
 rintro e w3 ⟨rfl,hq3⟩
 have hQ3:=Q.trans hQ2 hq3
 have B3:=B2.keep hq3 B2.lt
 have c0:=B3.cell 0
 have c1:=B3.cell 1
 simp only [zs4,zs5] at c0 c1
 go_wp2_with fail
 clear c0 c1
 refine (HL2.out _ (hE.q hQ3)).mono ?_
 rintro e w4 ⟨rfl,hq4⟩
 have hQ4:=Q.trans hQ3 hq4
 have B4:=B3.keep hq4 B3.lt
 have c0:=B4.cell 0
 have c1:=B4.cell 1
 simp only [zs4,zs5] at c0 c1
 go_wp2_with fail
 refine (HH.out _).mono ?_
 rintro e w5 ⟨rfl,rfl⟩
 go_wp2_with fail
 refine (HS.out _ (hE.q hQ4)).mono ?_
 rintro e w5 ⟨rfl,rfl⟩
 rw [hs]
 clear c0 hs
 go_wp2_with fail
 clear c1
 refine (HN.out _ (hE.q hQ4)).mono ?_
 rintro e w5 ⟨rfl,hq5⟩
 have hQ5:=Q.trans hQ4 hq5
 have B5:=B4.keep hq5 B4.lt
 have c0:=B5.cell 0
 have c1:=B5.cell 1
 simp only [zs4,zs5] at c0 c1
 go_wp2
 go_ret
 exact ⟨rfl,hQ5⟩
theorem surd_right_g (x:Rat) (l:Nat) (hx:rlim x=false) (hx0:x≠0) (k60:longV x≤60) (hl:NormL l) (hb:Bd 40 (l:Rat)) (w:World) (hE:Env w) :
  Calls Tryz.prog 200 #[.agg #[.string ⟨(rstr x).toArray⟩,.string ⟨(Lib.itoa (l:Int)).toArray⟩]] w fun e w'=>e=.returned (.int .i64 0)∧Q w w':=by
 by_cases h1:l=1
 ·exact surd_right_one x l hx hx0 k60 hl hb h1 w hE
 ·exact surd_right_other x l hx hx0 k60 hl hb h1 w hE
end
section
open Go.RowKit Kp
open Go.Lib (decDigits)
def Surd1 (w:World) (B:Nat) (v:Value) (x:Rat) (l:Nat):Prop :=
 w.ownsRow B 225 2 v 1 [.string ⟨(rstr x).toArray⟩,.string ⟨(Lib.itoa (l:Int)).toArray⟩]
structure Term1 (x:Rat) (l:Nat):Prop where
 lim:rlim x=false
 ne:x≠0
 c60:longV x≤60
 norm:NormL l
 c40:Bd 40 (l:Rat)
set_option maxRecDepth 100000 in
set_option maxHeartbeats 1000000 in
theorem surd_Check_one (x:Rat) (l:Nat) (ht:Term1 x l) (B:Nat) (v:Value) (w:World) (hE:Env w) (hv:Surd1 w B v x l) :
  Calls Tryz.prog 154 #[v] w fun e w'=>e=.returned (.int .i64 0)∧Q w w':=by
 have HR:=LH (fun w hw=>surd_right_g x l ht.lim ht.ne ht.c60 ht.norm ht.c40 w hw)
 unfold Surd1 at hv
 generalize rstr x=X at *
 generalize Lib.itoa (l:Int)=L at *
 clear ht
 obtain ⟨g,cap,rfl,hg1,hg2⟩:=hv.form (by omega)
 go_enter Tryz.func154,Tryz.ntmps154
 go_wp2
 go_loopw [13] (fun i wr=>∃ k:Nat,k≤1∧i=.int .i64 k∧Q w wr) (fun i _=>1 - (intOf i).toNat)
 case atStart=>exact ⟨0,by omega,rfl,Q.refl _⟩
 case round =>
  obtain ⟨k,hk,rfl,hQ⟩:=hrel
  rcases (show k=0∨k=1 by omega) with rfl | rfl
  ·have hrow:=ownsRow_keep hv hQ
   have e0:=hrow.cellAt 0 (by omega)
   have e1:=hrow.cellAt 1 (by omega)
   simp only [zs4,zs5] at e0 e1
   go_wp2_with fail
   refine (HR.out _ (hE.q (hQ.alloc hQ.size _))).mono ?_
   rintro e w1 ⟨rfl,hq1⟩
   have hQ1:=Q.trans (hQ.alloc hQ.size _) hq1
   clear e0 e1
   go_wp2
   go_roundw
   case rel=>exact ⟨1,by omega,by go_num,hQ1⟩
   case measure=>simp [intOf]
  ·go_wp2
   go_ret
   exact ⟨rfl,hQ⟩
set_option maxHeartbeats 1000000 in
theorem surd_both_one (x y:Rat) (l m:Nat) (hx:Term1 x l) (hy:Term1 y m) (B1 B2:Nat) (v1 v2:Value) (w:World) (hE:Env w) (h1:Surd1 w B1 v1 x l) (h2:Surd1 w B2 v2 y m) :
  Calls Tryz.prog 289 #[v1,v2] w fun e w'=>e=.returned (.bool true)∧Q w w':=by
 have HC1:=LH (surd_Check_one x l hx B1 v1 w hE h1)
 have HC2:=LH (fun w' (hq:Q w w')=>surd_Check_one y m hy B2 v2 w' (hE.q hq) (ownsRow_keep h2 hq))
 unfold Surd1 at h1 h2
 obtain ⟨g1,c1,rfl,-,-⟩:=h1.form (by omega)
 obtain ⟨g2,c2,rfl,-,-⟩:=h2.form (by omega)
 clear hx hy h1 h2
 go_enter Tryz.func289,Tryz.ntmps289
 go_wp2_with fail
 refine HC1.out.mono ?_
 rintro e w1 ⟨rfl,hq1⟩
 go_wp2_with fail
 refine (HC2.out _ hq1).mono ?_
 rintro e w2 ⟨rfl,hq2⟩
 have hQ2:=Q.trans hq1 hq2
 go_wp2
 go_ret
 exact ⟨rfl,hQ2⟩
end
section
open Go.RowKit Kp
open Go.Lib (decDigits)
end
end Go.Proofs.YtohlpeicpoaanaaGreatDoor
namespace Kp
theorem dvd_of_sq {c r l:Nat} (hc:0<c) (h:c*c*l=r*r):∃ t,r=c*t∧l=t*t:=by
 have h1:c*c ∣ r*r:=⟨l,h.symm⟩
 have h2:c ∣ r:=by
  have:=(Nat.pow_dvd_pow_iff (a:=c) (b:=r) (n:=2) (by decide)).1 (by rw [Nat.pow_two,Nat.pow_two]; exact h1)
  exact this
 obtain ⟨t,ht⟩:=h2
 refine ⟨t,ht,?_⟩
 have h3:c*c*l=c*c*(t*t):=by rw [h,ht]; grind
 exact Nat.eq_of_mul_eq_mul_left (Nat.mul_pos hc hc) h3
theorem normM_sq {r:Nat} (hr:0<r):normM (r*r)=(r,1):=by
 obtain ⟨a,b,d,f⟩:=stripAll_spec primesL primesL_ge 1 (r*r) (Nat.mul_pos hr hr) (by decide)
 unfold normM
 generalize (stripAll primesL (1,r*r)).1=c at *
 generalize (stripAll primesL (1,r*r)).2=l at *
 obtain ⟨t,ht,hl⟩:=dvd_of_sq (r:=r) b (by rw [d]; simp)
 have hi:isqrt l=t:=isqrt_of ⟨by omega,by rw [hl]; exact Nat.mul_lt_mul_of_lt_of_lt (by omega) (by omega)⟩
 rw [hi,if_pos hl.symm,← ht]
end Kp
namespace Go.Proofs.YtohlpeicpoaanaaGreatDoor
section
open Kp
theorem inv_parts (s:Rat) (hs:0<s.num):(1 / s).num=s.den∧(1 / s).den=s.num.toNat:=by
 rw [inv_is s hs]
 obtain ⟨e1,e2⟩:=divInt_pos (s.den:Int) s.num.toNat (by omega)
 have hg:Nat.gcd (s.den:Int).natAbs s.num.toNat=1:=by
  have h:=s.reduced
  rw [Int.natAbs_natCast,Nat.gcd_comm,show s.num.toNat=s.num.natAbs by omega]; exact h
 rw [hg] at e1 e2
 refine ⟨by rw [e1]; simp,?_⟩
 have:((Rat.divInt (s.den:Int) (s.num.toNat:Int)).den:Int)=(s.num.toNat:Int):=by rw [e2]; simp
 omega
end
section
open Go.RowKit Kp
open Go.Lib (decDigits)
theorem MakeEnd.good {w:World} {x:Rat} {l:Nat} {e:Ending} {w':World} (h:MakeEnd w x (l:Rat) e w') (ht:longV x≤60) (hl:longV (l:Rat)≤40) :
  Q w w'∧∃ v,e=.returned (.tuple #[v,.int .i64 0])∧Surd1 w' w.heap.size v x l:=by
 obtain ⟨h1,⟨_,_,v,hv,ho⟩ | ⟨h2,_⟩⟩:=h
 ·refine ⟨h1,v,hv,?_⟩
  unfold Surd1; rw [rstr_nat] at ho; exact ho
 ·omega
end
section
open Go.RowKit Kp
open Go.Lib (decDigits)
theorem norm_one:NormL 1:=⟨by decide,normM_one⟩
theorem nat_ne {l:Nat} (h:0<l):(l:Rat)≠0:=fun e=>by
 have:l=0:=by exact_mod_cast e
 omega
theorem surd1_keep {w w':World} {B:Nat} {v:Value} {x:Rat} {l:Nat} (h:Surd1 w B v x l) (hq:Q w w'):Surd1 w' B v x l:=ownsRow_keep h hq
end
section
open Go.RowKit Kp
open Go.Lib (decDigits)
end
end Go.Proofs.YtohlpeicpoaanaaGreatDoor
