/-
  Walks of package integer at numbers of any length: Compare, Gcd, Divide.
-/
import Derived.Test.YtohlpeicpoaanaaGreatDoorBP
namespace Go.Proofs.YtohlpeicpoaanaaGreatDoor
open Go.RowKit Kp
open Go.Lib (decDigits)
theorem limbs_len_zero {z:Int} (hz:0≤z):(limbs LB z).length=0 ↔ z=0:=by
 constructor
 ·intro h
  by_cases h0:0<z
  ·rw [limbs_pos (by decide) h0] at h; simp at h
  ·omega
 ·rintro rfl; rw [limbs_zero (Int.le_refl _)]; rfl
set_option maxRecDepth 100000 in
set_option maxHeartbeats 1000000 in
theorem integer_Compare_long (x y:Int) (hx:lim x=false) (hy:lim y=false) (hl:18<(Lib.itoa x).length∨18<(Lib.itoa y).length) (w:World) :
  Calls Tryz.prog 204 #[.string ⟨(Lib.itoa x).toArray⟩,.string ⟨(Lib.itoa y).toArray⟩] w fun e w'=>e=.returned (.tuple #[.int .i64 (Lib.compareInt x y),.int .i64 0])∧Q w w':=by
 have HB:=LH (fun w=>integer_both_ok x y hx hy w)
 have HS:=LH (fun w=>integer_small_long _ _ hl w)
 have HX:=LH (fun w=>read_itoa x hx w)
 have HY:=LH (fun w=>read_itoa y hy w)
 have HM:=LH (show sgn (decide (x<0)) x.natAbs+sgn (!decide (y<0)) y.natAbs=x - y by rw [sgn_not,sgn_dec,sgn_dec]; omega)
 clear hl hx hy
 generalize decide (x<0)=m1 at *
 generalize decide (y<0)=m2 at *
 obtain ⟨mn,hmn⟩:∃ mn,(!m2)=mn:=⟨_,rfl⟩
 rw [hmn] at HM
 go_enter Tryz.func204,Tryz.ntmps204
 go_wp2_with fail
 refine (HB.out _).mono ?_
 rintro e w1 ⟨rfl,hq1⟩
 go_wp2_with fail
 refine (HS.out _).mono ?_
 rintro e w2 ⟨rfl,rfl⟩
 go_wp2_with fail
 refine (HX.out _).mono ?_
 rintro e w3 ⟨v1,rfl,hv1,hq3⟩
 go_wp2_with fail
 refine (HY.out _).mono ?_
 rintro e w4 ⟨v2,rfl,hv2,hq4⟩
 have hQ4:=Q.trans (Q.trans hq1 hq3) hq4
 have N1:=LH (hv1.keep hq4)
 have N2:=LH hv2
 obtain ⟨a1,c1,rfl,-,-⟩:=hv1.2.2
 obtain ⟨a2,c2,rfl,-,-⟩:=hv2.2.2
 generalize hn1:(limbs LB (x.natAbs:Int)).length=n1 at *
 generalize hn2:(limbs LB (y.natAbs:Int)).length=n2 at *
 clear hv1 hv2 hn1 hn2
 obtain ⟨W0,hW0⟩:∃ W0,(w4.alloc (.cells [.bool m1,.slice a1 n1 c1].toArray 200)).alloc (.cells [.bool m2,.slice a2 n2 c2].toArray 200)=W0:=⟨_,rfl⟩
 have hq0:Q w4 W0:=by rw [← hW0]; exact ((Below.refl _ w4).alloc (Nat.le_refl _) _).alloc (by simp) _
 have B1:Blk W0 w4.heap.size [.bool m1,.slice a1 n1 c1] 200:=by rw [← hW0]; exact (Blk.new w4 _ _).alloc _
 have B2:Blk W0 (w4.heap.size+1) [.bool m2,.slice a2 n2 c2] 200:=by
  have:=Blk.new (w4.alloc (.cells [.bool m1,.slice a1 n1 c1].toArray 200)) [.bool m2,.slice a2 n2 c2] 200
  rw [World.size_alloc,hW0] at this; exact this
 have e0:=B2.cell 0
 have f0:=B2.frozen 0
 obtain ⟨W1,hW1⟩:∃ W1,W0.setCell ⟨w4.heap.size+1,0,none⟩ (.bool mn)=W1:=⟨_,rfl⟩
 have C1:Blk W1 w4.heap.size [.bool m1,.slice a1 n1 c1] 200:=by rw [← hW1]; exact B1.setOther (by omega) 0 _
 have C2:Blk W1 (w4.heap.size+1) [.bool mn,.slice a2 n2 c2] 200:=by rw [← hW1]; exact B2.set 0 (.bool mn)
 have hq01:Q w4 W1:=by rw [← hW1]; exact hq0.setCell (p:=⟨w4.heap.size+1,0,none⟩) (by simp) _
 have hQ1:=Q.trans hQ4 hq01
 have d0:=C1.cell 0
 have d1:=C1.cell 1
 have d2:=C2.cell 0
 have d3:=C2.cell 1
 simp only [zs4,zs5] at d0 d1 d2 d3 e0 hW0
 clear HB HS HX HY
 go_wp2_with fail
 refine (integer_add m1 mn _ _ _ _ W1 (N1.out.keep hq01) (N2.out.keep hq01)).mono ?_
 rintro e w6 ⟨m,z,v,rfl,hm,hz,hi,hq6⟩
 rw [HM.out] at hm
 have hQ6:Q w w6:=Q.trans hQ1 hq6
 obtain ⟨a3,c3,rfl,-,-⟩:=hi
 have hz0:=limbs_len_zero hz
 generalize (limbs LB z).length=n3 at *
 have HQ:Hid (∀ o:Obj,Q w (w6.alloc o)):=LH (fun o=>hQ6.alloc hQ6.size o)
 have D0:Blk (w6.alloc (.cells [.bool m,.slice a3 n3 c3].toArray 200)) w6.heap.size [.bool m,.slice a3 n3 c3] 200:=Blk.new w6 _ _
 have g0:=D0.cell 0
 have g1:=D0.cell 1
 simp only [zs4,zs5] at g0 g1
 clear d0 d1 d2 d3 e0 f0 hW0 hW1
 by_cases h0:n3=0
 ·have hxy:x=y:=by
   have:=hz0.1 h0; subst this
   have:sgn m 0=0:=by cases m <;> rfl
   omega
  have HE:Hid (Lib.compareInt x y=0):=LH (by subst hxy; simp [Lib.compareInt])
  subst h0
  clear hz0 hxy hm
  go_wp2
  go_ret2
  exact ⟨by rw [HE.out]; rfl,HQ.out _⟩
 ·have hnb:((n3:Int) == 0)=false:=by rw [beq_eq_false_iff_ne]; omega
  have hzp:z≠0:=fun e=>h0 (hz0.2 e)
  cases m with
  | true =>
   have HE:Hid (Lib.compareInt x y = -1):=LH (by
    have:x<y:=by simp [sgn] at hm; omega
    unfold Lib.compareInt; rw [if_pos this])
   clear hz0 hm h0
   go_wp2
   go_ret2
   exact ⟨by rw [HE.out]; rfl,HQ.out _⟩
  | false =>
   have HE:Hid (Lib.compareInt x y=1):=LH (by
    have:y<x:=by simp [sgn] at hm; omega
    unfold Lib.compareInt; rw [if_neg (by omega),if_pos this])
   clear hz0 hm h0
   go_wp2
   go_ret2
   exact ⟨by rw [HE.out]; rfl,HQ.out _⟩
theorem integer_Compare (x y:Int) (hx:lim x=false) (hy:lim y=false) (w:World) :
  Calls Tryz.prog 204 #[.string ⟨(Lib.itoa x).toArray⟩,.string ⟨(Lib.itoa y).toArray⟩] w fun e w'=>e=.returned (.tuple #[.int .i64 (Lib.compareInt x y),.int .i64 0])∧Q w w':=by
 by_cases hl:18<(Lib.itoa x).length∨18<(Lib.itoa y).length
 ·exact integer_Compare_long x y hx hy hl w
 ·exact integer_Compare_short x y (by omega) (by omega) w
theorem field_num (m:Bool) (a:Option Addr) (n c:Nat) (w:World):(Instr.field 200 (.agg #[.bool m,.slice a n c]) 1).run Tryz.prog w=.ok (.slice a n c) w:=by kernel_rfl
theorem limbs_len_lt_of {x y:Int} (hy:0≤y) (h:x≤y):(limbs LB x).length≤(limbs LB y).length :=
 limbs_len_le (by decide) _ _ (by
  have h1:=lval_lt (show (0:Int)<LB by decide) (limbs_dig (B:=LB) (by decide) y)
  rw [lval_limbs (by decide) y hy] at h1
  omega)
def slVal (w:World) (v:Value):Nat:=match v with
 | .slice (some a) n _=>(lval LB ((List.range n).map fun i=>match w.cell? ⟨a.block,a.off+i,none⟩ with | some (.int _ x)=>x | _=>0)).toNat
 | _=>0
theorem slVal_of {w:World} {v:Value} {l:List Int} (h:IntSl w v l):slVal w v=(lval LB l).toNat:=by
 rcases h.cases with ⟨rfl,a,cap,rfl⟩ | ⟨b,o,cap,rfl,hcap,h0,hA⟩
 ·cases a <;> rfl
 ·unfold slVal
  simp only
  congr 2
  refine List.ext_getElem (by simp) fun i h1 h2=>?_
  rw [List.getElem_map,List.getElem_range,hA.2 i h2,List.getD_eq_getElem?_getD,List.getElem?_eq_getElem h2]
  rfl
theorem slVal_num {w:World} {v:Value} {n:Nat} (h:NumOf w n v):slVal w v=n:=by
 rw [slVal_of h.2.2,lval_limbs (by decide) _ (by omega)]; omega
set_option maxRecDepth 100000 in
set_option maxHeartbeats 1000000 in
theorem integer_Gcd_long (x y:Int) (hx:lim x=false) (hy:lim y=false) (hl:18<(Lib.itoa x).length∨18<(Lib.itoa y).length) (w:World) (hE:Env w) :
  Calls Tryz.prog 100 #[.string ⟨(Lib.itoa x).toArray⟩,.string ⟨(Lib.itoa y).toArray⟩] w fun e w'=>e=.returned (.tuple #[.string ⟨(Lib.itoa (Nat.gcd x.natAbs y.natAbs:Int)).toArray⟩,.int .i64 0])∧Q w w':=by
 have HB:=LH (fun w=>integer_both_ok x y hx hy w)
 have HS:=LH (fun w=>integer_small_long _ _ hl w)
 have HX:=LH (fun w=>read_itoa x hx w)
 have HY:=LH (fun w=>read_itoa y hy w)
 have hgl:lim (Nat.gcd x.natAbs y.natAbs:Int)=false:=by
  rw [lim_false,Int.natAbs_natCast]
  have h1:=(lim_false x).1 hx
  have h2:=(lim_false y).1 hy
  by_cases h0:x.natAbs=0
  ·rw [h0,Nat.gcd_zero_left]; exact h2
  ·exact Nat.lt_of_le_of_lt (Nat.gcd_le_left _ (by omega)) h1
 have hgr:rsV (Nat.gcd x.natAbs y.natAbs:Int)=.tuple #[.string ⟨(Lib.itoa (Nat.gcd x.natAbs y.natAbs:Int)).toArray⟩,.int .i64 0]:=by unfold rsV; rw [hgl]; rfl
 have HGR:=LH hgr
 clear hl hx hy hgr hgl
 go_enter Tryz.func100,Tryz.ntmps100
 go_wp2_with fail
 refine (HB.out _).mono ?_
 rintro e w1 ⟨rfl,hq1⟩
 go_wp2_with fail
 refine (HS.out _).mono ?_
 rintro e w2 ⟨rfl,rfl⟩
 go_wp2_with fail
 refine (HX.out _).mono ?_
 rintro e w3 ⟨v1,rfl,hv1,hq3⟩
 have N1:=LH hv1
 obtain ⟨a1,c1,rfl,-,-⟩:=hv1.2.2
 generalize (limbs LB (x.natAbs:Int)).length=n1 at *
 clear hv1
 generalize decide (x<0)=m1 at *
 have hf1:=field_num m1 a1 n1 c1
 go_wp2_with fail
 refine (HY.out _).mono ?_
 rintro e w4 ⟨v2,rfl,hv2,hq4⟩
 have hQ4:=Q.trans (Q.trans hq1 hq3) hq4
 have N1':=LH (N1.out.keep hq4)
 have N2:=LH hv2
 obtain ⟨a2,c2,rfl,-,-⟩:=hv2.2.2
 generalize hn2:(limbs LB (y.natAbs:Int)).length=n2 at *
 have HN2:=LH hn2
 clear hv2 hn2 HB HS HX HY N1
 generalize decide (y<0)=m2 at *
 have hf2:=field_num m2 a2 n2 c2
 go_wp2_with fail
 go_loopw [10,11] (fun u v wr=>∃ (p q n1 n2 c1 c2:Nat) (a1 a2:Option Addr),u=.slice a1 n1 c1∧v=.slice a2 n2 c2∧Hid (NumOf wr p (.slice a1 n1 c1))∧Hid (NumOf wr q (.slice a2 n2 c2))∧Hid ((limbs LB (q:Int)).length=n2)∧Hid (Nat.gcd p q=Nat.gcd x.natAbs y.natAbs)∧Q w wr) (fun _ v wr=>slVal wr v)
 case atStart=>exact ⟨x.natAbs,y.natAbs,n1,n2,c1,c2,a1,a2,rfl,rfl,N1',N2,HN2,LH rfl,hQ4⟩
 case round =>
  clear N1' N2 HN2 hQ4 hq4 hq3 hq1 hf1 hf2
  obtain ⟨p,q,k1,k2,e1,e2,b1,b2,rfl,rfl,M1,M2,HK,HG,hQ⟩:=hrel
  by_cases h0:k2=0
  ·subst h0
   have hq0:q=0:=by
    have:=(limbs_len_zero (z:=(q:Int)) (by omega)).1 HK.out
    omega
   subst hq0
   have hg:=HG.out
   rw [Nat.gcd_zero_right] at hg
   have HR:=LH (integer_result false p _ wr (hE.q hQ) M1.out)
   have e:sgn false (p:Int)=((Nat.gcd x.natAbs y.natAbs:Nat):Int):=by rw [← hg]; rfl
   rw [e,HGR.out] at HR
   clear hg e
   go_wp2_with fail
   refine HR.out.mono ?_
   rintro e w5 ⟨rfl,hq5⟩
   have hQ5:=Q.trans hQ hq5
   clear HR
   go_wp2
   go_ret2
   exact ⟨rfl,hQ5⟩
  ·have hq0:0<q:=by
    by_cases h:q=0
    ·exact absurd (by have:=(limbs_len_zero (z:=(q:Int)) (by omega)).2 (by omega); rw [HK.out] at this; exact this) h0
    ·omega
   have hk2:(0:Int)<(k2:Int):=by omega
   have HD:=LH (integer_divide (p:Int) (q:Int) (by omega) (by omega) (by have:=M1.out.2.1; omega) (by have:=M2.out.2.1; omega) _ _ wr M1.out.2.2 M2.out.2.2)
   have hsv:=slVal_num M2.out
   clear h0
   go_wp2_with fail
   refine HD.out.mono ?_
   rintro e w5 ⟨qv,rv,rfl,-,hr,hq5⟩
   rw [show (p:Int) % (q:Int)=((p % q:Nat):Int) by rfl] at hr
   have M3:Hid (NumOf w5 (p % q:Nat) rv):=LH ⟨by omega,by
    have h1:=limbs_len_lt_of (x:=((p % q:Nat):Int)) (y:=(q:Int)) (by omega) (by have:=Nat.mod_lt p hq0; omega)
    have:=M2.out.2.1
    omega,hr⟩
   obtain ⟨a3,c3,rfl,-,-⟩:=hr
   have hsv3:=slVal_num M3.out
   generalize hn3:(limbs LB ((p % q:Nat):Int)).length=n3 at *
   have HN3:=LH hn3
   have M2':=LH (M2.out.keep hq5)
   have hQ5:=Q.trans hQ hq5
   have hmd:=Nat.mod_lt p hq0
   have HG':Hid (Nat.gcd q (p % q)=Nat.gcd x.natAbs y.natAbs):=LH (by rw [← gcd_step]; exact HG.out)
   clear hn3 HD M1 M2 HG
   go_wp2
   go_roundw
   case rel=>exact ⟨q,p % q,_,_,_,_,_,_,rfl,rfl,M2',M3,HN3,HG',hQ5⟩
   case measure=>rw [hsv,hsv3]; exact hmd
theorem integer_Gcd (x y:Int) (hx:lim x=false) (hy:lim y=false) (w:World) (hE:Env w) :
  Calls Tryz.prog 100 #[.string ⟨(Lib.itoa x).toArray⟩,.string ⟨(Lib.itoa y).toArray⟩] w fun e w'=>e=.returned (.tuple #[.string ⟨(Lib.itoa (Nat.gcd x.natAbs y.natAbs:Int)).toArray⟩,.int .i64 0])∧Q w w':=by
 by_cases hl:18<(Lib.itoa x).length∨18<(Lib.itoa y).length
 ·exact integer_Gcd_long x y hx hy hl w hE
 ·exact integer_Gcd_short x y (by omega) (by omega) w hE
end Go.Proofs.YtohlpeicpoaanaaGreatDoor
