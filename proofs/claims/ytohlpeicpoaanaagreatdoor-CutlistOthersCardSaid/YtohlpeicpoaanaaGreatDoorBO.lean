/-
  Walks of package integer at numbers of any length: result, Add, Sub, Mul.
-/
import Derived.Test.YtohlpeicpoaanaaGreatDoorBN
import Derived.Test.YtohlpeicpoaanaaGreatDoorWC
namespace Go.Proofs.YtohlpeicpoaanaaGreatDoor
open Go.RowKit Kp
open Go.Lib (decDigits)
theorem big_le:(big:Int)≤LB ^ 34:=by
 obtain ⟨m,hm⟩:∃ m:Nat,m=9:=⟨_,rfl⟩
 obtain ⟨n,hn⟩:∃ n:Nat,n=34:=⟨_,rfl⟩
 have h:(LB:Int) ^ n=((10 ^ (m*n):Nat):Int):=by
  rw [Nat.pow_mul,Int.natCast_pow,show (LB:Int)=((10 ^ m:Nat):Int) by rw [hm]; decide]
 rw [← hn,h]
 unfold big
 exact Int.ofNat_le.2 (Nat.pow_le_pow_right (by decide) (by rw [maxD_eq,hm,hn]; decide))
theorem lim_lt {x:Int} (h:lim x=false):(x.natAbs:Int)<LB ^ 34:=by
 have h1:=(lim_false x).1 h
 have h2:=big_le
 omega
theorem pow_step (k:Nat):LB ^ (k+1)=LB ^ k*LB∧0<LB ^ k:=⟨Int.pow_succ ..,Int.pow_pos (by decide)⟩
theorem len_of {z:Int} {k:Nat} (h:z<LB ^ k):(limbs LB z).length≤k:=limbs_len_le (by decide) k z h
theorem NumOf.keep {w w':World} {z:Int} {v:Value} (h:NumOf w z v) (hq:Q w w'):NumOf w' z v:=⟨h.1,h.2.1,h.2.2.keep hq⟩
theorem lim_of_lt {z:Int} (h:z.natAbs<10 ^ 40):lim z=false:=by
 rw [lim_false]
 unfold big
 exact Nat.lt_of_lt_of_le h (Nat.pow_le_pow_right (by decide) (by rw [maxD_eq]; decide))
theorem read_itoa (x:Int) (hx:lim x=false) (w:World) :
  Calls Tryz.prog 136 #[.string ⟨(Lib.itoa x).toArray⟩] w fun e w'=>∃ v,e=.returned (.agg #[.bool (decide (x<0)),v])∧NumOf w' x.natAbs v∧Q w w':=by
 refine (integer_read (Lib.itoa x) (decDigits x.natAbs) (unsig_itoa x) (decDigits_dig _) (by have:=itoa_len x hx; omega) w).mono ?_
 rintro e w' ⟨v,rfl,hi,hq⟩
 have hd:decide ((Lib.itoa x).head?=some 45)=decide (x<0):=by
  rw [decide_eq_decide]
  by_cases h:x<0
  ·rw [itoa_neg h]; simp [h]
  ·rw [itoa_nonneg (by omega)]
   exact ⟨fun e=>absurd e (decDigits_head_ne_minus _),fun e=>absurd e h⟩
 rw [nval_decDigits] at hi
 exact ⟨v,by rw [hd],⟨by omega,by have:=len_of (lim_lt hx); omega,hi⟩,hq⟩
def rsV (z:Int):Value:=if lim z then .tuple #[.string ⟨#[]⟩,.int .i64 4] else .tuple #[.string ⟨(Lib.itoa z).toArray⟩,.int .i64 0]
set_option maxHeartbeats 400000 in
theorem integer_result (mi:Bool) (z:Int) (v:Value) (w:World) (hE:Env w) (h1:NumOf w z v) :
  Calls Tryz.prog 138 #[.agg #[.bool mi,v]] w fun e w'=>e=.returned (rsV (sgn mi z))∧Q w w':=by
 obtain ⟨w0,hw0⟩:∃ w0,w.alloc (.cells [.bool mi,v].toArray 200)=w0:=⟨_,rfl⟩
 have X0:Blk w0 w.heap.size [.bool mi,v] 200:=by rw [← hw0]; exact Blk.new w _ _
 have hq0:Q w w0:=by rw [← hw0]; exact (Below.refl _ w).alloc (Nat.le_refl _) _
 have HW:=LH (integer_write mi z v w0 (hE.q hq0) (h1.keep hq0))
 have hl1:(unsig (Lib.itoa (sgn mi z))).length≤300 ↔ lim (sgn mi z)=false:=by
  rw [unsig_itoa,lim_false]; unfold big; rw [maxD_eq]; exact decDigits_len_le _ 300 (by decide)
 obtain ⟨a,c,rfl,-,-⟩:=h1.2.2
 generalize (limbs LB z).length=ln at *
 have x0:=X0.cell 0
 have x1:=X0.cell 1
 simp only [zs4,zs5] at x0 x1 hw0
 by_cases hl:lim (sgn mi z)=true
 ·have hr:rsV (sgn mi z)=.tuple #[.string ⟨#[]⟩,.int .i64 4]:=by unfold rsV; rw [if_pos hl]
  rw [hr]
  have h3:300<(unsig (Lib.itoa (sgn mi z))).length:=by
   rw [hl] at hl1; simp at hl1; exact hl1
  clear hl hr hl1 h1
  go_enter Tryz.func138,Tryz.ntmps138
  go_wp2_with fail
  refine HW.out.mono ?_
  rintro e w1 ⟨rfl,hq1⟩
  go_wp2_with fail
  refine (lib_TrimMinus _ _).mono ?_
  rintro e w2 ⟨rfl,rfl⟩
  generalize unsig (Lib.itoa (sgn mi z))=t at *
  have h3i:(300:Int)<(t.length:Int):=by omega
  go_wp2
  go_ret2
  exact ⟨rfl,Q.trans hq0 hq1⟩
 ·have hl':lim (sgn mi z)=false:=by simpa using hl
  have hr:rsV (sgn mi z)=.tuple #[.string ⟨(Lib.itoa (sgn mi z)).toArray⟩,.int .i64 0]:=by unfold rsV; rw [if_neg hl]
  rw [hr]
  have h3:(unsig (Lib.itoa (sgn mi z))).length≤300:=hl1.2 hl'
  clear hl hr hl1 h1 hl'
  go_enter Tryz.func138,Tryz.ntmps138
  go_wp2_with fail
  refine HW.out.mono ?_
  rintro e w1 ⟨rfl,hq1⟩
  go_wp2_with fail
  refine (lib_TrimMinus _ _).mono ?_
  rintro e w2 ⟨rfl,rfl⟩
  generalize unsig (Lib.itoa (sgn mi z))=t at *
  have h3i:(t.length:Int)≤300:=by omega
  go_wp2
  go_ret2
  exact ⟨rfl,Q.trans hq0 hq1⟩
set_option maxHeartbeats 400000 in
theorem integer_small_long (a b:Str) (h:18<a.length∨18<b.length) (w:World) :
  Calls Tryz.prog 135 #[.string ⟨a.toArray⟩,.string ⟨b.toArray⟩,.int .i64 18] w fun e w'=>e=.returned (.tuple #[.int .i64 0,.int .i64 0,.bool false])∧w=w':=by
 by_cases h1:18<a.length
 ·have h1i:(18:Int)<(a.length:Int):=by omega
  go_enter Tryz.func135,Tryz.ntmps135
  go_wp2
  go_ret3
  exact ⟨rfl,rfl⟩
 ·have h1i:(a.length:Int)≤18:=by omega
  have h2i:(18:Int)<(b.length:Int):=by omega
  have hd:decide ((18:Int)<(a.length:Int))=false:=by simp; omega
  go_enter Tryz.func135,Tryz.ntmps135
  go_wp2
  go_ret3
  exact ⟨rfl,rfl⟩
theorem sgn_dec (x:Int):sgn (decide (x<0)) x.natAbs=x:=by
 unfold sgn
 by_cases h:x<0 <;> simp [h] <;> omega
theorem numOf_of {w:World} {m:Bool} {z s:Int} {v:Value} (h:sgn m z=s) (h0:0≤z) (hi:IntSl w v (limbs LB z)) (k:Nat) (hk:k≤50000) (hs:(s.natAbs:Int)<LB ^ k):NumOf w z v:=by
 have:z=s.natAbs:=by unfold sgn at h; split at h <;> omega
 exact ⟨h0,by rw [this]; have:=len_of hs; omega,hi⟩
set_option maxHeartbeats 400000 in
theorem integer_Add_long (x y:Int) (hx:lim x=false) (hy:lim y=false) (hl:18<(Lib.itoa x).length∨18<(Lib.itoa y).length) (w:World) (hE:Env w) :
  Calls Tryz.prog 229 #[.string ⟨(Lib.itoa x).toArray⟩,.string ⟨(Lib.itoa y).toArray⟩] w fun e w'=>e=.returned (rsV (x+y))∧Q w w':=by
 have hx1:=lim_lt hx
 have hy1:=lim_lt hy
 have hs:((x+y).natAbs:Int)<LB ^ 35:=by
  have h:=pow_step 34
  have h1:LB ^ 35=LB ^ 34*LB:=h.1
  have h2:=Int.mul_le_mul_of_nonneg_left (show (2:Int)≤LB by decide) (Int.le_of_lt h.2)
  omega
 have HB:=LH (fun w=>integer_both_ok x y hx hy w)
 have HS:=LH (fun w=>integer_small_long _ _ hl w)
 have HX:=LH (fun w=>read_itoa x hx w)
 have HY:=LH (fun w=>read_itoa y hy w)
 have HH:=LH hs
 clear hs hx1 hy1 hl
 have HM:=LH (show sgn (decide (x<0)) x.natAbs+sgn (decide (y<0)) y.natAbs=x+y by rw [sgn_dec,sgn_dec])
 generalize decide (x<0)=m1 at *
 generalize decide (y<0)=m2 at *
 go_enter Tryz.func229,Tryz.ntmps229
 go_wp2_with fail
 refine (HB.out _).mono ?_
 rintro e w1 ⟨rfl,hq1⟩
 go_wp2_with fail
 refine (HS.out _).mono ?_
 rintro e w2 ⟨rfl,rfl⟩
 go_wp2_with fail
 refine (HX.out _).mono ?_
 rintro e w3 ⟨v1,rfl,hv1,hq3⟩
 go_wp2_with fail
 refine (HY.out _).mono ?_
 rintro e w4 ⟨v2,rfl,hv2,hq4⟩
 go_wp2_with fail
 refine (integer_add m1 m2 _ _ _ _ _ (hv1.keep hq4) hv2).mono ?_
 rintro e w5 ⟨m,z,v,rfl,hm,hz,hi,hq5⟩
 rw [HM.out] at hm
 have hQ5:=Q.trans (Q.trans (Q.trans hq1 hq3) hq4) hq5
 have hR:=integer_result m z v w5 (hE.q hQ5) (numOf_of hm hz hi 35 (by decide) HH.out)
 rw [hm] at hR
 have HR:=LH hR
 clear hR hm hi hv1 hv2
 go_wp2_with fail
 refine HR.out.mono ?_
 rintro e w6 ⟨rfl,hq6⟩
 have hQ6:=Q.trans hQ5 hq6
 unfold rsV
 by_cases hlz:lim (x+y)=true
 ·rw [if_pos hlz]
  have HZ:=LH hlz
  clear hlz
  go_wp2
  go_ret2
  exact ⟨by unfold rsV; rw [if_pos HZ.out]; rfl,hQ6⟩
 ·rw [if_neg hlz]
  have HZ:=LH hlz
  clear hlz
  go_wp2
  go_ret2
  exact ⟨by unfold rsV; rw [if_neg HZ.out]; rfl,hQ6⟩
theorem integer_Add (x y:Int) (hx:lim x=false) (hy:lim y=false) (w:World) (hE:Env w) :
  Calls Tryz.prog 229 #[.string ⟨(Lib.itoa x).toArray⟩,.string ⟨(Lib.itoa y).toArray⟩] w fun e w'=>e=.returned (rsV (x+y))∧Q w w':=by
 by_cases hl:18<(Lib.itoa x).length∨18<(Lib.itoa y).length
 ·exact integer_Add_long x y hx hy hl w hE
 ·have hx2:=short_abs (x:=x) (by omega)
  have hy2:=short_abs (x:=y) (by omega)
  have:rsV (x+y)=.tuple #[.string ⟨(Lib.itoa (x+y)).toArray⟩,.int .i64 0]:=by
   unfold rsV; rw [lim_of_lt (by omega)]; rfl
  rw [this]
  exact integer_Add_short x y (by omega) (by omega) w hE
end Go.Proofs.YtohlpeicpoaanaaGreatDoor
