/-
  Walks of package integer at numbers of any length: Mul, Sub, Compare.
-/
import Derived.Test.YtohlpeicpoaanaaGreatDoorBO
namespace Go.Proofs.YtohlpeicpoaanaaGreatDoor
open Go.RowKit Kp
open Go.Lib (decDigits)
theorem lim_mul {x y:Int} (hx:lim x=false) (hy:lim y=false):((x*y).natAbs:Int)<LB ^ 68:=by
 have hx1:=lim_lt hx
 have hy1:=lim_lt hy
 have e:LB ^ 68=LB ^ 34*LB ^ 34:=by rw [← Int.pow_add]
 have hp:(0:Int)<LB ^ 34:=Int.pow_pos (by decide)
 rw [e,Int.natAbs_mul,Int.natCast_mul]
 generalize LB ^ 34=P at *
 have h1:(x.natAbs:Int)*(y.natAbs:Int)≤(x.natAbs:Int)*P:=Int.mul_le_mul_of_nonneg_left (by omega) (by omega)
 have h2:(x.natAbs:Int)*P<P*P:=Int.mul_lt_mul_of_pos_right hx1 hp
 omega
theorem sgn_mul (m1 m2:Bool) (a b:Int):sgn (m1 != m2) (a*b)=sgn m1 a*sgn m2 b:=by
 unfold sgn; cases m1 <;> cases m2 <;> simp <;> grind
set_option maxRecDepth 100000 in
set_option maxHeartbeats 1000000 in
theorem integer_Mul_long (x y:Int) (hx:lim x=false) (hy:lim y=false) (hl:18<(Lib.itoa x).length+(Lib.itoa y).length) (w:World) (hE:Env w) :
  Calls Tryz.prog 169 #[.string ⟨(Lib.itoa x).toArray⟩,.string ⟨(Lib.itoa y).toArray⟩] w fun e w'=>e=.returned (rsV (x*y))∧Q w w':=by
 have HB:=LH (fun w=>integer_both_ok x y hx hy w)
 have HX:=LH (fun w=>read_itoa x hx w)
 have HY:=LH (fun w=>read_itoa y hy w)
 have HH:=LH (lim_mul hx hy)
 have hsg:=sgn_mul (decide (x<0)) (decide (y<0)) x.natAbs y.natAbs
 rw [sgn_dec,sgn_dec] at hsg
 have HM:=LH hsg
 have hli:(18:Int)<((Lib.itoa x).length:Int)+((Lib.itoa y).length:Int):=by omega
 have hlx:=itoa_len x hx
 have hly:=itoa_len y hy
 have hd18:decide (((Lib.itoa x).length:Int)+((Lib.itoa y).length:Int)≤18)=false:=by simp; omega
 clear hsg hx hy
 generalize decide (x<0)=m1 at *
 generalize decide (y<0)=m2 at *
 obtain ⟨mm,hmm⟩:∃ mm,(m1 != m2)=mm:=⟨_,rfl⟩
 have hmm2:(m1 == m2)=!mm:=by rw [← hmm]; cases m1 <;> cases m2 <;> rfl
 rw [hmm] at HM
 go_enter Tryz.func169,Tryz.ntmps169
 go_wp2_with fail
 refine (HB.out _).mono ?_
 rintro e w1 ⟨rfl,hq1⟩
 go_wp2_with fail
 refine (HX.out _).mono ?_
 rintro e w3 ⟨v1,rfl,hv1,hq3⟩
 go_wp2_with fail
 refine (HY.out _).mono ?_
 rintro e w4 ⟨v2,rfl,hv2,hq4⟩
 have hQ4:=Q.trans (Q.trans hq1 hq3) hq4
 have N1:=LH (hv1.keep hq4)
 have N2:=LH hv2
 obtain ⟨a1,c1,rfl,-,-⟩:=hv1.2.2
 obtain ⟨a2,c2,rfl,-,-⟩:=hv2.2.2
 generalize hn1:(limbs LB (x.natAbs:Int)).length=n1 at *
 generalize hn2:(limbs LB (y.natAbs:Int)).length=n2 at *
 clear hv1 hv2 hn1 hn2
 obtain ⟨W0,hW0⟩:∃ W0,(w4.alloc (.cells [.bool m1,.slice a1 n1 c1].toArray 200)).alloc (.cells [.bool m2,.slice a2 n2 c2].toArray 200)=W0:=⟨_,rfl⟩
 have hq0:Q w4 W0:=by rw [← hW0]; exact ((Below.refl _ w4).alloc (Nat.le_refl _) _).alloc (by simp) _
 have B1:Blk W0 w4.heap.size [.bool m1,.slice a1 n1 c1] 200:=by rw [← hW0]; exact (Blk.new w4 _ _).alloc _
 have B2:Blk W0 (w4.heap.size+1) [.bool m2,.slice a2 n2 c2] 200:=by
  have:=Blk.new (w4.alloc (.cells [.bool m1,.slice a1 n1 c1].toArray 200)) [.bool m2,.slice a2 n2 c2] 200
  rw [World.size_alloc,hW0] at this; exact this
 have d0:=B1.drew.cell 0
 have d1:=B1.drew.cell 1
 have d2:=B2.drew.cell 0
 have d3:=B2.drew.cell 1
 simp only [zs4,zs5] at d0 d1 d2 d3 hW0
 have hQ0:=Q.trans hQ4 hq0
 have HC:Hid (∀ W,Q W0 W→Calls Tryz.prog 176 #[.slice a1 n1 c1,.slice a2 n2 c2] W fun e w'=>∃ v',e=.returned v'∧IntSl w' v' (limbs LB ((x.natAbs:Int)*y.natAbs))∧Q W w'):=LH (fun W hW=>by
  have hqW:=Q.trans hq0 hW
  have h:=integer_times (limbs LB x.natAbs) (limbs LB y.natAbs) (limbs_dig (by decide) _) (limbs_dig (by decide) _) (by have:=N1.out.2.1; omega) (by have:=N2.out.2.1; omega) _ _ W (N1.out.2.2.keep hqW) (N2.out.2.2.keep hqW)
  rw [lval_limbs (by decide) _ (by omega),lval_limbs (by decide) _ (by omega)] at h
  exact h)
 have HRs:Hid (∀ W v,Q W0 W→IntSl W v (limbs LB ((x.natAbs:Int)*y.natAbs))→Calls Tryz.prog 138 #[.agg #[.bool mm,v]] W fun e w'=>e=.returned (rsV (x*y))∧Q W w'):=LH (fun W v hW hi=>by
  have hm0:(0:Int)≤(x.natAbs:Int)*y.natAbs:=Int.mul_nonneg (by omega) (by omega)
  have h:=integer_result mm ((x.natAbs:Int)*y.natAbs) v W (hE.q (Q.trans hQ0 hW)) (numOf_of HM.out hm0 hi 68 (by decide) HH.out)
  rw [HM.out] at h
  exact h)
 clear HX HY HB
 go_wp2_with fail
 refine wp_steadily 16 rfl (by kernel_rfl) rfl ?_
 refine svp 0 ?_
 refine svq 1 rfl (by intro w' hq; have hc0:=qcell hq d0; go_simp; try with_reducible rfl) ?_
 refine svp 2 ?_
 refine svq 3 rfl (by intro w' hq; have hc0:=qcell hq d2; go_simp; try with_reducible rfl) ?_
 refine svp 4 ?_
 refine svp 5 ?_
 refine svq 6 rfl (by intro w' hq; have hc0:=qcell hq d1; go_simp; try with_reducible rfl) ?_
 refine svp 7 ?_
 refine svq 8 rfl (by intro w' hq; have hc0:=qcell hq d3; go_simp; try with_reducible rfl) ?_
 refine steadily_only (i:=9) rfl rfl (by kernel_rfl) (by rfl) ?_ (fun w' hq=>(HC.out w' (Below.trans (Below.drew (Q.refl W0)) hq)).mono ?_)
 ·(intro w' hq; go_simp; try with_reducible rfl)
 rintro e w5 ⟨v',rfl,hs,hq5⟩
 have HS:=LH hs
 obtain ⟨a3,c3,rfl,-,-⟩:=hs
 generalize hn3:(limbs LB ((x.natAbs:Int)*y.natAbs)).length=n3 at *
 have HN3:=LH hn3
 clear hn3
 refine ⟨_,rfl,hq5,?_⟩
 simp only [Act.put,zs1,zs2,zs3]
 have hq05:Q W0 w5:=Q.trans (Below.trans (Below.drew (Q.refl W0)) hq) hq5
 refine svp 10 ?_
 by_cases hlz:lim (x*y)=true
 ·have HZ:=LH hlz
  have HR2:Hid (∀ W,Q w5 W→Calls Tryz.prog 138 #[.agg #[.bool mm,.slice a3 n3 c3]] W fun e w'=>e=.returned (.tuple #[.string ⟨#[]⟩,.int .i64 4])∧Q W w'):=LH (fun W hW=>by
   have h:=HRs.out W (.slice a3 n3 c3) (Q.trans hq05 hW) (HS.out.keep hW)
   unfold rsV at h; rw [if_pos HZ.out] at h; exact h)
  clear hlz
  refine steadily_call (i:=11) (v:=_) rfl rfl (by kernel_rfl) (by kernel_rfl) (fun _ _ _ h=>h) (by rfl) ?_ (fun w' hq=>HR2.out w' hq) ?_
  ·(intro w' hq; go_simp; try with_reducible rfl)
  simp only [Act.put,zs1,zs2,zs3]
  refine svp 12 ?_
  refine svp 13 ?_
  refine svp 14 ?_
  refine svp 15 ?_
  refine steadily_done (by kernel_rfl) (fun w6 hq6=>?_)
  simp only [List.drop_succ_cons,List.drop_nil]
  have hQ6:=Q.trans (Q.trans hQ0 hq05) hq6
  clear HRs HR2 HC
  go_wp2
  go_ret2
  exact ⟨by unfold rsV; rw [if_pos HZ.out]; rfl,hQ6⟩
 ·have HZ:=LH hlz
  have HR2:Hid (∀ W,Q w5 W→Calls Tryz.prog 138 #[.agg #[.bool mm,.slice a3 n3 c3]] W fun e w'=>e=.returned (.tuple #[.string ⟨(Lib.itoa (x*y)).toArray⟩,.int .i64 0])∧Q W w'):=LH (fun W hW=>by
   have h:=HRs.out W (.slice a3 n3 c3) (Q.trans hq05 hW) (HS.out.keep hW)
   unfold rsV at h; rw [if_neg HZ.out] at h; exact h)
  clear hlz
  refine steadily_call (i:=11) (v:=_) rfl rfl (by kernel_rfl) (by kernel_rfl) (fun _ _ _ h=>h) (by rfl) ?_ (fun w' hq=>HR2.out w' hq) ?_
  ·(intro w' hq; go_simp; try with_reducible rfl)
  simp only [Act.put,zs1,zs2,zs3]
  refine svp 12 ?_
  refine svp 13 ?_
  refine svp 14 ?_
  refine svp 15 ?_
  refine steadily_done (by kernel_rfl) (fun w6 hq6=>?_)
  simp only [List.drop_succ_cons,List.drop_nil]
  have hQ6:=Q.trans (Q.trans hQ0 hq05) hq6
  clear HRs HR2 HC
  go_wp2
  go_ret2
  exact ⟨by unfold rsV; rw [if_neg HZ.out]; rfl,hQ6⟩
theorem mul_short_lim {x y:Int} (hl:(Lib.itoa x).length+(Lib.itoa y).length≤18):lim (x*y)=false:=by
 have h:=mul_bound hl
 exact lim_of_lt (by omega)
theorem integer_Mul (x y:Int) (hx:lim x=false) (hy:lim y=false) (w:World) (hE:Env w) :
  Calls Tryz.prog 169 #[.string ⟨(Lib.itoa x).toArray⟩,.string ⟨(Lib.itoa y).toArray⟩] w fun e w'=>e=.returned (rsV (x*y))∧Q w w':=by
 by_cases hl:18<(Lib.itoa x).length+(Lib.itoa y).length
 ·exact integer_Mul_long x y hx hy hl w hE
 ·have:rsV (x*y)=.tuple #[.string ⟨(Lib.itoa (x*y)).toArray⟩,.int .i64 0]:=by
   unfold rsV; rw [mul_short_lim (by omega)]; rfl
  rw [this]
  exact integer_Mul_short x y (by omega) w hE
theorem sgn_not (m:Bool) (z:Int):sgn (!m) z = -sgn m z:=by cases m <;> simp [sgn]
set_option maxRecDepth 100000 in
set_option maxHeartbeats 1000000 in
theorem integer_Sub_long (x y:Int) (hx:lim x=false) (hy:lim y=false) (hl:18<(Lib.itoa x).length∨18<(Lib.itoa y).length) (w:World) (hE:Env w) :
  Calls Tryz.prog 274 #[.string ⟨(Lib.itoa x).toArray⟩,.string ⟨(Lib.itoa y).toArray⟩] w fun e w'=>e=.returned (rsV (x - y))∧Q w w':=by
 have hx1:=lim_lt hx
 have hy1:=lim_lt hy
 have hs:((x - y).natAbs:Int)<LB ^ 35:=by
  have h:=pow_step 34
  have h1:LB ^ 35=LB ^ 34*LB:=h.1
  have h2:=Int.mul_le_mul_of_nonneg_left (show (2:Int)≤LB by decide) (Int.le_of_lt h.2)
  omega
 have HB:=LH (fun w=>integer_both_ok x y hx hy w)
 have HS:=LH (fun w=>integer_small_long _ _ hl w)
 have HX:=LH (fun w=>read_itoa x hx w)
 have HY:=LH (fun w=>read_itoa y hy w)
 have HH:=LH hs
 have HM:=LH (show sgn (decide (x<0)) x.natAbs+sgn (!decide (y<0)) y.natAbs=x - y by rw [sgn_not,sgn_dec,sgn_dec]; omega)
 clear hs hx1 hy1 hl hx hy
 generalize decide (x<0)=m1 at *
 generalize decide (y<0)=m2 at *
 obtain ⟨mn,hmn⟩:∃ mn,(!m2)=mn:=⟨_,rfl⟩
 rw [hmn] at HM
 go_enter Tryz.func274,Tryz.ntmps274
 go_wp2_with fail
 refine (HB.out _).mono ?_
 rintro e w1 ⟨rfl,hq1⟩
 go_wp2_with fail
 refine (HS.out _).mono ?_
 rintro e w2 ⟨rfl,rfl⟩
 go_wp2_with fail
 refine (HY.out _).mono ?_
 rintro e w3 ⟨v2,rfl,hv2,hq3⟩
 have hQ3:=Q.trans hq1 hq3
 have N2:=LH hv2
 obtain ⟨a2,c2,rfl,-,-⟩:=hv2.2.2
 generalize hn2:(limbs LB (y.natAbs:Int)).length=n2 at *
 clear hv2 hn2
 obtain ⟨W0,hW0⟩:∃ W0,w3.alloc (.cells [.bool m2,.slice a2 n2 c2].toArray 200)=W0:=⟨_,rfl⟩
 have B0:Blk W0 w3.heap.size [.bool m2,.slice a2 n2 c2] 200:=by rw [← hW0]; exact Blk.new w3 _ _
 have hq0:Q w3 W0:=by rw [← hW0]; exact (Below.refl _ w3).alloc (Nat.le_refl _) _
 have b0:=B0.cell 0
 have f0:=B0.frozen 0
 simp only [List.getElem?_cons_zero] at b0 hW0
 obtain ⟨W1,hW1⟩:∃ W1,W0.setCell ⟨w3.heap.size,0,none⟩ (.bool mn)=W1:=⟨_,rfl⟩
 have B1:Blk W1 w3.heap.size [.bool mn,.slice a2 n2 c2] 200:=by rw [← hW1]; exact B0.set 0 (.bool mn)
 have hq01:Q w3 W1:=by rw [← hW1]; exact hq0.setCell (p:=⟨w3.heap.size,0,none⟩) (by simp) _
 have hQ1:=Q.trans hQ3 hq01
 have d0:=B1.drew.cell 0
 have d1:=B1.drew.cell 1
 simp only [zs4,zs5] at d0 d1
 clear HB HS HY
 go_wp2_with fail
 refine wp_steadily 9 rfl (by kernel_rfl) rfl ?_
 refine svp 0 ?_
 refine steadily_value (i:=2) (v:=.agg #[.bool mn,.slice a2 n2 c2]) rfl rfl (by kernel_rfl) (by kernel_rfl) (fun _ _ _ h=>h) (by rfl) (fun w' hq=>?_) ?_
 ·have h0:=qcell hq d0
  have h1:=qcell hq d1
  go_simp
 simp only [Act.put,zs1,zs2,zs3]
 refine steadily_only (i:=1) rfl rfl (by kernel_rfl) (by rfl) ?_ (fun w' hq=>(HX.out w').mono ?_)
 ·(intro w' hq; go_simp; try with_reducible rfl)
 rintro e w5 ⟨v1,rfl,hv1,hq5⟩
 have hq15:Q W1 w5:=Q.trans (Below.trans (Below.drew (Q.refl W1)) hq) hq5
 refine ⟨_,rfl,hq5,?_⟩
 simp only [Act.put,zs1,zs2,zs3]
 refine steadily_only (i:=3) rfl rfl (by kernel_rfl) (by rfl) ?_ (fun w' hq=>(integer_add m1 mn _ _ _ _ w' (hv1.keep hq) (N2.out.keep (Q.trans hq01 (Q.trans hq15 hq)))).mono ?_)
 ·(intro w' hq; go_simp; try with_reducible rfl)
 rintro e w6 ⟨m,z,v,rfl,hm,hz,hi,hq6⟩
 refine ⟨_,rfl,hq6,?_⟩
 simp only [Act.put,zs1,zs2,zs3]
 rw [HM.out] at hm
 have hQ6:Q w w6:=Q.trans hQ1 (Q.trans hq15 (Q.trans hq hq6))
 have HRs:Hid (∀ W,Q w6 W→Calls Tryz.prog 138 #[.agg #[.bool m,v]] W fun e w'=>e=.returned (rsV (x - y))∧Q W w'):=LH (fun W hW=>by
  have h:=integer_result m z v W (hE.q (Q.trans hQ6 hW)) (numOf_of hm hz (hi.keep hW) 35 (by decide) HH.out)
  rw [hm] at h
  exact h)
 clear hm hi hv1
 by_cases hlz:lim (x - y)=true
 ·have HZ:=LH hlz
  have HR2:Hid (∀ W,Q w6 W→Calls Tryz.prog 138 #[.agg #[.bool m,v]] W fun e w'=>e=.returned (.tuple #[.string ⟨#[]⟩,.int .i64 4])∧Q W w'):=LH (fun W hW=>by
   have h:=HRs.out W hW
   unfold rsV at h; rw [if_pos HZ.out] at h; exact h)
  clear hlz
  refine steadily_call (i:=4) (v:=_) rfl rfl (by kernel_rfl) (by kernel_rfl) (fun _ _ _ h=>h) (by rfl) ?_ (fun w' hq=>HR2.out w' hq) ?_
  ·(intro w' hq; go_simp; try with_reducible rfl)
  simp only [Act.put,zs1,zs2,zs3]
  refine svp 5 ?_
  refine svp 6 ?_
  refine svp 7 ?_
  refine svp 8 ?_
  refine steadily_done (by kernel_rfl) (fun w7 hq7=>?_)
  simp only [List.drop_succ_cons,List.drop_nil]
  have hQ7:=Q.trans hQ6 hq7
  clear HRs HR2
  go_wp2
  go_ret2
  exact ⟨by unfold rsV; rw [if_pos HZ.out]; rfl,hQ7⟩
 ·have HZ:=LH hlz
  have HR2:Hid (∀ W,Q w6 W→Calls Tryz.prog 138 #[.agg #[.bool m,v]] W fun e w'=>e=.returned (.tuple #[.string ⟨(Lib.itoa (x - y)).toArray⟩,.int .i64 0])∧Q W w'):=LH (fun W hW=>by
   have h:=HRs.out W hW
   unfold rsV at h; rw [if_neg HZ.out] at h; exact h)
  clear hlz
  refine steadily_call (i:=4) (v:=_) rfl rfl (by kernel_rfl) (by kernel_rfl) (fun _ _ _ h=>h) (by rfl) ?_ (fun w' hq=>HR2.out w' hq) ?_
  ·(intro w' hq; go_simp; try with_reducible rfl)
  simp only [Act.put,zs1,zs2,zs3]
  refine svp 5 ?_
  refine svp 6 ?_
  refine svp 7 ?_
  refine svp 8 ?_
  refine steadily_done (by kernel_rfl) (fun w7 hq7=>?_)
  simp only [List.drop_succ_cons,List.drop_nil]
  have hQ7:=Q.trans hQ6 hq7
  clear HRs HR2
  go_wp2
  go_ret2
  exact ⟨by unfold rsV; rw [if_neg HZ.out]; rfl,hQ7⟩
theorem integer_Sub (x y:Int) (hx:lim x=false) (hy:lim y=false) (w:World) (hE:Env w) :
  Calls Tryz.prog 274 #[.string ⟨(Lib.itoa x).toArray⟩,.string ⟨(Lib.itoa y).toArray⟩] w fun e w'=>e=.returned (rsV (x - y))∧Q w w':=by
 by_cases hl:18<(Lib.itoa x).length∨18<(Lib.itoa y).length
 ·exact integer_Sub_long x y hx hy hl w hE
 ·have hx2:=short_abs (x:=x) (by omega)
  have hy2:=short_abs (x:=y) (by omega)
  have:rsV (x - y)=.tuple #[.string ⟨(Lib.itoa (x - y)).toArray⟩,.int .i64 0]:=by
   unfold rsV; rw [lim_of_lt (by omega)]; rfl
  rw [this]
  exact integer_Sub_short x y (by omega) (by omega) w hE
end Go.Proofs.YtohlpeicpoaanaaGreatDoor
