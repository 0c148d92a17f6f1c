/-
  Walks of package integer at numbers of any length: Mul, Sub, Compare.; Walks of package integer at numbers of any length: Compare, Gcd, Divide.; Walks of package integer at numbers of any length: Divide.
-/
import Derived.Test.YtapnkgdnflofbaaGreatDoorCH08
set_option maxRecDepth 100000
set_option maxHeartbeats 2000000
namespace Go.Proofs.YtapnkgdnflofbaaGreatDoor
section
open Go.RowKit Kp
theorem zsG{x y:Int}(hx:lim x=false)(hy:lim y=false):((x*y).natAbs:Int)<LB ^ 68:=by
 have hx1:=ziI hx
 have hy1:=ziI hy
 have e:LB ^ 68=LB ^ 34*LB ^ 34:=by rw[← Int.pow_add]
 have hp:(0:Int)<LB ^ 34:=Int.pow_pos (by decide)
 rw[e,Int.natAbs_mul,Int.natCast_mul]
 generalize LB ^ 34=P at *
 have h1:(x.natAbs:Int)*(y.natAbs:Int)≤(x.natAbs:Int)*P:=Int.mul_le_mul_of_nonneg_left (by omega) (by omega)
 have h2:(x.natAbs:Int)*P<P*P:=Int.mul_lt_mul_of_pos_right hx1 hp
 omega
theorem zst(m1 m2:Bool)(a b:Int):sgn (m1 != m2) (a*b)=sgn m1 a*sgn m2 b:=by
 unfold sgn;cases m1 <;> cases m2 <;> simp <;> grind
theorem zhL(x y:Int)(hx:lim x=false)(hy:lim y=false)(hl:18<(Lib.itoa x).length+(Lib.itoa y).length)(w:World)(hE:Env w) :
  CR 77 #[.string ⟨(Lib.itoa x).toArray⟩,.string ⟨(Lib.itoa y).toArray⟩] w (rsV (x*y)):=by
 have HB:=LH (fun w=>zZ x y hx hy w)
 have HX:=LH (fun w=>za5 x hx w)
 have HY:=LH (fun w=>za5 y hy w)
 have HH:=LH (zsG hx hy)
 have hsg:=zst (decide (x<0)) (decide (y<0)) x.natAbs y.natAbs
 rw[zdr,zdr]at hsg
 have HM:=LH hsg
 have hli:(18:Int)<((Lib.itoa x).length:Int)+((Lib.itoa y).length:Int):=by omega
 have hlx:=zU x hx
 have hly:=zU y hy
 have hd18:decide (((Lib.itoa x).length:Int)+((Lib.itoa y).length:Int)≤18)=false:=by simp;omega
 clear hsg hx hy
 generalize decide (x<0)=m1 at *
 generalize decide (y<0)=m2 at *
 obtain⟨mm,hmm⟩:∃ mm,(m1 != m2)=mm:=⟨_,rfl⟩
 have hmm2:(m1 == m2)=!mm:=by rw[← hmm];cases m1 <;> cases m2 <;> rfl
 rw[hmm]at HM
 go_enter Tryz.func77,Tryz.ntmps77
 go_wp2_with fail
 refine cx (HB.out _) fun w1 hq1=>?_
 go_wp2_with fail
 refine(HX.out _).mono ?_
 rintro e w3⟨v1,rfl,hv1,hq3⟩
 go_wp2_with fail
 refine(HY.out _).mono ?_
 rintro e w4⟨v2,rfl,hv2,hq4⟩
 have hQ4:=Q.trans (Q.trans hq1 hq3) hq4
 have N1:=LH (hv1.keep hq4)
 have N2:=LH hv2
 obtain⟨a1,c1,rfl,-,-⟩:=hv1.2.2
 obtain⟨a2,c2,rfl,-,-⟩:=hv2.2.2
 generalize hn1:(limbs LB (x.natAbs:Int)).length=n1 at *
 generalize hn2:(limbs LB (y.natAbs:Int)).length=n2 at *
 clear hv1 hv2 hn1 hn2
 obtain⟨W0,hW0⟩:∃ W0,(w4.alloc (.cells [.bool m1,.slice a1 n1 c1].toArray 204)).alloc (.cells [.bool m2,.slice a2 n2 c2].toArray 204)=W0:=⟨_,rfl⟩
 have hq0:Q w4 W0:=by rw[← hW0];exact((Below.refl _ w4).alloc (Nat.le_refl _) _).alloc (by simp) _
 have B1:Blk W0 w4.heap.size [.bool m1,.slice a1 n1 c1] 204:=by rw[← hW0];exact(Blk.new w4 _ _).alloc _
 have B2:Blk W0 (w4.heap.size+1) [.bool m2,.slice a2 n2 c2] 204:=by
  have:=Blk.new (w4.alloc (.cells [.bool m1,.slice a1 n1 c1].toArray 204)) [.bool m2,.slice a2 n2 c2] 204
  rw[World.size_alloc,hW0]at this;exact this
 have d0:=B1.drew.cell 0
 have d1:=B1.drew.cell 1
 have d2:=B2.drew.cell 0
 have d3:=B2.drew.cell 1
 simp only[zs4,zs5]at d0 d1 d2 d3 hW0
 have hQ0:=Q.trans hQ4 hq0
 have HC:Hid (∀ W,Q W0 W→Calls Tryz.prog 147 #[.slice a1 n1 c1,.slice a2 n2 c2] W fun e w'=>∃ v',e=.returned v'∧zO w' v' (limbs LB ((x.natAbs:Int)*y.natAbs))∧Q W w'):=LH (fun W hW=>by
  have hqW:=Q.trans hq0 hW
  have h:=zkV (limbs LB x.natAbs) (limbs LB y.natAbs) (zQ (by decide) _) (zQ (by decide) _) (by have:=N1.out.2.1;omega) (by have:=N2.out.2.1;omega) _ _ W (N1.out.2.2.keep hqW) (N2.out.2.2.keep hqW)
  rw[zG (by decide) _ (by omega),zG (by decide) _ (by omega)]at h
  exact h)
 have HRs:Hid (∀ W v,Q W0 W→zO W v (limbs LB ((x.natAbs:Int)*y.natAbs))→CR 145 #[.agg #[.bool mm,v]] W (rsV (x*y))):=LH (fun W v hW hi=>by
  have hm0:(0:Int)≤(x.natAbs:Int)*y.natAbs:=Int.mul_nonneg (by omega) (by omega)
  have h:=zao mm ((x.natAbs:Int)*y.natAbs) v W (hE.q (Q.trans hQ0 hW)) (zkG HM.out hm0 hi 68 (by decide) HH.out)
  rw[HM.out]at h
  exact h)
 clear HX HY HB
 go_wp2_with fail
 refine zn 16 rfl (by kernel_rfl) rfl ?_
 refine svp 0 ?_
 refine svq 1 rfl (by intro w' hq;have hc0:=za hq d0;go_simp;try with_reducible rfl) ?_
 refine svp 2 ?_
 refine svq 3 rfl (by intro w' hq;have hc0:=za hq d2;go_simp;try with_reducible rfl) ?_
 refine svp 4 ?_
 refine svp 5 ?_
 refine svq 6 rfl (by intro w' hq;have hc0:=za hq d1;go_simp;try with_reducible rfl) ?_
 refine svp 7 ?_
 refine svq 8 rfl (by intro w' hq;have hc0:=za hq d3;go_simp;try with_reducible rfl) ?_
 refine zaa (i:=9) rfl rfl (by kernel_rfl) (by rfl) ?_ (fun w' hq=>(HC.out w' (Below.trans (Below.drew (Q.refl W0)) hq)).mono ?_)
 ·(intro w' hq;go_simp;try with_reducible rfl)
 rintro e w5⟨v',rfl,hs,hq5⟩
 have HS:=LH hs
 obtain⟨a3,c3,rfl,-,-⟩:=hs
 generalize hn3:(limbs LB ((x.natAbs:Int)*y.natAbs)).length=n3 at *
 have HN3:=LH hn3
 clear hn3
 refine⟨_,rfl,hq5,?_⟩
 simp only[Act.put,zs1,zs2,zs3]
 have hq05:Q W0 w5:=Q.trans (Below.trans (Below.drew (Q.refl W0)) hq) hq5
 refine svp 10 ?_
 by_cases hlz:lim (x*y)=true
 ·have HZ:=LH hlz
  have HR2:Hid (∀ W,Q w5 W→CR 145 #[.agg #[.bool mm,.slice a3 n3 c3]] W (.tuple #[.string ⟨#[]⟩,.int .i64 4])):=LH (fun W hW=>by
   have h:=HRs.out W (.slice a3 n3 c3) (Q.trans hq05 hW) (HS.out.keep hW)
   unfold rsV at h;rw[if_pos HZ.out]at h;exact h)
  clear hlz
  refine zk (i:=11) (v:=_) rfl rfl (by kernel_rfl) (by kernel_rfl) (fun _ _ _ h=>h) (by rfl) ?_ (fun w' hq=>HR2.out w' hq) ?_
  ·(intro w' hq;go_simp;try with_reducible rfl)
  simp only[Act.put,zs1,zs2,zs3]
  refine svp 12 ?_
  refine svp 13 ?_
  refine svp 14 ?_
  refine svp 15 ?_
  refine zh (by kernel_rfl) (fun w6 hq6=>?_)
  simp only[List.drop_succ_cons,List.drop_nil]
  have hQ6:=Q.trans (Q.trans hQ0 hq05) hq6
  clear HRs HR2 HC
  go_wp2
  go_ret2
  exact⟨by unfold rsV;rw[if_pos HZ.out];rfl,hQ6⟩
 ·have HZ:=LH hlz
  have HR2:Hid (∀ W,Q w5 W→CR 145 #[.agg #[.bool mm,.slice a3 n3 c3]] W (.tuple #[.string ⟨(Lib.itoa (x*y)).toArray⟩,.int .i64 0])):=LH (fun W hW=>by
   have h:=HRs.out W (.slice a3 n3 c3) (Q.trans hq05 hW) (HS.out.keep hW)
   unfold rsV at h;rw[if_neg HZ.out]at h;exact h)
  clear hlz
  refine zk (i:=11) (v:=_) rfl rfl (by kernel_rfl) (by kernel_rfl) (fun _ _ _ h=>h) (by rfl) ?_ (fun w' hq=>HR2.out w' hq) ?_
  ·(intro w' hq;go_simp;try with_reducible rfl)
  simp only[Act.put,zs1,zs2,zs3]
  refine svp 12 ?_
  refine svp 13 ?_
  refine svp 14 ?_
  refine svp 15 ?_
  refine zh (by kernel_rfl) (fun w6 hq6=>?_)
  simp only[List.drop_succ_cons,List.drop_nil]
  have hQ6:=Q.trans (Q.trans hQ0 hq05) hq6
  clear HRs HR2 HC
  go_wp2
  go_ret2
  exact⟨by unfold rsV;rw[if_neg HZ.out];rfl,hQ6⟩
theorem zkM{x y:Int}(hl:(Lib.itoa x).length+(Lib.itoa y).length≤18):lim (x*y)=false:=by
 have h:=zlP hl
 exact zdP (by omega)
theorem zaO(x y:Int)(hx:lim x=false)(hy:lim y=false)(w:World)(hE:Env w) :
  CR 77 #[.string ⟨(Lib.itoa x).toArray⟩,.string ⟨(Lib.itoa y).toArray⟩] w (rsV (x*y)):=by
 by_cases hl:18<(Lib.itoa x).length+(Lib.itoa y).length
 ·exact zhL x y hx hy hl w hE
 ·have:rsV (x*y)=.tuple #[.string ⟨(Lib.itoa (x*y)).toArray⟩,.int .i64 0]:=by
   unfold rsV;rw[zkM (by omega)];rfl
  rw[this]
  exact zg9 x y (by omega) w hE
theorem zpJ(m:Bool)(z:Int):sgn (!m) z = -sgn m z:=by cases m <;> simp[sgn]
theorem zhK(x y:Int)(hx:lim x=false)(hy:lim y=false)(hl:18<(Lib.itoa x).length∨18<(Lib.itoa y).length)(w:World)(hE:Env w) :
  CR 74 #[.string ⟨(Lib.itoa x).toArray⟩,.string ⟨(Lib.itoa y).toArray⟩] w (rsV (x - y)):=by
 have hx1:=ziI hx
 have hy1:=ziI hy
 have hs:((x - y).natAbs:Int)<LB ^ 35:=by
  have h:=zkw 34
  have h1:LB ^ 35=LB ^ 34*LB:=h.1
  have h2:=Int.mul_le_mul_of_nonneg_left (show (2:Int)≤LB by decide) (Int.le_of_lt h.2)
  omega
 have HB:=LH (fun w=>zZ x y hx hy w)
 have HS:=LH (fun w=>za7 _ _ hl w)
 have HX:=LH (fun w=>za5 x hx w)
 have HY:=LH (fun w=>za5 y hy w)
 have HH:=LH hs
 have HM:=LH (show sgn (decide (x<0)) x.natAbs+sgn (!decide (y<0)) y.natAbs=x - y by rw[zpJ,zdr,zdr];omega)
 clear hs hx1 hy1 hl hx hy
 generalize decide (x<0)=m1 at *
 generalize decide (y<0)=m2 at *
 obtain⟨mn,hmn⟩:∃ mn,(!m2)=mn:=⟨_,rfl⟩
 rw[hmn]at HM
 go_enter Tryz.func74,Tryz.ntmps74
 go_wp2_with fail
 refine cx (HB.out _) fun w1 hq1=>?_
 go_wp2_with fail
 refine(HS.out _).mono ?_
 rintro e w2⟨rfl,rfl⟩
 go_wp2_with fail
 refine(HY.out _).mono ?_
 rintro e w3⟨v2,rfl,hv2,hq3⟩
 have hQ3:=Q.trans hq1 hq3
 have N2:=LH hv2
 obtain⟨a2,c2,rfl,-,-⟩:=hv2.2.2
 generalize hn2:(limbs LB (y.natAbs:Int)).length=n2 at *
 clear hv2 hn2
 obtain⟨W0,hW0⟩:∃ W0,w3.alloc (.cells [.bool m2,.slice a2 n2 c2].toArray 204)=W0:=⟨_,rfl⟩
 have B0:Blk W0 w3.heap.size [.bool m2,.slice a2 n2 c2] 204:=by rw[← hW0];exact Blk.new w3 _ _
 have hq0:Q w3 W0:=by rw[← hW0];exact(Below.refl _ w3).alloc (Nat.le_refl _) _
 have b0:=B0.cell
 have f0:=B0.frozen 0
 try simp only[List.getElem?_cons_zero]at hW0
 obtain⟨W1,hW1⟩:∃ W1,W0.setCell ⟨w3.heap.size,0,none⟩ (.bool mn)=W1:=⟨_,rfl⟩
 have B1:Blk W1 w3.heap.size [.bool mn,.slice a2 n2 c2] 204:=by rw[← hW1];exact B0.set 0 (.bool mn)
 have hq01:Q w3 W1:=by rw[← hW1];exact hq0.setCell (p:=⟨w3.heap.size,0,none⟩) (by simp) _
 have hQ1:=Q.trans hQ3 hq01
 have d0:=B1.drew.cell 0
 have d1:=B1.drew.cell 1
 simp only[zs4,zs5]at d0 d1
 clear HB HS HY
 go_wp2_with fail
 refine zn 9 rfl (by kernel_rfl) rfl ?_
 refine svp 0 ?_
 refine zS (i:=2) (v:=.agg #[.bool mn,.slice a2 n2 c2]) rfl rfl (by kernel_rfl) (by kernel_rfl) (fun _ _ _ h=>h) (by rfl) (fun w' hq=>?_) ?_
 ·have h0:=za hq d0
  have h1:=za hq d1
  go_simp
 simp only[Act.put,zs1,zs2,zs3]
 refine zaa (i:=1) rfl rfl (by kernel_rfl) (by rfl) ?_ (fun w' hq=>(HX.out w').mono ?_)
 ·(intro w' hq;go_simp;try with_reducible rfl)
 rintro e w5⟨v1,rfl,hv1,hq5⟩
 have hq15:Q W1 w5:=Q.trans (Below.trans (Below.drew (Q.refl W1)) hq) hq5
 refine⟨_,rfl,hq5,?_⟩
 simp only[Act.put,zs1,zs2,zs3]
 refine zaa (i:=3) rfl rfl (by kernel_rfl) (by rfl) ?_ (fun w' hq=>(zfJ m1 mn _ _ _ _ w' (hv1.keep hq) (N2.out.keep (Q.trans hq01 (Q.trans hq15 hq)))).mono ?_)
 ·(intro w' hq;go_simp;try with_reducible rfl)
 rintro e w6⟨m,z,v,rfl,hm,hz,hi,hq6⟩
 refine⟨_,rfl,hq6,?_⟩
 simp only[Act.put,zs1,zs2,zs3]
 rw[HM.out]at hm
 have hQ6:Q w w6:=Q.trans hQ1 (Q.trans hq15 (Q.trans hq hq6))
 have HRs:Hid (∀ W,Q w6 W→CR 145 #[.agg #[.bool m,v]] W (rsV (x - y))):=LH (fun W hW=>by
  have h:=zao m z v W (hE.q (Q.trans hQ6 hW)) (zkG hm hz (hi.keep hW) 35 (by decide) HH.out)
  rw[hm]at h
  exact h)
 clear hm hi hv1
 by_cases hlz:lim (x - y)=true
 ·have HZ:=LH hlz
  have HR2:Hid (∀ W,Q w6 W→CR 145 #[.agg #[.bool m,v]] W (.tuple #[.string ⟨#[]⟩,.int .i64 4])):=LH (fun W hW=>by
   have h:=HRs.out W hW
   unfold rsV at h;rw[if_pos HZ.out]at h;exact h)
  clear hlz
  refine zk (i:=4) (v:=_) rfl rfl (by kernel_rfl) (by kernel_rfl) (fun _ _ _ h=>h) (by rfl) ?_ (fun w' hq=>HR2.out w' hq) ?_
  ·(intro w' hq;go_simp;try with_reducible rfl)
  simp only[Act.put,zs1,zs2,zs3]
  refine svp 5 ?_
  refine svp 6 ?_
  refine svp 7 ?_
  refine svp 8 ?_
  refine zh (by kernel_rfl) (fun w7 hq7=>?_)
  simp only[List.drop_succ_cons,List.drop_nil]
  have hQ7:=Q.trans hQ6 hq7
  clear HRs HR2
  go_wp2
  go_ret2
  exact⟨by unfold rsV;rw[if_pos HZ.out];rfl,hQ7⟩
 ·have HZ:=LH hlz
  have HR2:Hid (∀ W,Q w6 W→CR 145 #[.agg #[.bool m,v]] W (.tuple #[.string ⟨(Lib.itoa (x - y)).toArray⟩,.int .i64 0])):=LH (fun W hW=>by
   have h:=HRs.out W hW
   unfold rsV at h;rw[if_neg HZ.out]at h;exact h)
  clear hlz
  refine zk (i:=4) (v:=_) rfl rfl (by kernel_rfl) (by kernel_rfl) (fun _ _ _ h=>h) (by rfl) ?_ (fun w' hq=>HR2.out w' hq) ?_
  ·(intro w' hq;go_simp;try with_reducible rfl)
  simp only[Act.put,zs1,zs2,zs3]
  refine svp 5 ?_
  refine svp 6 ?_
  refine svp 7 ?_
  refine svp 8 ?_
  refine zh (by kernel_rfl) (fun w7 hq7=>?_)
  simp only[List.drop_succ_cons,List.drop_nil]
  have hQ7:=Q.trans hQ6 hq7
  clear HRs HR2
  go_wp2
  go_ret2
  exact⟨by unfold rsV;rw[if_neg HZ.out];rfl,hQ7⟩
theorem zna(x y:Int)(hx:lim x=false)(hy:lim y=false)(w:World)(hE:Env w) :
  CR 74 #[.string ⟨(Lib.itoa x).toArray⟩,.string ⟨(Lib.itoa y).toArray⟩] w (rsV (x - y)):=by
 by_cases hl:18<(Lib.itoa x).length∨18<(Lib.itoa y).length
 ·exact zhK x y hx hy hl w hE
 ·have hx2:=zaC (x:=x) (by omega)
  have hy2:=zaC (x:=y) (by omega)
  have:rsV (x - y)=.tuple #[.string ⟨(Lib.itoa (x - y)).toArray⟩,.int .i64 0]:=by
   unfold rsV;rw[zdP (by omega)];rfl
  rw[this]
  exact zg7 x y (by omega) (by omega) w hE
theorem zct{z:Int}(hz:0≤z):(limbs LB z).length=0 ↔ z=0:=by
 constructor
 ·intro h
  by_cases h0:0<z
  ·rw[zbz (by decide) h0]at h;simp at h
  ·omega
 ·rintro rfl;rw[zaL (Int.le_refl _)];rfl
theorem zfa(x y:Int)(hx:lim x=false)(hy:lim y=false)(hl:18<(Lib.itoa x).length∨18<(Lib.itoa y).length)(w:World) :
  CR 83 #[.string ⟨(Lib.itoa x).toArray⟩,.string ⟨(Lib.itoa y).toArray⟩] w (.tuple #[.int .i64 (Lib.compareInt x y),.int .i64 0]):=by
 have HB:=LH (fun w=>zZ x y hx hy w)
 have HS:=LH (fun w=>za7 _ _ hl w)
 have HX:=LH (fun w=>za5 x hx w)
 have HY:=LH (fun w=>za5 y hy w)
 have HM:=LH (show sgn (decide (x<0)) x.natAbs+sgn (!decide (y<0)) y.natAbs=x - y by rw[zpJ,zdr,zdr];omega)
 clear hl hx hy
 generalize decide (x<0)=m1 at *
 generalize decide (y<0)=m2 at *
 obtain⟨mn,hmn⟩:∃ mn,(!m2)=mn:=⟨_,rfl⟩
 rw[hmn]at HM
 go_enter Tryz.func83,Tryz.ntmps83
 go_wp2_with fail
 refine cx (HB.out _) fun w1 hq1=>?_
 go_wp2_with fail
 refine(HS.out _).mono ?_
 rintro e w2⟨rfl,rfl⟩
 go_wp2_with fail
 refine(HX.out _).mono ?_
 rintro e w3⟨v1,rfl,hv1,hq3⟩
 go_wp2_with fail
 refine(HY.out _).mono ?_
 rintro e w4⟨v2,rfl,hv2,hq4⟩
 have hQ4:=Q.trans (Q.trans hq1 hq3) hq4
 have N1:=LH (hv1.keep hq4)
 have N2:=LH hv2
 obtain⟨a1,c1,rfl,-,-⟩:=hv1.2.2
 obtain⟨a2,c2,rfl,-,-⟩:=hv2.2.2
 generalize hn1:(limbs LB (x.natAbs:Int)).length=n1 at *
 generalize hn2:(limbs LB (y.natAbs:Int)).length=n2 at *
 clear hv1 hv2 hn1 hn2
 obtain⟨W0,hW0⟩:∃ W0,(w4.alloc (.cells [.bool m1,.slice a1 n1 c1].toArray 204)).alloc (.cells [.bool m2,.slice a2 n2 c2].toArray 204)=W0:=⟨_,rfl⟩
 have hq0:Q w4 W0:=by rw[← hW0];exact((Below.refl _ w4).alloc (Nat.le_refl _) _).alloc (by simp) _
 have B1:Blk W0 w4.heap.size [.bool m1,.slice a1 n1 c1] 204:=by rw[← hW0];exact(Blk.new w4 _ _).alloc _
 have B2:Blk W0 (w4.heap.size+1) [.bool m2,.slice a2 n2 c2] 204:=by
  have:=Blk.new (w4.alloc (.cells [.bool m1,.slice a1 n1 c1].toArray 204)) [.bool m2,.slice a2 n2 c2] 204
  rw[World.size_alloc,hW0]at this;exact this
 have e0:=B2.cell
 have f0:=B2.frozen 0
 obtain⟨W1,hW1⟩:∃ W1,W0.setCell ⟨w4.heap.size+1,0,none⟩ (.bool mn)=W1:=⟨_,rfl⟩
 have C1:Blk W1 w4.heap.size [.bool m1,.slice a1 n1 c1] 204:=by rw[← hW1];exact B1.setOther (by omega) 0 _
 have C2:Blk W1 (w4.heap.size+1) [.bool mn,.slice a2 n2 c2] 204:=by rw[← hW1];exact B2.set 0 (.bool mn)
 have hq01:Q w4 W1:=by rw[← hW1];exact hq0.setCell (p:=⟨w4.heap.size+1,0,none⟩) (by simp) _
 have hQ1:=Q.trans hQ4 hq01
 have d0:=C1.cell 0
 have d1:=C1.cell 1
 have d2:=C2.cell 0
 have d3:=C2.cell 1
 try simp only[zs4,zs5]at d0 d1 d2 d3 hW0
 clear HB HS HX HY
 go_wp2_with fail
 refine(zfJ m1 mn _ _ _ _ W1 (N1.out.keep hq01) (N2.out.keep hq01)).mono ?_
 rintro e w6⟨m,z,v,rfl,hm,hz,hi,hq6⟩
 rw[HM.out]at hm
 have hQ6:Q w w6:=Q.trans hQ1 hq6
 obtain⟨a3,c3,rfl,-,-⟩:=hi
 have hz0:=zct hz
 generalize (limbs LB z).length=n3 at *
 have HQ:Hid (∀ o:Obj,Q w (w6.alloc o)):=LH (fun o=>hQ6.alloc hQ6.size o)
 have D0:Blk (w6.alloc (.cells [.bool m,.slice a3 n3 c3].toArray 204)) w6.heap.size [.bool m,.slice a3 n3 c3] 204:=Blk.new w6 _ _
 have g0:=D0.cell
 clear d0 d1 d2 d3 e0 f0 hW0 hW1
 by_cases h0:n3=0
 ·have hxy:x=y:=by
   have:=hz0.1 h0;subst this
   have:sgn m 0=0:=by cases m <;> rfl
   omega
  have HE:Hid (Lib.compareInt x y=0):=LH (by subst hxy;simp[Lib.compareInt])
  subst h0
  clear hz0 hxy hm
  go_wp2
  go_ret2
  exact⟨by rw[HE.out];rfl,HQ.out _⟩
 ·have hnb:((n3:Int) == 0)=false:=by rw[beq_eq_false_iff_ne];omega
  have hzp:z≠0:=fun e=>h0 (hz0.2 e)
  cases m with
  | true =>
   have HE:Hid (Lib.compareInt x y = -1):=LH (by
    have:x<y:=by simp[sgn]at hm;omega
    unfold Lib.compareInt;rw[if_pos this])
   clear hz0 hm h0
   go_wp2
   go_ret2
   exact⟨by rw[HE.out];rfl,HQ.out _⟩
  | false =>
   have HE:Hid (Lib.compareInt x y=1):=LH (by
    have:y<x:=by simp[sgn]at hm;omega
    unfold Lib.compareInt;rw[if_neg (by omega),if_pos this])
   clear hz0 hm h0
   go_wp2
   go_ret2
   exact⟨by rw[HE.out];rfl,HQ.out _⟩
theorem ziR(x y:Int)(hx:lim x=false)(hy:lim y=false)(w:World) :
  CR 83 #[.string ⟨(Lib.itoa x).toArray⟩,.string ⟨(Lib.itoa y).toArray⟩] w (.tuple #[.int .i64 (Lib.compareInt x y),.int .i64 0]):=by
 by_cases hl:18<(Lib.itoa x).length∨18<(Lib.itoa y).length
 ·exact zfa x y hx hy hl w
 ·exact zeR x y (by omega) (by omega) w
theorem zeU(m:Bool)(a:Option Addr)(n c:Nat)(w:World):(Instr.field 204 (.agg #[.bool m,.slice a n c]) 1).run Tryz.prog w=.ok (.slice a n c) w:=by kernel_rfl
theorem zau{x y:Int}(hy:0≤y)(h:x≤y):(limbs LB x).length≤(limbs LB y).length :=
 zbZ (by decide) _ _ (by
  have h1:=zbh (show (0:Int)<LB by decide) (zQ (B:=LB) (by decide) y)
  rw[zG (by decide) y hy]at h1
  omega)
def zpE(w:World)(v:Value):Nat:=match v with
 | .slice (some a) n _=>(lval LB ((List.range n).map fun i=>match w.cell? ⟨a.block,a.off+i,none⟩with | some (.int _ x)=>x | _=>0)).toNat
 | _=>0
theorem zrd{w:World}{v:Value}{l:List Int}(h:zO w v l):zpE w v=(lval LB l).toNat:=by
 rcases h.cases with⟨rfl,a,cap,rfl⟩|⟨b,o,cap,rfl,hcap,h0,hA⟩
 ·cases a <;> rfl
 ·unfold zpE
  simp only
  congr 2
  refine List.ext_getElem (by simp) fun i h1 h2=>?_
  rw[List.getElem_map,List.getElem_range,hA.2 i h2,List.getD_eq_getElem?_getD,List.getElem?_eq_getElem h2]
  rfl
theorem zfU{w:World}{v:Value}{n:Nat}(h:zdC w n v):zpE w v=n:=by
 rw[zrd h.2.2,zG (by decide) _ (by omega)];omega
theorem zhM(x y:Int)(hx:lim x=false)(hy:lim y=false)(hl:18<(Lib.itoa x).length∨18<(Lib.itoa y).length)(w:World)(hE:Env w) :
  CR 149 #[.string ⟨(Lib.itoa x).toArray⟩,.string ⟨(Lib.itoa y).toArray⟩] w (.tuple #[.string ⟨(Lib.itoa (Nat.gcd x.natAbs y.natAbs:Int)).toArray⟩,.int .i64 0]):=by
 have HB:=LH (fun w=>zZ x y hx hy w)
 have HS:=LH (fun w=>za7 _ _ hl w)
 have HX:=LH (fun w=>za5 x hx w)
 have HY:=LH (fun w=>za5 y hy w)
 have hgl:lim (Nat.gcd x.natAbs y.natAbs:Int)=false:=by
  rw[za1,Int.natAbs_natCast]
  have h1:=(za1 x).1 hx
  have h2:=(za1 y).1 hy
  by_cases h0:x.natAbs=0
  ·rw[h0,Nat.gcd_zero_left];exact h2
  ·exact Nat.lt_of_le_of_lt (Nat.gcd_le_left _ (by omega)) h1
 have hgr:rsV (Nat.gcd x.natAbs y.natAbs:Int)=.tuple #[.string ⟨(Lib.itoa (Nat.gcd x.natAbs y.natAbs:Int)).toArray⟩,.int .i64 0]:=by unfold rsV;rw[hgl];rfl
 have HGR:=LH hgr
 clear hl hx hy hgr hgl
 go_enter Tryz.func149,Tryz.ntmps149
 go_wp2_with fail
 refine cx (HB.out _) fun w1 hq1=>?_
 go_wp2_with fail
 refine(HS.out _).mono ?_
 rintro e w2⟨rfl,rfl⟩
 go_wp2_with fail
 refine(HX.out _).mono ?_
 rintro e w3⟨v1,rfl,hv1,hq3⟩
 have N1:=LH hv1
 obtain⟨a1,c1,rfl,-,-⟩:=hv1.2.2
 generalize (limbs LB (x.natAbs:Int)).length=n1 at *
 clear hv1
 generalize decide (x<0)=m1 at *
 have hf1:=zeU m1 a1 n1 c1
 go_wp2_with fail
 refine(HY.out _).mono ?_
 rintro e w4⟨v2,rfl,hv2,hq4⟩
 have hQ4:=Q.trans (Q.trans hq1 hq3) hq4
 have N1':=LH (N1.out.keep hq4)
 have N2:=LH hv2
 obtain⟨a2,c2,rfl,-,-⟩:=hv2.2.2
 generalize hn2:(limbs LB (y.natAbs:Int)).length=n2 at *
 have HN2:=LH hn2
 clear hv2 hn2 HB HS HX HY N1
 generalize decide (y<0)=m2 at *
 have hf2:=zeU m2 a2 n2 c2
 go_wp2_with fail
 go_loopw [10,11] (fun u v wr=>∃ (p q n1 n2 c1 c2:Nat) (a1 a2:Option Addr),u=.slice a1 n1 c1∧v=.slice a2 n2 c2∧Hid (zdC wr p (.slice a1 n1 c1))∧Hid (zdC wr q (.slice a2 n2 c2))∧Hid ((limbs LB (q:Int)).length=n2)∧Hid (Nat.gcd p q=Nat.gcd x.natAbs y.natAbs)∧Q w wr) (fun _ v wr=>zpE wr v)
 case atStart=>exact⟨x.natAbs,y.natAbs,n1,n2,c1,c2,a1,a2,rfl,rfl,N1',N2,HN2,LH rfl,hQ4⟩
 case round =>
  clear N1' N2 HN2 hQ4 hq4 hq3 hq1 hf1 hf2
  obtain⟨p,q,k1,k2,e1,e2,b1,b2,rfl,rfl,M1,M2,HK,HG,hQ⟩:=hrel
  by_cases h0:k2=0
  ·subst h0
   have hq0:q=0:=by
    have:=(zct (z:=(q:Int)) (by omega)).1 HK.out
    omega
   subst hq0
   have hg:=HG.out
   rw[Nat.gcd_zero_right]at hg
   have HR:=LH (zao false p _ wr (hE.q hQ) M1.out)
   have e:sgn false (p:Int)=((Nat.gcd x.natAbs y.natAbs:Nat):Int):=by rw[← hg];rfl
   rw[e,HGR.out]at HR
   clear hg e
   go_wp2_with fail
   refine HR.out.mono ?_
   rintro e w5⟨rfl,hq5⟩
   have hQ5:=Q.trans hQ hq5
   clear HR
   go_wp2
   go_ret2
   exact⟨rfl,hQ5⟩
  ·have hq0:0<q:=by
    by_cases h:q=0
    ·exact absurd (by have:=(zct (z:=(q:Int)) (by omega)).2 (by omega);rw[HK.out]at this;exact this) h0
    ·omega
   have hk2:(0:Int)<(k2:Int):=by omega
   have HD:=LH (zcu (p:Int) (q:Int) (by omega) (by omega) (by have:=M1.out.2.1;omega) (by have:=M2.out.2.1;omega) _ _ wr M1.out.2.2 M2.out.2.2)
   have hsv:=zfU M2.out
   clear h0
   go_wp2_with fail
   refine HD.out.mono ?_
   rintro e w5⟨qv,rv,rfl,-,hr,hq5⟩
   rw[show (p:Int) % (q:Int)=((p % q:Nat):Int) by rfl]at hr
   have M3:Hid (zdC w5 (p % q:Nat) rv):=LH ⟨by omega,by
    have h1:=zau (x:=((p % q:Nat):Int)) (y:=(q:Int)) (by omega) (by have:=Nat.mod_lt p hq0;omega)
    have:=M2.out.2.1
    omega,hr⟩
   obtain⟨a3,c3,rfl,-,-⟩:=hr
   have hsv3:=zfU M3.out
   generalize hn3:(limbs LB ((p % q:Nat):Int)).length=n3 at *
   have HN3:=LH hn3
   have M2':=LH (M2.out.keep hq5)
   have hQ5:=Q.trans hQ hq5
   have hmd:=Nat.mod_lt p hq0
   have HG':Hid (Nat.gcd q (p % q)=Nat.gcd x.natAbs y.natAbs):=LH (by rw[← zhV];exact HG.out)
   clear hn3 HD M1 M2 HG
   go_wp2
   go_roundw
   case rel=>exact⟨q,p % q,_,_,_,_,_,_,rfl,rfl,M2',M3,HN3,HG',hQ5⟩
   case measure=>rw[hsv,hsv3];exact hmd
theorem zfK(x y:Int)(hx:lim x=false)(hy:lim y=false)(w:World)(hE:Env w) :
  CR 149 #[.string ⟨(Lib.itoa x).toArray⟩,.string ⟨(Lib.itoa y).toArray⟩] w (.tuple #[.string ⟨(Lib.itoa (Nat.gcd x.natAbs y.natAbs:Int)).toArray⟩,.int .i64 0]):=by
 by_cases hl:18<(Lib.itoa x).length∨18<(Lib.itoa y).length
 ·exact zhM x y hx hy hl w hE
 ·exact zdS x y (by omega) (by omega) w hE
theorem zqA{a b:Int}(m:Bool)(_ha:0≤a)(hb:0<b):(sgn m a).fdiv (sgn m b)=a / b∧(sgn m a).fmod (sgn m b)=sgn m (a % b):=by
 have h:=Int.emod_add_mul_ediv a b
 have h0:=Int.emod_nonneg a (show b≠0 by omega)
 have h1:=Int.emod_lt_of_pos a hb
 generalize a / b=q at *
 generalize a % b=r at *
 have e:-b*q = -(b*q):=Int.neg_mul ..
 cases m <;> simp only[sgn,if_true,Bool.false_eq_true,if_false] <;> exact zcW (by omega) (by omega)
theorem zqB{a b:Int}(m1 m2:Bool)(hm:(m1 != m2)=true)(_ha:0≤a)(hb:0<b) :
  (a % b=0→(sgn m1 a).fdiv (sgn m2 b) = -(a / b)∧(sgn m1 a).fmod (sgn m2 b)=0)∧(0<a % b→(sgn m1 a).fdiv (sgn m2 b) = -(a / b+1)∧(sgn m1 a).fmod (sgn m2 b)=sgn m2 (b - a % b)):=by
 have h:=Int.emod_add_mul_ediv a b
 have h0:=Int.emod_nonneg a (show b≠0 by omega)
 have h1:=Int.emod_lt_of_pos a hb
 generalize a / b=q at *
 generalize a % b=r at *
 have e1:b*-q = -(b*q):=Int.mul_neg ..
 have e2:-b*-q=b*q:=Int.neg_mul_neg ..
 have e3:b*-(q+1) = -(b*q) - b:=by grind
 have e4:-b*-(q+1)=b*q+b:=by grind
 cases m1 <;> cases m2 <;> simp at hm <;> simp only[sgn,if_true,Bool.false_eq_true,if_false] <;> exact⟨fun e=>zcW (by omega) (by omega),fun e=>zcW (by omega) (by omega)⟩
theorem zpb{a b:Int}(ha:0≤a)(hb:0<b):0≤a / b∧a / b≤a∧(0<a % b→a / b+1≤a)∧0≤a % b∧a % b<b:=by
 have h:=Int.emod_add_mul_ediv a b
 have h0:=Int.emod_nonneg a (show b≠0 by omega)
 have h1:=Int.emod_lt_of_pos a hb
 have h2:0≤a / b:=Int.ediv_nonneg ha (by omega)
 have h3:a / b≤a:=Int.ediv_le_self _ ha
 refine⟨h2,h3,fun h4=>?_,h0,h1⟩
 have h5:1*(a / b)≤b*(a / b):=Int.mul_le_mul_of_nonneg_right (by omega) h2
 omega
theorem zfL(x y:Int)(hx:lim x=false)(hy:lim y=false)(hy0:y≠0)(hl:18<(Lib.itoa x).length∨18<(Lib.itoa y).length)(w:World)(hE:Env w) :
  CR 150 #[.string ⟨(Lib.itoa x).toArray⟩,.string ⟨(Lib.itoa y).toArray⟩] w (.tuple #[.string ⟨(Lib.itoa (x.fdiv y)).toArray⟩,.string ⟨(Lib.itoa (x.fmod y)).toArray⟩,.int .i64 0]):=by
 have hn:(Lib.itoa y == [48])=false:=by
  rw[beq_eq_false_iff_ne,← zae];exact fun e=>hy0 (zak e)
 have HB:=LH (fun w=>zZ x y hx hy w)
 have HS:=LH (fun w=>za7 _ _ hl w)
 have HX:=LH (fun w=>za5 x hx w)
 have HY:=LH (fun w=>za5 y hy w)
 have hxs:=zdr x
 have hys:=zdr y
 have hbx:=(za1 x).1 hx
 have hby:=(za1 y).1 hy
 obtain⟨a,ha⟩:∃ a:Int,(x.natAbs:Int)=a:=⟨_,rfl⟩
 obtain⟨b,hb⟩:∃ b:Int,(y.natAbs:Int)=b:=⟨_,rfl⟩
 have ha0:0≤a:=by omega
 have hb0:0<b:=by omega
 rw[ha]at hxs HX
 rw[hb]at hys HY
 have hsame:=fun h:decide (x<0)=decide (y<0)=>zqA (a:=a) (b:=b) (decide (x<0)) ha0 hb0
 have hdiff:=fun h=>zqB (a:=a) (b:=b) (decide (x<0)) (decide (y<0)) h ha0 hb0
 rw[hxs,hys]at hdiff
 have hsame2:decide (x<0)=decide (y<0)→x.fdiv y=a / b∧x.fmod y=sgn (decide (y<0)) (a % b):=fun h=>by
  have h2:=hsame h
  rw[h,hys,← h,hxs]at h2
  exact⟨h2.1,by rw[← h];exact h2.2⟩
 obtain⟨g1,g2,g3,g4,g5⟩:=zpb ha0 hb0
 have hrs:∀ z:Int,z.natAbs<big→rsV z=.tuple #[.string ⟨(Lib.itoa z).toArray⟩,.int .i64 0]:=fun z h=>by unfold rsV;rw[(za1 z).2 h];rfl
 have hfb:(x.fdiv y).natAbs<big∧(x.fmod y).natAbs<big:=by
  by_cases hm:decide (x<0)=decide (y<0)
  ·have h:=hsame2 hm
   rw[h.1,h.2]
   refine⟨by omega,?_⟩
   have:(sgn (decide (y<0)) (a % b)).natAbs=(a % b).natAbs:=by unfold sgn;split <;> omega
   omega
  ·have h:=hdiff (by simpa using hm)
   by_cases hr:a % b=0
   ·rw[(h.1 hr).1,(h.1 hr).2];omega
   ·rw[(h.2 (by omega)).1,(h.2 (by omega)).2]
    have:=g3 (by omega)
    refine⟨by omega,?_⟩
    have:(sgn (decide (y<0)) (b - a % b)).natAbs=(b - a % b).natAbs:=by unfold sgn;split <;> omega
    omega
 have HL1:=LH (hrs _ hfb.1)
 have HL2:=LH (hrs _ hfb.2)
 have HSAME:=LH hsame2
 have HDIFF:=LH hdiff
 clear hl hx hy hxs hys hbx hby hsame hsame2 hdiff hrs hfb ha hb
 generalize decide (x<0)=m1 at *
 generalize decide (y<0)=m2 at *
 go_enter Tryz.func150,Tryz.ntmps150
 go_wp2_with fail
 refine cx (HB.out _) fun w1 hq1=>?_
 go_wp2_with fail
 refine(HS.out _).mono ?_
 rintro e w2⟨rfl,rfl⟩
 go_wp2_with fail
 refine(HX.out _).mono ?_
 rintro e w3⟨v1,rfl,hv1,hq3⟩
 go_wp2_with fail
 refine(HY.out _).mono ?_
 rintro e w4⟨v2,rfl,hv2,hq4⟩
 have hQ4:=Q.trans (Q.trans hq1 hq3) hq4
 have N1:=LH (hv1.keep hq4)
 have N2:=LH hv2
 obtain⟨a1,c1,rfl,-,-⟩:=hv1.2.2
 obtain⟨a2,c2,rfl,-,-⟩:=hv2.2.2
 generalize hn1:(limbs LB a).length=n1 at *
 generalize hn2:(limbs LB b).length=n2 at *
 clear hv1 hv2 hn1 hn2
 obtain⟨W0,hW0⟩:∃ W0,(w4.alloc (.cells [.bool m1,.slice a1 n1 c1].toArray 204)).alloc (.cells [.bool m2,.slice a2 n2 c2].toArray 204)=W0:=⟨_,rfl⟩
 have hq0:Q w4 W0:=by rw[← hW0];exact((Below.refl _ w4).alloc (Nat.le_refl _) _).alloc (by simp) _
 have B1:Blk W0 w4.heap.size [.bool m1,.slice a1 n1 c1] 204:=by rw[← hW0];exact(Blk.new w4 _ _).alloc _
 have B2:Blk W0 (w4.heap.size+1) [.bool m2,.slice a2 n2 c2] 204:=by
  have:=Blk.new (w4.alloc (.cells [.bool m1,.slice a1 n1 c1].toArray 204)) [.bool m2,.slice a2 n2 c2] 204
  rw[World.size_alloc,hW0]at this;exact this
 have d1:=B1.cell 1
 have d3:=B2.cell 1
 simp only[zs4,zs5]at d1 d3 hW0
 have hQ0:=Q.trans hQ4 hq0
 have HD:=LH (zcu a b ha0 hb0 (by have:=N1.out.2.1;omega) (by have:=N2.out.2.1;omega) _ _ W0 (N1.out.2.2.keep hq0) (N2.out.2.2.keep hq0))
 clear HB HS HX HY
 go_wp2_with fail
 refine HD.out.mono ?_
 rintro e w5⟨qv,rv,rfl,hqi,hri,hq5⟩
 have hQ5:=Q.trans hQ0 hq5
 have C1:=B1.keep hq5 B1.lt
 have C2:=B2.keep hq5 B2.lt
 have NQ0:=LH (show zdC w5 (a / b) qv from⟨g1,by have:=zau (x:=a / b) (y:=a) ha0 g2;have:=N1.out.2.1;omega,hqi⟩)
 have NR0:=LH (show zdC w5 (a % b) rv from⟨g4,by have:=zau (x:=a % b) (y:=b) (by omega) (by omega);have:=N2.out.2.1;omega,hri⟩)
 obtain⟨aq,cq,rfl,-,-⟩:=hqi
 obtain⟨ar,cr,rfl,-,-⟩:=hri
 have hr0:=zct g4
 generalize hnq:(limbs LB (a / b)).length=nq at *
 generalize hnr:(limbs LB (a % b)).length=nr at *
 clear hnq hnr HD d1 d3 hW0
 have s0:=C1.cell 0
 have s1:=C2.cell 0
 simp only[List.getElem?_cons_zero]at s0 s1
 by_cases hm:m1=m2
 ·subst hm
  have hmb:(m1 == m1)=true:=by simp
  have hmn:(m1 != m1)=false:=by simp
  have HQE:Hid (sgn false (a / b)=x.fdiv y):=LH (by rw[(HSAME.out rfl).1];rfl)
  have HRE:Hid (sgn m1 (a % b)=x.fmod y):=LH (by rw[(HSAME.out rfl).2])
  clear hr0
  have n1:=NQ0.out
  have n2:=NR0.out
  have hQE:=HQE.out
  have hRE:=HRE.out
  have HRq:Hid (∀ W,Q w5 W→CR 145 #[.agg #[.bool false,(.slice aq nq cq)]] W (.tuple #[.string ⟨(Lib.itoa (x.fdiv y)).toArray⟩,.int .i64 0])):=LH (fun W hW=>by
   have h:=zao false _ (.slice aq nq cq) W (hE.q (Q.trans hQ5 hW)) (n1.keep hW)
   rw[hQE,HL1.out]at h
   exact h)
  have HRr:Hid (∀ W,Q w5 W→CR 145 #[.agg #[.bool m1,(.slice ar nr cr)]] W (.tuple #[.string ⟨(Lib.itoa (x.fmod y)).toArray⟩,.int .i64 0])):=LH (fun W hW=>by
   have h:=zao m1 _ (.slice ar nr cr) W (hE.q (Q.trans hQ5 hW)) (n2.keep hW)
   rw[hRE,HL2.out]at h
   exact h)
  have t0:=C1.cell 0
  have t1:=C2.cell 0
  simp only[List.getElem?_cons_zero]at t0 t1
  clear n1 n2 hQE hRE
  go_wp2_with fail
  refine cx (HRq.out _ (Q.refl _)) fun w7 hq7=>?_
  have t2:=za hq7 t1
  clear t0 t1
  go_wp2_with fail
  refine cx (HRr.out _ hq7) fun w8 hq8=>?_
  have hQ8:=Q.trans hQ5 (Q.trans hq7 hq8)
  clear HRq HRr t2
  go_wp2
  go_ret3
  exact⟨rfl,hQ8⟩
 ·have hmn:(m1 != m2)=true:=by simpa using hm
  have hme:(m1 == m2)=false:=by simpa using hm
  by_cases hrz:nr=0
  ·have hz:=hr0.1 hrz
   have HQE:Hid (sgn true (a / b)=x.fdiv y):=LH (by rw[((HDIFF.out hmn).1 hz).1];rfl)
   have HRE:Hid (sgn m2 (a % b)=x.fmod y):=LH (by rw[((HDIFF.out hmn).1 hz).2,hz];cases m2 <;> rfl)
   subst hrz
   clear hr0 hz hm
   have n1:=NQ0.out
   have n2:=NR0.out
   have hQE:=HQE.out
   have hRE:=HRE.out
   have HRq:Hid (∀ W,Q w5 W→CR 145 #[.agg #[.bool true,(.slice aq nq cq)]] W (.tuple #[.string ⟨(Lib.itoa (x.fdiv y)).toArray⟩,.int .i64 0])):=LH (fun W hW=>by
    have h:=zao true _ (.slice aq nq cq) W (hE.q (Q.trans hQ5 hW)) (n1.keep hW)
    rw[hQE,HL1.out]at h
    exact h)
   have HRr:Hid (∀ W,Q w5 W→CR 145 #[.agg #[.bool m2,(.slice ar 0 cr)]] W (.tuple #[.string ⟨(Lib.itoa (x.fmod y)).toArray⟩,.int .i64 0])):=LH (fun W hW=>by
    have h:=zao m2 _ (.slice ar 0 cr) W (hE.q (Q.trans hQ5 hW)) (n2.keep hW)
    rw[hRE,HL2.out]at h
    exact h)
   have t0:=C1.cell 0
   have t1:=C2.cell 0
   simp only[List.getElem?_cons_zero]at t0 t1
   clear n1 n2 hQE hRE
   go_wp2_with fail
   refine cx (HRq.out _ (Q.refl _)) fun w7 hq7=>?_
   have t2:=za hq7 t1
   clear t0 t1
   go_wp2_with fail
   refine cx (HRr.out _ hq7) fun w8 hq8=>?_
   have hQ8:=Q.trans hQ5 (Q.trans hq7 hq8)
   clear HRq HRr t2
   go_wp2
   go_ret3
   exact⟨rfl,hQ8⟩
  ·have hz:0<a % b:=by
    by_cases h:a % b=0
    ·exact absurd (hr0.2 h) hrz
    ·omega
   have hnr:(0:Int)<(nr:Int):=by omega
   have HQE:Hid (sgn true (a / b+1)=x.fdiv y):=LH (by rw[((HDIFF.out hmn).2 hz).1];rfl)
   have HRE:Hid (sgn m2 (b - a % b)=x.fmod y):=LH (by rw[((HDIFF.out hmn).2 hz).2])
   clear hr0 hm hrz
   have d3:=C2.drew.cell 1
   simp only[zs4,zs5]at d3
   have hg3:=g3 hz
   clear hz
   have HC1:Hid (∀ W v,Q w5 W→zO W v [1]→Calls Tryz.prog 203 #[.slice aq nq cq,v,.func (.func 204) #[] #[]] W fun e w'=>∃ v',e=.returned v'∧zO w' v' (limbs LB (a / b+1))∧Q W w'):=LH (fun W v hW hv=>by
    have h:=zeX (limbs LB (a / b)) [1] (zQ (by decide) _) (Dig.one (by decide) (by decide)) (by have:=NQ0.out.2.1;omega) (by simp) _ _ W (NQ0.out.2.2.keep hW) hv
    rw[zG (by decide) _ g1,show lval LB [1]=1 from rfl]at h
    exact h)
   have HC2:Hid (∀ W,Q w5 W→Calls Tryz.prog 203 #[.slice a2 n2 c2,.slice ar nr cr,.func (.func 206) #[] #[]] W fun e w'=>∃ v',e=.returned v'∧zO w' v' (limbs LB (b - a % b))∧Q W w'):=LH (fun W hW=>by
    have h:=zef (limbs LB b) (limbs LB (a % b)) (zQ (by decide) _) (zQ (by decide) _) (by have:=N2.out.2.1;omega) (by have:=NR0.out.2.1;omega) (by rw[zG (by decide) _ g4,zG (by decide) _ (by omega)];omega) _ _ W (N2.out.2.2.keep (Q.trans hq0 (Q.trans hq5 hW))) (NR0.out.2.2.keep hW)
    rw[zG (by decide) _ g4,zG (by decide) _ (by omega)]at h
    exact h)
   go_wp2_with fail
   refine zn 9 rfl (by kernel_rfl) rfl ?_
   refine svp 0 ?_
   refine svp 3 ?_
   refine svq 4 rfl (by intro w' hq;have hc0:=za hq d3;go_simp;try with_reducible rfl) ?_
   refine svp 5 ?_
   refine zaH (i:=1) (fun w'=>.slice (some ⟨w'.heap.size,0,none⟩) 1 1) (.cells #[.int .i64 1] 3) rfl rfl (by kernel_rfl) (by rfl) (fun w' hq=>?_) (fun w6 hq6=>?_)
   ·go_simp
   simp only[Act.put,zs1,zs2,zs3]
   have hs1:=LH (zgq w6 1)
   have hq56:Q w5 (w6.alloc (.cells #[.int .i64 1] 3)):=Q.trans (Below.trans (Below.drew (Q.refl w5)) hq6) ((Below.refl _ w6).alloc (Nat.le_refl _) _)
   refine zaa (i:=2) rfl rfl (by kernel_rfl) (by rfl) ?_ (fun w' hq=>(HC1.out w' _ (Q.trans hq56 hq) (hs1.out.keep hq)).mono ?_)
   ·(intro w' hq;go_simp;try with_reducible rfl)
   rintro e w7⟨qv,rfl,hqi,hq7⟩
   refine⟨_,rfl,hq7,?_⟩
   simp only[Act.put,zs1,zs2,zs3]
   have hq57:=Q.trans hq56 (Q.trans hq hq7)
   refine zaa (i:=6) rfl rfl (by kernel_rfl) (by rfl) ?_ (fun w' hq=>(HC2.out w' (Q.trans hq57 hq)).mono ?_)
   ·(intro w' hq;go_simp;try with_reducible rfl)
   rintro e w8⟨rv,rfl,hri,hq8⟩
   refine⟨_,rfl,hq8,?_⟩
   simp only[Act.put,zs1,zs2,zs3]
   refine svp 7 ?_
   refine svp 8 ?_
   refine zh (by kernel_rfl) (fun w9 hq9=>?_)
   simp only[List.drop_succ_cons,List.drop_nil]
   have hq59:Q w5 w9:=Q.trans hq57 (Q.trans (Q.trans ‹Q w7 _› hq8) hq9)
   have hq79:Q w7 w9:=Q.trans (Q.trans ‹Q w7 _› hq8) hq9
   have NQ1:=LH (show zdC w9 (a / b+1) qv from⟨by omega,by have:=zau (x:=a / b+1) (y:=a) ha0 hg3;have:=N1.out.2.1;omega,hqi.keep hq79⟩)
   have NR1:=LH (show zdC w9 (b - a % b) rv from⟨by omega,by have:=zau (x:=b - a % b) (y:=b) (by omega) (by omega);have:=N2.out.2.1;omega,hri.keep hq9⟩)
   have hQ9:=Q.trans hQ5 hq59
   have E1:=C1.keep hq59 C1.lt
   have E2:=C2.keep hq59 C2.lt
   obtain⟨aq',cq',rfl,-,-⟩:=hqi
   obtain⟨ar',cr',rfl,-,-⟩:=hri
   generalize hnq':(limbs LB (a / b+1)).length=nq' at *
   generalize hnr':(limbs LB (b - a % b)).length=nr' at *
   clear hnq' hnr' HC1 HC2 d3 s0 s1
   have n1:=NQ1.out
   have n2:=NR1.out
   have hQE:=HQE.out
   have hRE:=HRE.out
   have HRq:Hid (∀ W,Q w9 W→CR 145 #[.agg #[.bool true,(.slice aq' nq' cq')]] W (.tuple #[.string ⟨(Lib.itoa (x.fdiv y)).toArray⟩,.int .i64 0])):=LH (fun W hW=>by
    have h:=zao true _ (.slice aq' nq' cq') W (hE.q (Q.trans hQ9 hW)) (n1.keep hW)
    rw[hQE,HL1.out]at h
    exact h)
   have HRr:Hid (∀ W,Q w9 W→CR 145 #[.agg #[.bool m2,(.slice ar' nr' cr')]] W (.tuple #[.string ⟨(Lib.itoa (x.fmod y)).toArray⟩,.int .i64 0])):=LH (fun W hW=>by
    have h:=zao m2 _ (.slice ar' nr' cr') W (hE.q (Q.trans hQ9 hW)) (n2.keep hW)
    rw[hRE,HL2.out]at h
    exact h)
   have t0:=E1.cell 0
   have t1:=E2.cell 0
   simp only[List.getElem?_cons_zero]at t0 t1
   clear n1 n2 hQE hRE
   go_wp2_with fail
   refine cx (HRq.out _ (Q.refl _)) fun w7 hq7=>?_
   have t2:=za hq7 t1
   clear t0 t1
   go_wp2_with fail
   refine cx (HRr.out _ hq7) fun w8 hq8=>?_
   have hQ8:=Q.trans hQ9 (Q.trans hq7 hq8)
   clear HRq HRr t2
   go_wp2
   go_ret3
   exact⟨rfl,hQ8⟩
theorem zdy(x y:Int)(hx:lim x=false)(hy:lim y=false)(hy0:y≠0)(w:World)(hE:Env w) :
  CR 150 #[.string ⟨(Lib.itoa x).toArray⟩,.string ⟨(Lib.itoa y).toArray⟩] w (.tuple #[.string ⟨(Lib.itoa (x.fdiv y)).toArray⟩,.string ⟨(Lib.itoa (x.fmod y)).toArray⟩,.int .i64 0]):=by
 by_cases hl:18<(Lib.itoa x).length∨18<(Lib.itoa y).length
 ·exact zfL x y hx hy hy0 hl w hE
 ·exact zaP x y (by omega) (by omega) hy0 w hE
end
end Go.Proofs.YtapnkgdnflofbaaGreatDoor
