/-
  Adding two numbers of which the sum is too long.; surd.Make at terms of any numbers: what is too long.
-/
import Derived.Test.YthdpnkkddhcacaaGreatDoorBKSD
import Derived.Test.YthdpnkkddhcacaaGreatDoorBKSU2
set_option maxRecDepth 100000
set_option maxHeartbeats 1000000
namespace Go.Proofs.YthdpnkkddhcacaaGreatDoor
section
open Go.RowKit Kp
attribute [local go_sem] Oper.semAt_some
theorem zfv(a b c d:Int)(ha:lim a=false)(hb:lim b=false)(hc:lim c=false)(hd:lim d=false)(h:lim (a*d)=true∨lim (c*b)=true)(w:World)(hE:Env w) :
  Calls Tryz.prog 134 #[.agg #[.string ⟨(Lib.itoa a).toArray⟩,.string ⟨(Lib.itoa b).toArray⟩],.agg #[.string ⟨(Lib.itoa c).toArray⟩,.string ⟨(Lib.itoa d).toArray⟩]] w fun e w'=>(∃ u v,e=.returned (.tuple #[.string u,.string v,.int .i64 4]))∧Q w w':=by
 have M1:=LH (fun w hw=>zaq a d ha hd w hw)
 have M2:=LH (fun w hw=>zaq c b hc hb w hw)
 cases h1:lim (a*d)with
 | true =>
  rw[zhg h1]at M1
  clear ha hb hc hd h1 h M2
  generalize Lib.itoa a=A at *
  generalize Lib.itoa b=B at *
  generalize Lib.itoa c=C at *
  generalize Lib.itoa d=D at *
  go_enter Tryz.func134,Tryz.ntmps134
  go_wp2_with fail
  refine cx (M1.out _ (hE.q bt)) fun w1 hq1=>?_
  have hQ1:Q w w1:=Q.trans (show Below w.heap.size w _ from bt) hq1
  go_wp2
  go_ret3
  exact⟨⟨_,_,rfl⟩,hQ1⟩
 | false =>
  have h2:lim (c*b)=true:=by
   rcases h with h | h;· rw[h1]at h;cases h
   exact h
  rw[zbA h1]at M1
  rw[zhg h2]at M2
  clear ha hb hc hd h1 h2 h
  generalize Lib.itoa (a*d)=X at *
  generalize Lib.itoa a=A at *
  generalize Lib.itoa b=B at *
  generalize Lib.itoa c=C at *
  generalize Lib.itoa d=D at *
  go_enter Tryz.func134,Tryz.ntmps134
  go_wp2_with fail
  refine cx (M1.out _ (hE.q bt)) fun w1 hq1=>?_
  have B1:=((Blk.new w [.string ⟨A.toArray⟩,.string ⟨B.toArray⟩] 130).alloc (.cells #[.string ⟨C.toArray⟩,.string ⟨D.toArray⟩] 130)).keep hq1 (by simp;omega)
  have B2:=(Blk.new (w.alloc (.cells #[.string ⟨A.toArray⟩,.string ⟨B.toArray⟩] 130)) [.string ⟨C.toArray⟩,.string ⟨D.toArray⟩] 130).keep hq1 (by simp)
  rw[World.size_alloc]at B2
  have hQ1:Q w w1:=Q.trans (show Below w.heap.size w _ from bt) hq1
  have c0:=B1.cell
  have d0:=B2.cell
  go_wp2_with fail
  refine cx (M2.out _ (hE.q hQ1)) fun w2 hq2=>?_
  have hQ2:=Q.trans hQ1 hq2
  clear M1 M2 c0 d0
  go_wp2
  go_ret3
  exact⟨⟨_,_,rfl⟩,hQ2⟩
def zlL(x y:Rat):Bool:=lim (x.num*y.den) || lim (y.num*(x.den:Int)) || lim (x.num*y.den+y.num*x.den) || lim ((x.den:Int)*y.den)
theorem zdB(a b c d:Int)(ha:lim a=false)(hb:lim b=false)(hc:lim c=false)(hd:lim d=false)(h:(lim (a*d) || lim (c*b) || lim (a*d+c*b) || lim (b*d))=true)(w:World)(hE:Env w)
  (p:Nat)(hpc:w.cell? ⟨p,0,none⟩=some (.func (.func 128) #[] #[]))(_hp:p<w.heap.size) :
  CR 201 #[.agg #[.string ⟨(Lib.itoa a).toArray⟩,.string ⟨(Lib.itoa b).toArray⟩],.agg #[.string ⟨(Lib.itoa c).toArray⟩,.string ⟨(Lib.itoa d).toArray⟩],.pointer (some ⟨p,0,none⟩)] w (.tuple #[.string ⟨#[]⟩,.int .i64 4]):=by
 have M3:=LH (fun w hw=>zaq b d hb hd w hw)
 by_cases hx:lim (a*d)=true∨lim (c*b)=true
 ·have M1:=LH (fun w hw=>zfv a b c d ha hb hc hd hx w hw)
  clear ha hb hc hd hx h M3
  generalize Lib.itoa a=A at *
  generalize Lib.itoa b=B at *
  generalize Lib.itoa c=C at *
  generalize Lib.itoa d=D at *
  go_enter Tryz.func201,Tryz.ntmps201
  go_wp2_with fail
  refine(M1.out _ (hE.q bt)).mono ?_
  rintro e w1⟨⟨u,v,rfl⟩,hq1⟩
  have hQ1:Q w w1:=Q.trans (show Below w.heap.size w _ from bt) hq1
  go_wp2
  go_ret2
  exact⟨rfl,hQ1⟩
 ·have h1:lim (a*d)=false:=by
   cases hh:lim (a*d);· rfl
   exact absurd (.inl hh) hx
  have h2:lim (c*b)=false:=by
   cases hh:lim (c*b);· rfl
   exact absurd (.inr hh) hx
  have M1:=LH (fun w hw=>zbB a b c d ha hb hc hd h1 h2 w hw)
  have M2:=LH (fun w hw=>zbx (a*d) (c*b) h1 h2 w hw)
  rw[h1,h2,Bool.false_or,Bool.false_or]at h
  cases h3:lim (a*d+c*b)with
  | true =>
   rw[zhg h3]at M2
   clear ha hb hc hd h1 h2 h3 h hx M3
   generalize Lib.itoa (a*d)=X at *
   generalize Lib.itoa (c*b)=Y at *
   generalize Lib.itoa a=A at *
   generalize Lib.itoa b=B at *
   generalize Lib.itoa c=C at *
   generalize Lib.itoa d=D at *
   go_enter Tryz.func201,Tryz.ntmps201
   go_wp2_with fail
   refine cx (M1.out _ (hE.q bt)) fun w1 hq1=>?_
   have hQ1:Q w w1:=Q.trans (show Below w.heap.size w _ from bt) hq1
   have pc1:=za hQ1 hpc
   go_wp2_with fail
   refine cx (M2.out _ (hE.q hQ1)) fun w2 hq2=>?_
   have hQ2:=Q.trans hQ1 hq2
   go_wp2
   go_ret2
   exact⟨rfl,hQ2⟩
  | false =>
   rw[h3,Bool.false_or]at h
   rw[zbA h3]at M2
   rw[zhg h]at M3
   clear ha hb hc hd h1 h2 h3 h hx
   generalize Lib.itoa (a*d+c*b)=Z at *
   generalize Lib.itoa (a*d)=X at *
   generalize Lib.itoa (c*b)=Y at *
   generalize Lib.itoa a=A at *
   generalize Lib.itoa b=B at *
   generalize Lib.itoa c=C at *
   generalize Lib.itoa d=D at *
   go_enter Tryz.func201,Tryz.ntmps201
   go_wp2_with fail
   refine cx (M1.out _ (hE.q bt)) fun w1 hq1=>?_
   have B1:=((Blk.new w [.string ⟨A.toArray⟩,.string ⟨B.toArray⟩] 130).alloc (.cells #[.string ⟨C.toArray⟩,.string ⟨D.toArray⟩] 130)).keep hq1 (by simp;omega)
   have B2:=(Blk.new (w.alloc (.cells #[.string ⟨A.toArray⟩,.string ⟨B.toArray⟩] 130)) [.string ⟨C.toArray⟩,.string ⟨D.toArray⟩] 130).keep hq1 (by simp)
   rw[World.size_alloc]at B2
   have hQ1:Q w w1:=Q.trans (show Below w.heap.size w _ from bt) hq1
   have pc1:=za hQ1 hpc
   go_wp2_with fail
   refine cx (M2.out _ (hE.q hQ1)) fun w2 hq2=>?_
   have hQ2:=Q.trans hQ1 hq2
   have C1:=B1.keep hq2 B1.lt
   have C2:=B2.keep hq2 B2.lt
   have c0:=C1.cell
   have d0:=C2.cell
   clear pc1 M1 M2
   go_wp2_with fail
   refine cx (M3.out _ (hE.q hQ2)) fun w3 hq3=>?_
   have hQ3:=Q.trans hQ2 hq3
   clear c0 d0 M3
   go_wp2
   go_ret2
   exact⟨rfl,hQ3⟩
theorem zii(x y:Rat)(hx:zah x=false)(hy:zah y=false)(h:zlL x y=true)(w:World)(hE:Env w) :
  CR 64 #[.string ⟨(ze x).toArray⟩,.string ⟨(ze y).toArray⟩] w (.tuple #[.string ⟨#[]⟩,.int .i64 4]):=by
 have hs:¬ (zS x∧zS y):=by
  rintro⟨a,b⟩
  have hb:∀ q:Rat,zS q→Bd 8 q:=fun q hq=>⟨by have:=hq.1;omega,by have:=hq.2;omega⟩
  have hxb:=hb x a
  have hyb:=hb y b
  unfold zlL at h
  rw[zaN (zcq hxb hyb) (by decide),zaN (zcq hyb hxb) (by decide),zaN (sum_lt hxb hyb).1 (by decide),zaN (n:=16) (by rw[← Int.natCast_mul,Int.natAbs_natCast];exact zce hxb hyb) (by decide)]at h
  cases h
 have HQ:=LH (fun w=>zaL (ze x) (ze y) (.func (.func 126) #[] #[]) (by have:=zaQ hx;omega) (by have:=zaQ hy;omega) (zbw hs) w)
 have HF:=fun w' hw' p hp hpc=>zdB x.num (x.den:Int) y.num (y.den:Int) (zx hx).1 (zx hx).2 (zx hy).1 (zx hy).2 h w' hw' p hpc hp
 have HB:=LH (fun w (hw:Env w) p (hp:p<w.heap.size) (hpc:w.cell? ⟨p,0,none⟩=some (.func (.func 128) #[] #[]))=>zch x y hx hy p _ _ w hw (fun w' hq=>HF w' (hw.q hq) p (Nat.lt_of_lt_of_le hp hq.size) (za hq hpc)))
 have HC:=LH (fun w=>zbX 128 w)
 clear HF hs hx hy h
 go_enter Tryz.func64,Tryz.ntmps64
 go_wp2_with fail
 refine cx (HQ.out _) fun w1 hq1=>?_
 go_wp2_with fail
 refine(HC.out _).mono ?_
 rintro e w2⟨rfl,hq2,hp,hpc⟩
 have hQ2:=Q.trans hq1 hq2
 go_wp2_with fail
 refine cx (HB.out _ (hE.q hQ2) _ hp hpc) fun w3 hq3=>?_
 have hQ3:=Q.trans hQ2 hq3
 go_wp2
 go_ret2
 exact⟨rfl,hQ3⟩
def mulL(x y:Rat):Bool:=lim (x.num*y.num) || lim ((x.den:Int)*y.den)
theorem zhm(a b c d:Int)(ha:lim a=false)(hb:lim b=false)(hc:lim c=false)(hd:lim d=false)(h:(lim (a*c) || lim (b*d))=true)(w:World)(hE:Env w) :
  CR 75 #[.agg #[.string ⟨(Lib.itoa a).toArray⟩,.string ⟨(Lib.itoa b).toArray⟩],.agg #[.string ⟨(Lib.itoa c).toArray⟩,.string ⟨(Lib.itoa d).toArray⟩]] w (.tuple #[.string ⟨#[]⟩,.int .i64 4]):=by
 have M1:=LH (fun w hw=>zaq a c ha hc w hw)
 have M2:=LH (fun w hw=>zaq b d hb hd w hw)
 cases h1:lim (a*c)with
 | true =>
  rw[zhg h1]at M1
  clear ha hb hc hd h1 h M2
  generalize Lib.itoa a=A at *
  generalize Lib.itoa b=B at *
  generalize Lib.itoa c=C at *
  generalize Lib.itoa d=D at *
  go_enter Tryz.func75,Tryz.ntmps75
  go_wp2_with fail
  refine cx (M1.out _ (hE.q bt)) fun w1 hq1=>?_
  have hQ1:Q w w1:=Q.trans (show Below w.heap.size w _ from bt) hq1
  go_wp2
  go_ret2
  exact⟨rfl,hQ1⟩
 | false =>
  rw[h1,Bool.false_or]at h
  rw[zbA h1]at M1
  rw[zhg h]at M2
  clear ha hb hc hd h1 h
  generalize Lib.itoa (a*c)=X at *
  generalize Lib.itoa a=A at *
  generalize Lib.itoa b=B at *
  generalize Lib.itoa c=C at *
  generalize Lib.itoa d=D at *
  go_enter Tryz.func75,Tryz.ntmps75
  go_wp2_with fail
  refine cx (M1.out _ (hE.q bt)) fun w1 hq1=>?_
  have B1:=((Blk.new w [.string ⟨A.toArray⟩,.string ⟨B.toArray⟩] 130).alloc (.cells #[.string ⟨C.toArray⟩,.string ⟨D.toArray⟩] 130)).keep hq1 (by simp;omega)
  have B2:=(Blk.new (w.alloc (.cells #[.string ⟨A.toArray⟩,.string ⟨B.toArray⟩] 130)) [.string ⟨C.toArray⟩,.string ⟨D.toArray⟩] 130).keep hq1 (by simp)
  rw[World.size_alloc]at B2
  have hQ1:Q w w1:=Q.trans (show Below w.heap.size w _ from bt) hq1
  have c0:=B1.cell
  have d0:=B2.cell
  go_wp2_with fail
  refine cx (M2.out _ (hE.q hQ1)) fun w2 hq2=>?_
  have hQ2:=Q.trans hQ1 hq2
  clear M1 M2 c0 d0
  go_wp2
  go_ret2
  exact⟨rfl,hQ2⟩
theorem zif(x y:Rat)(hx:zah x=false)(hy:zah y=false)(h:mulL x y=true)(w:World)(hE:Env w) :
  CR 38 #[.string ⟨(ze x).toArray⟩,.string ⟨(ze y).toArray⟩] w (.tuple #[.string ⟨#[]⟩,.int .i64 4]):=by
 have hs:¬ (zS x∧zS y):=by
  rintro⟨a,b⟩
  have hb:∀ q:Rat,zS q→Bd 8 q:=fun q hq=>⟨by have:=hq.1;omega,by have:=hq.2;omega⟩
  have hxb:=hb x a
  have hyb:=hb y b
  unfold mulL at h
  rw[zaN (zbd hxb.1 hyb.1) (by decide),zaN (n:=16) (by rw[← Int.natCast_mul,Int.natAbs_natCast];exact zce hxb hyb) (by decide)]at h
  cases h
 have HQ:=LH (fun w=>zaL (ze x) (ze y) (.func (.func 73) #[] #[]) (by have:=zaQ hx;omega) (by have:=zaQ hy;omega) (zbw hs) w)
 have HF:=fun w' hw'=>zhm x.num (x.den:Int) y.num (y.den:Int) (zx hx).1 (zx hx).2 (zx hy).1 (zx hy).2 h w' hw'
 have HB:=LH (fun w (hw:Env w)=>zdQ x y hx hy _ _ w hw (fun w' hq=>HF w' (hw.q hq)))
 clear HF hs hx hy h
 go_enter Tryz.func38,Tryz.ntmps38
 go_wp2_with fail
 refine cx (HQ.out _) fun w1 hq1=>?_
 go_wp2_with fail
 refine cx (HB.out _ (hE.q hq1)) fun w2 hq2=>?_
 have hQ2:=Q.trans hq1 hq2
 go_wp2
 go_ret2
 exact⟨rfl,hQ2⟩
def zuh(x y:Rat):Value:=if mulL x y=true then .tuple #[.string ⟨#[]⟩,.int .i64 4]else .tuple #[.string ⟨(ze (x*y)).toArray⟩,.int .i64 0]
def zuM(x y:Rat):Value:=if zlL x y=true then .tuple #[.string ⟨#[]⟩,.int .i64 4]else .tuple #[.string ⟨(ze (x+y)).toArray⟩,.int .i64 0]
theorem zcT(x y:Rat)(hx:zah x=false)(hy:zah y=false)(w:World)(hE:Env w) :
  CR 38 #[.string ⟨(ze x).toArray⟩,.string ⟨(ze y).toArray⟩] w (zuh x y):=by
 unfold zuh
 cases h:mulL x y with
 | true=>exact zif x y hx hy h w hE
 | false =>
  have h':=h
  unfold mulL at h'
  rw[Bool.or_eq_false_iff]at h'
  exact zhR x y hx hy h'.1 h'.2 w hE
theorem zij(x y:Rat)(hx:zah x=false)(hy:zah y=false)(w:World)(hE:Env w) :
  CR 64 #[.string ⟨(ze x).toArray⟩,.string ⟨(ze y).toArray⟩] w (zuM x y):=by
 unfold zuM
 cases h:zlL x y with
 | true=>exact zii x y hx hy h w hE
 | false =>
  have h':=h
  unfold zlL at h'
  simp only[Bool.or_eq_false_iff]at h'
  exact zhT x y hx hy h'.1.1.1 h'.1.1.2 h'.1.2 h'.2 w hE
theorem ziZ{n d:Int}(hn:lim n=false)(hd:lim d=false)(h0:0<d):zah (Rat.divInt n d)=false:=by
 obtain⟨k,rfl⟩:=Int.eq_ofNat_of_zero_le (show 0≤d by omega)
 obtain⟨e1,e2⟩:=zc7 n k (by omega)
 unfold zah
 rw[e1,e2,zcl hn ?_,zcl hd ?_]
 ·rfl
 ·rw[Int.natAbs_natCast];exact Nat.div_le_self ..
 ·rw[Int.natAbs_tdiv];exact Nat.div_le_self ..
theorem zgM{x y:Rat}(h:mulL x y=false):zah (x*y)=false:=by
 unfold mulL at h
 rw[Bool.or_eq_false_iff]at h
 rw[← Rat.mul_is]
 exact ziZ h.1 h.2 (Int.mul_pos (by have:=x.den_pos;omega) (by have:=y.den_pos;omega))
theorem zp2{x y:Rat}(h:zlL x y=false):zah (x+y)=false:=by
 unfold zlL at h
 simp only[Bool.or_eq_false_iff]at h
 rw[← Rat.add_is]
 exact ziZ h.1.2 h.2 (Int.mul_pos (by have:=x.den_pos;omega) (by have:=y.den_pos;omega))
end
section
open Go.RowKit Kp
open Go.Lib (decDigits)
attribute [local go_sem] Oper.semAt_some
def r90(q:Rat):Bool:=decide ((decDigits q.num.natAbs).length≤90) && decide ((decDigits q.den).length≤90)
theorem zfS{q:Rat}(h:r90 q=true):zd4 q:=by
 unfold r90 at h
 simp only[Bool.and_eq_true,decide_eq_true_eq]at h
 exact h
theorem zt6{q:Rat}(h:r90 q=false):(90:Int)<max ((zo (Lib.itoa q.num)).length:Int) ((Lib.itoa (q.den:Int)).length:Int):=by
 rw[zal,← zA]
 unfold r90 at h
 simp only[Bool.and_eq_false_iff,decide_eq_false_iff_not]at h
 omega
theorem ziW(q:Rat)(h:zah q=false)(h9:r90 q=false)(v1 v2:Value)(w:World)(hE:Env w)(h1:zcR w v1 [ze q]) :
  CR 205 #[v1,v2] w (.int .i64 4):=by
 obtain⟨b1,o1,cap1,rfl,hb1,hc1⟩:=h1
 have hcell:=hc1 0 (by simp)
 simp only[List.getD_cons_zero,Nat.add_zero]at hcell
 have lq1:=zW q.num (zx h).1
 have hlr:=zaQ h
 have hck:=fun w hw=>zdC (ze q) (by omega) w hw
 rw[show zdO (ze q)=0 by rw[zdN,h];rfl]at hck
 have HCK:=LH hck
 have HO:=LH (fun w hw=>zhh q h w hw)
 have hx:=zt6 h9
 have l1:([ze q].length:Int)=1:=rfl
 have HT:=LH (fun w=>zO (Lib.itoa q.num) w)
 have lu:(zo (Lib.itoa q.num)).length≤1000:=by rw[zal];have:=lq1;have:=zdu q.num;omega
 have ld:(Lib.itoa (q.den:Int)).length≤1000:=by have:=zW (q.den:Int) (zx h).2;omega
 clear hck h9 h hc1 hlr lq1
 generalize zo (Lib.itoa q.num)=U at *
 generalize Lib.itoa q.num=N at *
 generalize Lib.itoa (q.den:Int)=D at *
 generalize ze q=S at *
 have hm:decide ((90:Int)<max (U.length:Int) (D.length:Int))=true:=decide_eq_true hx
 rw[show [S].length=1 from rfl]
 go_enter Tryz.func205,Tryz.ntmps205
 go_wp2
 refine wp_loop_rounds 2 ?_
 simp only[rounds_succ]
 go_wp2_with fail
 refine cx (HCK.out _ hE) fun w1 hq1=>?_
 go_wp2_with fail
 refine cx (HO.out _ (hE.q hq1)) fun w2 hq2=>?_
 have hQ2:Q w w2:=Q.trans hq1 hq2
 go_wp2_with fail
 go_quiet ((go_at_call 65;exact zkp (HT.out _)))
 go_wp2
 go_ret
 exact⟨rfl,Below.drewN (hQ2.alloc hQ2.size _) _⟩
theorem zl6(p q:Rat)(hp:Bd 90 p)(hq:Bd 90 q)(pp:0≤p.num)(pq:0<q.num)(w:World)(hE:Env w) :
  CR 138 #[.string ⟨(ze p).toArray⟩,.string ⟨(ze q).toArray⟩] w (.tuple #[.string ⟨(if zc5 (p / q)then ze (sqR (p / q))else []).toArray⟩,.bool (zc5 (p / q)),.int .i64 0]):=by
 have hz:(ze q == [48])=false:=by
  rw[beq_eq_false_iff_ne,← zaw];exact fun h=>by have:=zaS h;subst this;exact absurd pq (by decide)
 have bq:=hp.quot hq pq
 have hlq:zah (p / q)=false:=bq.zah (by decide)
 have HC:=fun v1 v2 w hw h1 h2=>zfl [p,q] [p,q] (by intro x hx;rw[List.mem_cons,List.mem_singleton]at hx;rcases hx with rfl | rfl;exact hp.root90 (by decide);exact hq.root90 (by decide)) v1 v2 w hw h1 h2 (by simp) (by simp)
 rw[if_pos (by intro x hx;rw[List.mem_cons,List.mem_singleton]at hx;rcases hx with rfl | rfl <;> omega)]at HC
 have HC:=LH HC
 have HD:=LH (fun w hw=>zbK p q hp hq (by omega) (by decide) w hw)
 have HO:=LH (fun w hw=>zhh (p / q) hlq w hw)
 have HR:=LH (fun w hw=>ziV (p / q) hlq (zeh pp pq) w hw)
 generalize (⟨(if zc5 (p / q)then ze (sqR (p / q))else []).toArray⟩:ByteArray)=A at *
 generalize zc5 (p / q)=b at *
 generalize ze (p / q)=PQ at *
 generalize Lib.itoa (p / q).num=N at *
 generalize Lib.itoa ((p / q).den:Int)=D at *
 clear hp hq pp pq bq hlq
 generalize hsp:ze p=P at *
 generalize hsq:ze q=S at *
 go_enter Tryz.func138,Tryz.ntmps138
 go_wp2_with fail
 have B1:=((Blk.new w [.string ⟨P.toArray⟩,.string ⟨S.toArray⟩] 29).alloc (.cells #[.string ⟨P.toArray⟩,.string ⟨S.toArray⟩] 29))
 have B2:=Blk.new (w.alloc (.cells #[.string ⟨P.toArray⟩,.string ⟨S.toArray⟩] 29)) [.string ⟨P.toArray⟩,.string ⟨S.toArray⟩] 29
 have S1:=zcR.two B1
 have S2:=zcR.two B2
 have e2:(w.alloc (.cells #[.string ⟨P.toArray⟩,.string ⟨S.toArray⟩] 29)).heap.size=w.heap.size+1:=by simp
 rw[e2]at S2
 clear e2 B2 B1
 simp only[List.map_cons,List.map_nil,hsp,hsq]at HC
 refine(HC.out _ _ _ (hE.q bt) S1 S2).mono ?_
 clear S1 S2
 rintro e w1⟨rfl,hq1⟩
 have hQ1:Q w w1:=Q.trans (show Below w.heap.size w _ from bt) hq1
 clear hq1
 go_wp2_with fail
 refine cx (HD.out _ (hE.q hQ1)) fun w2 hq2=>?_
 have hQ2:=Q.trans hQ1 hq2
 go_wp2_with fail
 refine cx (HO.out _ (hE.q hQ2)) fun w3 hq3=>?_
 have hQ3:=Q.trans hQ2 hq3
 go_wp2_with fail
 refine cx (HR.out _ (hE.q hQ3)) fun w4 hq4=>?_
 have hQ4:=Q.trans hQ3 hq4
 go_wp2
 go_ret3
 exact⟨rfl,hQ4⟩
theorem zgv(l m:Nat)(hl:0<l)(hl1:l<10 ^ 90)(hm:0<m)(hm1:m<10 ^ 90)(w:World)(hE:Env w) :
  CR 138 #[.string ⟨(Lib.itoa (m:Int)).toArray⟩,.string ⟨(Lib.itoa (l:Int)).toArray⟩] w (.tuple #[.string ⟨(if zc5 ((m:Rat) / (l:Rat))then ze (sqR ((m:Rat) / (l:Rat)))else []).toArray⟩,.bool (zc5 ((m:Rat) / (l:Rat))),.int .i64 0]):=by
 have hb:∀ n:Nat,n<10 ^ 90→Bd 90 (n:Rat):=fun n hn=>⟨by rw[Rat.num_natCast,Int.natAbs_natCast];exact hn,by rw[Rat.den_natCast];exact by decide⟩
 have h:=zl6 (m:Rat) (l:Rat) (hb m hm1) (hb l hl1) (by rw[Rat.num_natCast];omega) (by rw[Rat.num_natCast];omega) w hE
 rw[zba,zba]at h
 exact h
theorem zo6{l m:Nat}(hl:0<l)(hl1:l<10 ^ 90)(hm1:m<10 ^ 90):Bd 45 (sqR ((m:Rat) / (l:Rat))):=zt2 (n:=45) (ztf hl hl1 hm1)
def zi9(lo hi:Rat × Nat):Bool:=mulL hi.1 (sqR ((hi.2:Rat) / (lo.2:Rat))) || zlL lo.1 (hi.1*sqR ((hi.2:Rat) / (lo.2:Rat)))
def zkO:List (Rat × Nat)→Rat × Nat→Bool
 | [],_=>false
 | c::r,t=>if zc5 ((t.2:Rat) / (c.2:Rat))then(if t.2<c.2 then zi9 t c else zi9 c t)else zkO r t
theorem zrs:∀ (cs:List (Rat × Nat)) (t:Rat × Nat) (k:Nat) (hk:k<cs.length),(∀ j (hj:j<k),zc5 ((t.2:Rat) / ((cs[j]'(by omega)).2:Rat))=false)→zc5 ((t.2:Rat) / ((cs[k]).2:Rat))=true →
  zkO cs t=(if t.2<(cs[k]).2 then zi9 t cs[k]else zi9 cs[k] t)
 | [],_,_,hk,_,_=>absurd hk (by simp)
 | c::r,t,0,_,_,h=>by
  unfold zkO
  exact if_pos (show zc5 ((t.2:Rat) / (c.2:Rat))=true from h)
 | c::r,t,k+1,hk,h1,h=>by
  have h0:=h1 0 (by omega)
  simp only[List.getElem_cons_zero]at h0
  unfold zkO
  rw[if_neg (by rw[h0];decide),zrs r t k (by simpa using hk) (fun j hj=>by have:=h1 (j+1) (by omega);simpa using this) (by simpa using h)]
  rfl
theorem zoO:∀ (cs:List (Rat × Nat)) (t:Rat × Nat),(∀ j (hj:j<cs.length),zc5 ((t.2:Rat) / ((cs[j]).2:Rat))=false)→zkO cs t=false
 | [],_,_=>rfl
 | c::r,t,h1=>by
  have h0:=h1 0 (by simp)
  simp only[List.getElem_cons_zero]at h0
  unfold zkO
  rw[if_neg (by rw[h0];decide),zoO r t (fun j hj=>by have:=h1 (j+1) (by simp;omega);simpa using this)]
def CW(c:Rat × Nat):Prop:=zah c.1=false∧0<c.2∧c.2<10 ^ 90
theorem zrD{l m:Nat}(hl:0<l)(hl1:l<10 ^ 90)(hm1:m<10 ^ 90):zah (sqR ((m:Rat) / (l:Rat)))=false:=(zo6 hl hl1 hm1).zah (by decide)
theorem CW.plus{c h:Rat × Nat}(hc:CW c)(_hh:CW h)(he:zi9 c h=false):CW (zgH c h):=by
 unfold zi9 at he
 rw[Bool.or_eq_false_iff]at he
 exact⟨zp2 he.2,hc.2.1,hc.2.2⟩
theorem CW.adds{t:Rat × Nat}(ht:CW t):∀ {cs:List (Rat × Nat)},(∀ c∈cs,CW c)→zkO cs t=false→∀ d∈zd6 cs t,CW d
 | [],_,_,d,hd=>by
  unfold zd6 at hd
  rw[List.mem_singleton]at hd
  exact hd ▸ ht
 | c::r,h,he,d,hd=>by
  have hc:=h c (List.mem_cons_self ..)
  unfold zkO at he
  unfold zd6 at hd
  by_cases hs:zc5 ((t.2:Rat) / (c.2:Rat))=true
  ·rw[if_pos hs]at he hd
   rcases List.mem_cons.1 hd with rfl | hd
   ·by_cases hlt:t.2<c.2
    ·rw[if_pos hlt]at he ⊢;exact ht.plus hc he
    ·rw[if_neg hlt]at he ⊢;exact hc.plus ht he
   ·exact h d (List.mem_cons_of_mem _ hd)
  ·rw[if_neg hs]at he hd
   rcases List.mem_cons.1 hd with rfl | hd
   ·exact hc
   ·exact CW.adds ht (fun x hx=>h x (List.mem_cons_of_mem _ hx)) he d hd
def zfT(c h:Rat × Nat):Str × Str:=if zi9 c h=true then([],[])else ofC (zgH c h)
def zmf(c h:Rat × Nat):Int:=if zi9 c h=true then 4 else 0
theorem zfE(c h:Rat × Nat)(hc:CW c)(hh:CW h)(hq:zc5 ((h.2:Rat) / (c.2:Rat))=true)(w:World)(hE:Env w) :
  CR 149 #[.agg #[.string ⟨(ze c.1).toArray⟩,.string ⟨(Lib.itoa (c.2:Int)).toArray⟩],.agg #[.string ⟨(ze h.1).toArray⟩,.string ⟨(Lib.itoa (h.2:Int)).toArray⟩]] w (.tuple #[.agg #[.string ⟨(zfT c h).1.toArray⟩,.string ⟨(zfT c h).2.toArray⟩],.int .i64 (zmf c h)]):=by
 obtain⟨y,m⟩:=h
 obtain⟨x,l⟩:=c
 obtain⟨bx,hl,hl1⟩:=hc
 obtain⟨bY,hm,hm1⟩:=hh
 simp only at *
 have bk:=zrD hl hl1 hm1
 have hr:=fun w hw=>zgv l m hl hl1 hm hm1 w hw
 rw[hq]at hr
 have HR:=LH hr
 unfold zfT zmf zi9 zgH ofC
 simp only
 generalize sqR ((m:Rat) / (l:Rat))=k at *
 clear hr hq
 simp only[if_true]at HR
 have hmv:=fun w hw=>zcT y k bY bk w hw
 unfold zuh at hmv
 cases hml:mulL y k with
 | true =>
  rw[hml,if_pos rfl]at hmv
  have HM:=LH hmv
  simp only[Bool.true_or,if_true]
  clear hmv hml bx bY bk hl hl1 hm hm1
  generalize hsk:ze k=K at *
  generalize ze x=X at *
  generalize ze y=Y at *
  generalize Lib.itoa (l:Int)=L at *
  generalize Lib.itoa (m:Int)=M at *
  obtain⟨W0,hW0⟩:∃ W0,((w.alloc (.cells [.string ⟨X.toArray⟩,.string ⟨L.toArray⟩].toArray 139)).alloc (.cells [.string ⟨Y.toArray⟩,.string ⟨M.toArray⟩].toArray 139)).alloc (.cells [.string ⟨#[]⟩,.string ⟨#[]⟩].toArray 139)=W0:=⟨_,rfl⟩
  have hQ0:Q w W0:=by rw[← hW0];exact(((Below.refl _ w).alloc (Nat.le_refl _) _).alloc (by simp) _).alloc (by simp;omega) _
  have C1:Blk W0 w.heap.size [.string ⟨X.toArray⟩,.string ⟨L.toArray⟩] 139:=by rw[← hW0];exact((Blk.new w _ _).alloc _).alloc _
  have C2:Blk W0 (w.heap.size+1) [.string ⟨Y.toArray⟩,.string ⟨M.toArray⟩] 139:=by
   have:=(Blk.new (w.alloc (.cells [.string ⟨X.toArray⟩,.string ⟨L.toArray⟩].toArray 139)) [.string ⟨Y.toArray⟩,.string ⟨M.toArray⟩] 139).alloc (.cells [.string ⟨#[]⟩,.string ⟨#[]⟩].toArray 139)
   rw[World.size_alloc,hW0]at this;exact this
  have C3:Blk W0 (w.heap.size+2) [.string ⟨#[]⟩,.string ⟨#[]⟩] 139:=by
   have:=Blk.new ((w.alloc (.cells [.string ⟨X.toArray⟩,.string ⟨L.toArray⟩].toArray 139)).alloc (.cells [.string ⟨Y.toArray⟩,.string ⟨M.toArray⟩].toArray 139)) [.string ⟨#[]⟩,.string ⟨#[]⟩] 139
   rw[World.size_alloc,World.size_alloc,hW0]at this;exact this
  have a1:=C1.cell 1
  have b1:=C2.cell 1
  simp only[zs4,zs5]at a1 b1
  go_enter Tryz.func149,Tryz.ntmps149
  go_wp2_with fail
  refine(HR.out _ (hE.q hQ0)).mono ?_
  clear a1 b1 hW0
  rintro e w1⟨rfl,hq1⟩
  have hQ1:=Q.trans hQ0 hq1
  have D1:=C1.keep hq1 C1.lt
  have D2:=C2.keep hq1 C2.lt
  have D3:=C3.keep hq1 C3.lt
  have b0:=D2.cell 0
  simp only[List.getElem?_cons_zero]at b0
  go_wp2_with fail
  refine(HM.out _ (hE.q hQ1)).mono ?_
  clear b0 C1 C2 C3
  rintro e w2⟨rfl,hq2⟩
  have hQ2:=Q.trans hQ1 hq2
  have C3:=D3.keep hq2 D3.lt
  have c0:=C3.cell
  have f0:=C3.frozen 0
  have f1:=C3.frozen 1
  have l3:=C3.lt
  go_wp2
  refine bodyPost_ret (v:=.tuple #[.agg #[.string ⟨#[]⟩,.string ⟨#[]⟩],.int .i64 4])
   (zk4 _ _ (w.heap.size+2) _ _ _ rfl rfl (((C3.set 0 _).set 1 _).cell 0) (((C3.set 0 _).set 1 _).cell 1)) rfl ⟨rfl,?_⟩
  exact(hQ2.setCell (p:=⟨w.heap.size+2,0,none⟩) (by simp) _).setCell (p:=⟨w.heap.size+2,1,none⟩) (by simp) _
 | false =>
  rw[hml,if_neg (by decide)]at hmv
  have HM:=LH hmv
  have hav:=fun w hw=>zij x (y*k) bx (zgM hml) w hw
  unfold zuM at hav
  rw[Bool.false_or]
  cases hal:zlL x (y*k)with
  | true =>
   rw[hal,if_pos rfl]at hav
   have HA:=LH hav
   simp only[if_true]
   clear hmv hml hal hav bx bY bk hl hl1 hm hm1
   generalize ze (y*k)=YK at *
   generalize hsk:ze k=K at *
   generalize ze x=X at *
   generalize ze y=Y at *
   generalize Lib.itoa (l:Int)=L at *
   generalize Lib.itoa (m:Int)=M at *
   obtain⟨W0,hW0⟩:∃ W0,((w.alloc (.cells [.string ⟨X.toArray⟩,.string ⟨L.toArray⟩].toArray 139)).alloc (.cells [.string ⟨Y.toArray⟩,.string ⟨M.toArray⟩].toArray 139)).alloc (.cells [.string ⟨#[]⟩,.string ⟨#[]⟩].toArray 139)=W0:=⟨_,rfl⟩
   have hQ0:Q w W0:=by rw[← hW0];exact(((Below.refl _ w).alloc (Nat.le_refl _) _).alloc (by simp) _).alloc (by simp;omega) _
   have C1:Blk W0 w.heap.size [.string ⟨X.toArray⟩,.string ⟨L.toArray⟩] 139:=by rw[← hW0];exact((Blk.new w _ _).alloc _).alloc _
   have C2:Blk W0 (w.heap.size+1) [.string ⟨Y.toArray⟩,.string ⟨M.toArray⟩] 139:=by
    have:=(Blk.new (w.alloc (.cells [.string ⟨X.toArray⟩,.string ⟨L.toArray⟩].toArray 139)) [.string ⟨Y.toArray⟩,.string ⟨M.toArray⟩] 139).alloc (.cells [.string ⟨#[]⟩,.string ⟨#[]⟩].toArray 139)
    rw[World.size_alloc,hW0]at this;exact this
   have C3:Blk W0 (w.heap.size+2) [.string ⟨#[]⟩,.string ⟨#[]⟩] 139:=by
    have:=Blk.new ((w.alloc (.cells [.string ⟨X.toArray⟩,.string ⟨L.toArray⟩].toArray 139)).alloc (.cells [.string ⟨Y.toArray⟩,.string ⟨M.toArray⟩].toArray 139)) [.string ⟨#[]⟩,.string ⟨#[]⟩] 139
    rw[World.size_alloc,World.size_alloc,hW0]at this;exact this
   have a1:=C1.cell 1
   have b1:=C2.cell 1
   simp only[zs4,zs5]at a1 b1
   go_enter Tryz.func149,Tryz.ntmps149
   go_wp2_with fail
   refine(HR.out _ (hE.q hQ0)).mono ?_
   clear a1 b1 hW0
   rintro e w1⟨rfl,hq1⟩
   have hQ1:=Q.trans hQ0 hq1
   have D1:=C1.keep hq1 C1.lt
   have D2:=C2.keep hq1 C2.lt
   have D3:=C3.keep hq1 C3.lt
   have b0:=D2.cell 0
   simp only[List.getElem?_cons_zero]at b0
   go_wp2_with fail
   refine(HM.out _ (hE.q hQ1)).mono ?_
   clear b0 C1 C2 C3
   rintro e w2⟨rfl,hq2⟩
   have hQ2:=Q.trans hQ1 hq2
   have C1:=D1.keep hq2 D1.lt
   have C3:=D3.keep hq2 D3.lt
   have a0:=C1.cell 0
   simp only[List.getElem?_cons_zero]at a0
   go_wp2_with fail
   refine(HA.out _ (hE.q hQ2)).mono ?_
   clear a0 D1 D2 D3
   rintro e w3⟨rfl,hq3⟩
   have hQ3:=Q.trans hQ2 hq3
   have D1:=C1.keep hq3 C1.lt
   have D3:=C3.keep hq3 C3.lt
   have a1:=D1.cell 1
   have c0:=D3.cell
   have f0:=D3.frozen 0
   have f1:=D3.frozen 1
   have l3:=D3.lt
   try simp only[zs4,zs5]at a1
   go_wp2
   refine bodyPost_ret (v:=.tuple #[.agg #[.string ⟨#[]⟩,.string ⟨#[]⟩],.int .i64 4])
    (zk4 _ _ (w.heap.size+2) _ _ _ rfl rfl (((D3.set 0 _).set 1 _).cell 0) (((D3.set 0 _).set 1 _).cell 1)) rfl ⟨rfl,?_⟩
   exact(hQ3.setCell (p:=⟨w.heap.size+2,0,none⟩) (by simp) _).setCell (p:=⟨w.heap.size+2,1,none⟩) (by simp) _
  | false =>
   rw[hal,if_neg (by decide)]at hav
   have HA:=LH hav
   rw[if_neg (by decide),if_neg (by decide)]
   clear hmv hml hal hav bx bY bk hl hl1 hm hm1
   generalize ze (x+y*k)=R at *
   generalize ze (y*k)=YK at *
   generalize hsk:ze k=K at *
   generalize ze x=X at *
   generalize ze y=Y at *
   generalize Lib.itoa (l:Int)=L at *
   generalize Lib.itoa (m:Int)=M at *
   obtain⟨W0,hW0⟩:∃ W0,((w.alloc (.cells [.string ⟨X.toArray⟩,.string ⟨L.toArray⟩].toArray 139)).alloc (.cells [.string ⟨Y.toArray⟩,.string ⟨M.toArray⟩].toArray 139)).alloc (.cells [.string ⟨#[]⟩,.string ⟨#[]⟩].toArray 139)=W0:=⟨_,rfl⟩
   have hQ0:Q w W0:=by rw[← hW0];exact(((Below.refl _ w).alloc (Nat.le_refl _) _).alloc (by simp) _).alloc (by simp;omega) _
   have C1:Blk W0 w.heap.size [.string ⟨X.toArray⟩,.string ⟨L.toArray⟩] 139:=by rw[← hW0];exact((Blk.new w _ _).alloc _).alloc _
   have C2:Blk W0 (w.heap.size+1) [.string ⟨Y.toArray⟩,.string ⟨M.toArray⟩] 139:=by
    have:=(Blk.new (w.alloc (.cells [.string ⟨X.toArray⟩,.string ⟨L.toArray⟩].toArray 139)) [.string ⟨Y.toArray⟩,.string ⟨M.toArray⟩] 139).alloc (.cells [.string ⟨#[]⟩,.string ⟨#[]⟩].toArray 139)
    rw[World.size_alloc,hW0]at this;exact this
   have C3:Blk W0 (w.heap.size+2) [.string ⟨#[]⟩,.string ⟨#[]⟩] 139:=by
    have:=Blk.new ((w.alloc (.cells [.string ⟨X.toArray⟩,.string ⟨L.toArray⟩].toArray 139)).alloc (.cells [.string ⟨Y.toArray⟩,.string ⟨M.toArray⟩].toArray 139)) [.string ⟨#[]⟩,.string ⟨#[]⟩] 139
    rw[World.size_alloc,World.size_alloc,hW0]at this;exact this
   have a1:=C1.cell 1
   have b1:=C2.cell 1
   simp only[zs4,zs5]at a1 b1
   go_enter Tryz.func149,Tryz.ntmps149
   go_wp2_with fail
   refine(HR.out _ (hE.q hQ0)).mono ?_
   clear a1 b1 hW0
   rintro e w1⟨rfl,hq1⟩
   have hQ1:=Q.trans hQ0 hq1
   have D1:=C1.keep hq1 C1.lt
   have D2:=C2.keep hq1 C2.lt
   have D3:=C3.keep hq1 C3.lt
   have b0:=D2.cell 0
   simp only[List.getElem?_cons_zero]at b0
   go_wp2_with fail
   refine(HM.out _ (hE.q hQ1)).mono ?_
   clear b0 C1 C2 C3
   rintro e w2⟨rfl,hq2⟩
   have hQ2:=Q.trans hQ1 hq2
   have C1:=D1.keep hq2 D1.lt
   have C3:=D3.keep hq2 D3.lt
   have a0:=C1.cell 0
   simp only[List.getElem?_cons_zero]at a0
   go_wp2_with fail
   refine(HA.out _ (hE.q hQ2)).mono ?_
   clear a0 D1 D2 D3
   rintro e w3⟨rfl,hq3⟩
   have hQ3:=Q.trans hQ2 hq3
   have D1:=C1.keep hq3 C1.lt
   have D3:=C3.keep hq3 C3.lt
   have a1:=D1.cell 1
   have c0:=D3.cell
   have f0:=D3.frozen 0
   have f1:=D3.frozen 1
   have l3:=D3.lt
   try simp only[zs4,zs5]at a1
   go_wp2
   refine bodyPost_ret (v:=.tuple #[.agg #[.string ⟨R.toArray⟩,.string ⟨L.toArray⟩],.int .i64 0])
    (zk4 _ _ (w.heap.size+2) _ _ _ rfl rfl (((D3.set 0 _).set 1 _).cell 0) (((D3.set 0 _).set 1 _).cell 1)) rfl ⟨rfl,?_⟩
   exact(hQ3.setCell (p:=⟨w.heap.size+2,0,none⟩) (by simp) _).setCell (p:=⟨w.heap.size+2,1,none⟩) (by simp) _
end
end Go.Proofs.YthdpnkkddhcacaaGreatDoor
