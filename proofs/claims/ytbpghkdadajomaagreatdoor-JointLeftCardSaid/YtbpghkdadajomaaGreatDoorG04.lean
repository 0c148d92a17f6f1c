/-
  Walks: sum, difference, product and quotient of numbers with short parts. (Printed by mkquick.py.); Walks: rational.Check, Parts, Compare at numbers with short parts; Of at short ints.; Walks: rational.Of at short ints, Compare at short numbers; root.native, nativeRoot.; Walks: root.nativeNormal.; Walks: root.check, of, negative, Normal at numbers with short parts.
-/
import Derived.Test.YtbpghkdadajomaaGreatDoorG03
import Derived.Test.YtbpghkdadajomaaGreatDoorG02
import Derived.Test.YtbpghkdadajomaaGreatDoorG00
set_option maxRecDepth 100000
set_option maxHeartbeats 1000000
namespace Go.Proofs.YtbpghkdadajomaaGreatDoor
section
open Go.RowKit Kp
theorem zae{a b:Int}(ha:a.natAbs<100000000)(hb:b.natAbs<100000000):-10000000000000000≤a*b∧a*b≤10000000000000000:=by
 have h:a.natAbs*b.natAbs≤100000000*100000000:=Nat.mul_le_mul (by omega) (by omega)
 rw[← Int.natAbs_mul]at h
 omega
theorem zfV(x y:Rat)(hx:zF x)(hy:zF y)(w:World) :
  Calls Tryz.prog 50 #[.agg #[.int .i64 x.num,.int .i64 (x.den:Int)],.agg #[.int .i64 y.num,.int .i64 (y.den:Int)]] w fun e w'=>e=.returned (.agg #[.int .i64 (x.num*y.num),.int .i64 ((x.den:Int)*y.den)])∧Q w w':=by
 obtain⟨hx1,hx2⟩:=hx
 obtain⟨hy1,hy2⟩:=hy
 have m0:=zae (a:=x.num) (b:=y.num) (by omega) (by omega)
 have m1:=zae (a:=(x.den:Int)) (b:=(y.den:Int)) (by omega) (by omega)
 go_enter Tryz.func50,Tryz.ntmps50
 go_wp2
 refine bodyPost_ret (v:=.agg #[.int .i64 (x.num*y.num),.int .i64 ((x.den:Int)*y.den)]) ?_ rfl ⟨rfl,bt⟩
 simp[results,Tryz.results50,go_sem]
theorem zfX(x y:Rat)(hx:zF x)(hy:zF y)(w:World) :
  Calls Tryz.prog 77 #[.agg #[.int .i64 x.num,.int .i64 (x.den:Int)],.agg #[.int .i64 y.num,.int .i64 (y.den:Int)]] w fun e w'=>e=.returned (.agg #[.int .i64 (x.num*y.den+y.num*x.den),.int .i64 ((x.den:Int)*y.den)])∧Q w w':=by
 obtain⟨hx1,hx2⟩:=hx
 obtain⟨hy1,hy2⟩:=hy
 have m0:=zae (a:=x.num) (b:=(y.den:Int)) (by omega) (by omega)
 have m1:=zae (a:=y.num) (b:=(x.den:Int)) (by omega) (by omega)
 have m2:=zae (a:=(x.den:Int)) (b:=(y.den:Int)) (by omega) (by omega)
 go_enter Tryz.func77,Tryz.ntmps77
 go_wp2
 refine bodyPost_ret (v:=.agg #[.int .i64 (x.num*y.den+y.num*x.den),.int .i64 ((x.den:Int)*y.den)]) ?_ rfl ⟨rfl,bt⟩
 simp[results,Tryz.results77,go_sem]
theorem zfU(x y:Rat)(hx:zF x)(hy:zF y)(w:World) :
  Calls Tryz.prog 46 #[.agg #[.int .i64 x.num,.int .i64 (x.den:Int)],.agg #[.int .i64 y.num,.int .i64 (y.den:Int)]] w fun e w'=>e=.returned (.agg #[.int .i64 (x.num*y.den - y.num*x.den),.int .i64 ((x.den:Int)*y.den)])∧Q w w':=by
 obtain⟨hx1,hx2⟩:=hx
 obtain⟨hy1,hy2⟩:=hy
 have m0:=zae (a:=x.num) (b:=(y.den:Int)) (by omega) (by omega)
 have m1:=zae (a:=y.num) (b:=(x.den:Int)) (by omega) (by omega)
 have m2:=zae (a:=(x.den:Int)) (b:=(y.den:Int)) (by omega) (by omega)
 go_enter Tryz.func46,Tryz.ntmps46
 go_wp2
 refine bodyPost_ret (v:=.agg #[.int .i64 (x.num*y.den - y.num*x.den),.int .i64 ((x.den:Int)*y.den)]) ?_ rfl ⟨rfl,bt⟩
 simp[results,Tryz.results46,go_sem]
theorem zfW(x y:Rat)(hx:zF x)(hy:zF y)(w:World) :
  Calls Tryz.prog 79 #[.agg #[.int .i64 x.num,.int .i64 (x.den:Int)],.agg #[.int .i64 y.num,.int .i64 (y.den:Int)]] w fun e w'=>e=.returned (.agg #[.int .i64 (x.num*y.den),.int .i64 ((x.den:Int)*y.num)])∧Q w w':=by
 obtain⟨hx1,hx2⟩:=hx
 obtain⟨hy1,hy2⟩:=hy
 have m0:=zae (a:=x.num) (b:=(y.den:Int)) (by omega) (by omega)
 have m1:=zae (a:=(x.den:Int)) (b:=y.num) (by omega) (by omega)
 go_enter Tryz.func79,Tryz.ntmps79
 go_wp2
 refine bodyPost_ret (v:=.agg #[.int .i64 (x.num*y.den),.int .i64 ((x.den:Int)*y.num)]) ?_ rfl ⟨rfl,bt⟩
 simp[results,Tryz.results79,go_sem]
theorem zdc(n d:Int)(hd:d≠0)(hn:n.natAbs≤100000000000000000)(hd1:d.natAbs≤100000000000000000)(w:World)(hE:Env w) :
  Calls Tryz.prog 97 #[.agg #[.int .i64 n,.int .i64 d]] w fun e w'=>e=.returned (.string ⟨(ze (Rat.divInt n d)).toArray⟩)∧Q w w':=by
 by_cases h:0<d
 ·obtain⟨k,rfl⟩:=Int.eq_ofNat_of_zero_le (Int.le_of_lt h)
  exact zhu n k (by omega) hn (by omega) w hE
 ·obtain⟨k,hk⟩:=Int.eq_ofNat_of_zero_le (show 0≤-d by omega)
  obtain rfl:d = -(k:Int):=by omega
  exact zhv n k (by omega) hn (by omega) w hE
theorem zgB(x y:Rat)(hx:zF x)(hy:zF y)(w:World)(hE:Env w) :
  Calls Tryz.prog 45 #[.string ⟨(ze x).toArray⟩,.string ⟨(ze y).toArray⟩,.func (.func 50) #[] #[]] w fun e w'=>e=.returned (.tuple #[.string ⟨(ze (x*y)).toArray⟩,.bool true])∧Q w w':=by
 have hlx:=zcl hx
 have hly:=zcl hy
 have hxd:=x.den_nz
 have hyd:=y.den_nz
 have HR:Hid (Rat.divInt (x.num*y.num) ((x.den:Int)*y.den)=x*y):=LH (by conv=>rhs;rw[← Rat.num_divInt_den x,← Rat.num_divInt_den y,Rat.divInt_mul_divInt])
 have hd0:((x.den:Int)*y.den)≠0:=Int.mul_ne_zero (by omega) (by omega)
 obtain⟨hx1,hx2⟩:=hx
 obtain⟨hy1,hy2⟩:=hy
 have m0:=zae (a:=x.num) (b:=y.num) (by omega) (by omega)
 have m1:=zae (a:=(x.den:Int)) (b:=(y.den:Int)) (by omega) (by omega)
 go_enter Tryz.func45,Tryz.ntmps45
 go_wp2_with fail
 refine(zB _ (by omega) _).mono ?_
 rw[zaM ⟨hx1,hx2⟩]
 rintro e w1⟨rfl,hq1⟩
 go_wp2_with fail
 refine(zB _ (by omega) _).mono ?_
 rw[zaM ⟨hy1,hy2⟩]
 rintro e w2⟨rfl,hq2⟩
 have hz2:=hq2.size
 rw[World.size_alloc]at hz2
 have hQ2:Q w w2:=hq1.trans ((show Below w1.heap.size w1 _ from bt).trans (hq2.mono (by simp)) |>.mono hq1.size)
 have B1:=(Blk.new w1 [.int .i64 x.num,.int .i64 (x.den:Int)] 103).keep hq2 (by simp)
 have c0:=B1.cell 0
 have c1:=B1.cell 1
 have l1:=B1.lt
 simp only[zs4,zs5]at c0 c1
 go_wp2_with fail
 refine(zfV x y ⟨hx1,hx2⟩ ⟨hy1,hy2⟩ _).mono ?_
 rintro e w3⟨rfl,hq3⟩
 have hQ3:Q w w3:=hQ2.trans ((show Below w2.heap.size w2 _ from bt).trans (hq3.mono (by simp)) |>.mono hQ2.size)
 go_wp2_with fail
 refine(zdc _ _ hd0 (by omega) (by omega) _ (hE.q hQ3)).mono ?_
 rintro e w4⟨rfl,hq4⟩
 go_wp2
 go_ret2
 exact⟨by rw[← HR.out];rfl,hQ3.trans (hq4.mono hQ3.size)⟩
theorem zdG(x y:Rat)(hx:zF x)(hy:zF y)(w:World)(hE:Env w) :
  Calls Tryz.prog 15 #[.string ⟨(ze x).toArray⟩,.string ⟨(ze y).toArray⟩] w fun e w'=>e=.returned (.tuple #[.string ⟨(ze (x*y)).toArray⟩,.int .i64 0])∧Q w w':=by
 go_enter Tryz.func15,Tryz.ntmps15
 go_wp2_with fail
 refine(zgB x y hx hy _ hE).mono ?_
 rintro e w1⟨rfl,hq1⟩
 go_wp2
 go_ret2
 exact⟨rfl,hq1⟩
theorem zgD(x y:Rat)(hx:zF x)(hy:zF y)(w:World)(hE:Env w) :
  Calls Tryz.prog 45 #[.string ⟨(ze x).toArray⟩,.string ⟨(ze y).toArray⟩,.func (.func 77) #[] #[]] w fun e w'=>e=.returned (.tuple #[.string ⟨(ze (x+y)).toArray⟩,.bool true])∧Q w w':=by
 have hlx:=zcl hx
 have hly:=zcl hy
 have hxd:=x.den_nz
 have hyd:=y.den_nz
 have HR:Hid (Rat.divInt (x.num*y.den+y.num*x.den) ((x.den:Int)*y.den)=x+y):=LH (by conv=>rhs;rw[← Rat.num_divInt_den x,← Rat.num_divInt_den y,Rat.divInt_add_divInt _ _ (by omega) (by omega)])
 have hd0:((x.den:Int)*y.den)≠0:=Int.mul_ne_zero (by omega) (by omega)
 obtain⟨hx1,hx2⟩:=hx
 obtain⟨hy1,hy2⟩:=hy
 have m0:=zae (a:=x.num) (b:=(y.den:Int)) (by omega) (by omega)
 have m1:=zae (a:=y.num) (b:=(x.den:Int)) (by omega) (by omega)
 have m2:=zae (a:=(x.den:Int)) (b:=(y.den:Int)) (by omega) (by omega)
 go_enter Tryz.func45,Tryz.ntmps45
 go_wp2_with fail
 refine(zB _ (by omega) _).mono ?_
 rw[zaM ⟨hx1,hx2⟩]
 rintro e w1⟨rfl,hq1⟩
 go_wp2_with fail
 refine(zB _ (by omega) _).mono ?_
 rw[zaM ⟨hy1,hy2⟩]
 rintro e w2⟨rfl,hq2⟩
 have hz2:=hq2.size
 rw[World.size_alloc]at hz2
 have hQ2:Q w w2:=hq1.trans ((show Below w1.heap.size w1 _ from bt).trans (hq2.mono (by simp)) |>.mono hq1.size)
 have B1:=(Blk.new w1 [.int .i64 x.num,.int .i64 (x.den:Int)] 103).keep hq2 (by simp)
 have c0:=B1.cell 0
 have c1:=B1.cell 1
 have l1:=B1.lt
 simp only[zs4,zs5]at c0 c1
 go_wp2_with fail
 refine(zfX x y ⟨hx1,hx2⟩ ⟨hy1,hy2⟩ _).mono ?_
 rintro e w3⟨rfl,hq3⟩
 have hQ3:Q w w3:=hQ2.trans ((show Below w2.heap.size w2 _ from bt).trans (hq3.mono (by simp)) |>.mono hQ2.size)
 go_wp2_with fail
 refine(zdc _ _ hd0 (by omega) (by omega) _ (hE.q hQ3)).mono ?_
 rintro e w4⟨rfl,hq4⟩
 go_wp2
 go_ret2
 exact⟨by rw[← HR.out];rfl,hQ3.trans (hq4.mono hQ3.size)⟩
theorem zgG(x y:Rat)(hx:zF x)(hy:zF y)(w:World)(hE:Env w) :
  Calls Tryz.prog 36 #[.string ⟨(ze x).toArray⟩,.string ⟨(ze y).toArray⟩] w fun e w'=>e=.returned (.tuple #[.string ⟨(ze (x+y)).toArray⟩,.int .i64 0])∧Q w w':=by
 go_enter Tryz.func36,Tryz.ntmps36
 go_wp2_with fail
 refine(zgD x y hx hy _ hE).mono ?_
 rintro e w1⟨rfl,hq1⟩
 go_wp2
 go_ret2
 exact⟨rfl,hq1⟩
theorem zgA(x y:Rat)(hx:zF x)(hy:zF y)(w:World)(hE:Env w) :
  Calls Tryz.prog 45 #[.string ⟨(ze x).toArray⟩,.string ⟨(ze y).toArray⟩,.func (.func 46) #[] #[]] w fun e w'=>e=.returned (.tuple #[.string ⟨(ze (x - y)).toArray⟩,.bool true])∧Q w w':=by
 have hlx:=zcl hx
 have hly:=zcl hy
 have hxd:=x.den_nz
 have hyd:=y.den_nz
 have HR:Hid (Rat.divInt (x.num*y.den - y.num*x.den) ((x.den:Int)*y.den)=x - y):=LH (by conv=>rhs;rw[← Rat.num_divInt_den x,← Rat.num_divInt_den y,Rat.divInt_sub_divInt _ _ (by omega) (by omega)])
 have hd0:((x.den:Int)*y.den)≠0:=Int.mul_ne_zero (by omega) (by omega)
 obtain⟨hx1,hx2⟩:=hx
 obtain⟨hy1,hy2⟩:=hy
 have m0:=zae (a:=x.num) (b:=(y.den:Int)) (by omega) (by omega)
 have m1:=zae (a:=y.num) (b:=(x.den:Int)) (by omega) (by omega)
 have m2:=zae (a:=(x.den:Int)) (b:=(y.den:Int)) (by omega) (by omega)
 go_enter Tryz.func45,Tryz.ntmps45
 go_wp2_with fail
 refine(zB _ (by omega) _).mono ?_
 rw[zaM ⟨hx1,hx2⟩]
 rintro e w1⟨rfl,hq1⟩
 go_wp2_with fail
 refine(zB _ (by omega) _).mono ?_
 rw[zaM ⟨hy1,hy2⟩]
 rintro e w2⟨rfl,hq2⟩
 have hz2:=hq2.size
 rw[World.size_alloc]at hz2
 have hQ2:Q w w2:=hq1.trans ((show Below w1.heap.size w1 _ from bt).trans (hq2.mono (by simp)) |>.mono hq1.size)
 have B1:=(Blk.new w1 [.int .i64 x.num,.int .i64 (x.den:Int)] 103).keep hq2 (by simp)
 have c0:=B1.cell 0
 have c1:=B1.cell 1
 have l1:=B1.lt
 simp only[zs4,zs5]at c0 c1
 go_wp2_with fail
 refine(zfU x y ⟨hx1,hx2⟩ ⟨hy1,hy2⟩ _).mono ?_
 rintro e w3⟨rfl,hq3⟩
 have hQ3:Q w w3:=hQ2.trans ((show Below w2.heap.size w2 _ from bt).trans (hq3.mono (by simp)) |>.mono hQ2.size)
 go_wp2_with fail
 refine(zdc _ _ hd0 (by omega) (by omega) _ (hE.q hQ3)).mono ?_
 rintro e w4⟨rfl,hq4⟩
 go_wp2
 go_ret2
 exact⟨by rw[← HR.out];rfl,hQ3.trans (hq4.mono hQ3.size)⟩
theorem zgE(x y:Rat)(hx:zF x)(hy:zF y)(w:World)(hE:Env w) :
  Calls Tryz.prog 13 #[.string ⟨(ze x).toArray⟩,.string ⟨(ze y).toArray⟩] w fun e w'=>e=.returned (.tuple #[.string ⟨(ze (x - y)).toArray⟩,.int .i64 0])∧Q w w':=by
 go_enter Tryz.func13,Tryz.ntmps13
 go_wp2_with fail
 refine(zgA x y hx hy _ hE).mono ?_
 rintro e w1⟨rfl,hq1⟩
 go_wp2
 go_ret2
 exact⟨rfl,hq1⟩
theorem zgC(x y:Rat)(hx:zF x)(hy:zF y)(hy0:y.num≠0)(w:World)(hE:Env w) :
  Calls Tryz.prog 45 #[.string ⟨(ze x).toArray⟩,.string ⟨(ze y).toArray⟩,.func (.func 79) #[] #[]] w fun e w'=>e=.returned (.tuple #[.string ⟨(ze (x / y)).toArray⟩,.bool true])∧Q w w':=by
 have hlx:=zcl hx
 have hly:=zcl hy
 have hxd:=x.den_nz
 have hyd:=y.den_nz
 have HR:Hid (Rat.divInt (x.num*y.den) ((x.den:Int)*y.num)=x / y):=LH (by conv=>rhs;rw[← Rat.num_divInt_den x,← Rat.num_divInt_den y,Rat.div_def,Rat.inv_divInt,Rat.divInt_mul_divInt])
 have hd0:((x.den:Int)*y.num)≠0:=Int.mul_ne_zero (by omega) hy0
 obtain⟨hx1,hx2⟩:=hx
 obtain⟨hy1,hy2⟩:=hy
 have m0:=zae (a:=x.num) (b:=(y.den:Int)) (by omega) (by omega)
 have m1:=zae (a:=(x.den:Int)) (b:=y.num) (by omega) (by omega)
 go_enter Tryz.func45,Tryz.ntmps45
 go_wp2_with fail
 refine(zB _ (by omega) _).mono ?_
 rw[zaM ⟨hx1,hx2⟩]
 rintro e w1⟨rfl,hq1⟩
 go_wp2_with fail
 refine(zB _ (by omega) _).mono ?_
 rw[zaM ⟨hy1,hy2⟩]
 rintro e w2⟨rfl,hq2⟩
 have hz2:=hq2.size
 rw[World.size_alloc]at hz2
 have hQ2:Q w w2:=hq1.trans ((show Below w1.heap.size w1 _ from bt).trans (hq2.mono (by simp)) |>.mono hq1.size)
 have B1:=(Blk.new w1 [.int .i64 x.num,.int .i64 (x.den:Int)] 103).keep hq2 (by simp)
 have c0:=B1.cell 0
 have c1:=B1.cell 1
 have l1:=B1.lt
 simp only[zs4,zs5]at c0 c1
 go_wp2_with fail
 refine(zfW x y ⟨hx1,hx2⟩ ⟨hy1,hy2⟩ _).mono ?_
 rintro e w3⟨rfl,hq3⟩
 have hQ3:Q w w3:=hQ2.trans ((show Below w2.heap.size w2 _ from bt).trans (hq3.mono (by simp)) |>.mono hQ2.size)
 go_wp2_with fail
 refine(zdc _ _ hd0 (by omega) (by omega) _ (hE.q hQ3)).mono ?_
 rintro e w4⟨rfl,hq4⟩
 go_wp2
 go_ret2
 exact⟨by rw[← HR.out];rfl,hQ3.trans (hq4.mono hQ3.size)⟩
theorem zgF(x y:Rat)(hx:zF x)(hy:zF y)(hy0:y.num≠0)(w:World)(hE:Env w) :
  Calls Tryz.prog 37 #[.string ⟨(ze x).toArray⟩,.string ⟨(ze y).toArray⟩] w fun e w'=>e=.returned (.tuple #[.string ⟨(ze (x / y)).toArray⟩,.int .i64 0])∧Q w w':=by
 have hn:(ze y == [48])=false:=by
  rw[beq_eq_false_iff_ne];intro e;apply hy0
  have:ze y=ze 0:=by rw[e];simp[ze,Lib.itoa,Lib.decDigits]
  rw[zaJ this];rfl
 have hn':=zaD hn
 go_enter Tryz.func37,Tryz.ntmps37
 go_wp2_with fail
 refine(zgC x y hx hy hy0 _ hE).mono ?_
 rintro e w1⟨rfl,hq1⟩
 go_wp2
 go_ret2
 exact⟨rfl,hq1⟩
end
section
open Go.RowKit Kp
theorem zbY(q:Rat)(h:zF q)(w:World)(hE:Env w) :
  Calls Tryz.prog 43 #[.string ⟨(ze q).toArray⟩] w fun e w'=>e=.returned (.int .i64 0)∧Q w w':=by
 go_enter Tryz.func43,Tryz.ntmps43
 go_wp2_with fail
 refine(zdp q h _ hE).mono ?_
 rintro e w1⟨rfl,hq1⟩
 go_wp2
 go_ret
 exact⟨rfl,hq1.alloc hq1.size _⟩
theorem zc5(q:Rat)(h:zF q)(w:World)(hE:Env w) :
  Calls Tryz.prog 114 #[.string ⟨(ze q).toArray⟩] w fun e w'=>e=.returned (.tuple #[.string ⟨(Lib.itoa q.num).toArray⟩,.string ⟨(Lib.itoa (q.den:Int)).toArray⟩,.int .i64 0])∧Q w w':=by
 go_enter Tryz.func114,Tryz.ntmps114
 go_wp2_with fail
 refine(zdp q h _ hE).mono ?_
 rintro e w1⟨rfl,hq1⟩
 go_wp2
 go_quiet (fail)
 go_wp2
 go_ret3
 exact⟨rfl,Below.drewN (hq1.alloc hq1.size _) _⟩
theorem zeV(n:Int)(k:Nat)(hk:0<k)(hn:(Lib.itoa n).length≤18)(hd:(Lib.itoa (k:Int)).length≤18)(w:World)(hE:Env w) :
  Calls Tryz.prog 41 #[.string ⟨(Lib.itoa n).toArray⟩,.string ⟨(Lib.itoa (k:Int)).toArray⟩] w fun e w'=>e=.returned (.tuple #[.string ⟨(ze (Rat.divInt n k)).toArray⟩,.int .i64 0])∧Q w w':=by
 have hk1:=zaK hd
 have hg1:0<Nat.gcd n.natAbs k:=Nat.gcd_pos_of_pos_right _ (by omega)
 have hg2:Nat.gcd n.natAbs k≤k:=Nat.le_of_dvd (by omega) (Nat.gcd_dvd_right ..)
 have HR:=LH (zc9 n k hk)
 generalize ze (Rat.divInt n k)=r at *
 have HG:=LH (zef n (k:Int) hn hd)
 rw[Int.natAbs_natCast]at HG
 have hmin:decide ((Lib.itoa (k:Int)).head? = some 45)=false:=by
  rw[← zR,decide_eq_false_iff_not];exact zy k
 have lg:(Lib.itoa (Nat.gcd n.natAbs k:Int)).length≤18:=zlh (by omega) hd
 generalize hgg:Nat.gcd n.natAbs k=g at *
 clear hgg
 have lq1:=zgQ n g hn
 have lq2:=zgQ (k:Int) g hd
 have hg0:(g:Int)≠0:=by omega
 by_cases h1:g=1
 ·have hb:(Lib.itoa (g:Int) == [49])=true:=by rw[h1];simp[Lib.itoa,Lib.decDigits]
  have hb':=zbT hb
  have e1:n.fdiv (g:Int)=n:=by rw[h1];simp
  have e2:(k:Int).fdiv (g:Int)=k:=by rw[h1];simp
  rw[e1,e2]at HR
  clear e1 e2
  by_cases h2:(k:Int)=1
  ·have hc:(Lib.itoa (k:Int) == [49])=true:=by rw[h2];simp[Lib.itoa,Lib.decDigits]
   have H2:=LH h2
   clear h2 h1
   go_enter Tryz.func41,Tryz.ntmps41
   go_wp2_with (first | (go_at_call 56;refine(zL _ _).mono ?_;rintro e w1 ⟨rfl,rfl⟩)|(go_at_call 89;refine(HG.out _ hE).mono ?_;rintro e w1 ⟨rfl,hq1⟩))
   go_ret2
   exact⟨by rw[HR.out,if_pos H2.out];rfl,hq1⟩
  ·have hc:(Lib.itoa (k:Int) == [49])=false:=by
    rw[beq_eq_false_iff_ne,← zaa];exact fun e=>h2 (zan e)
   have H2:=LH h2
   clear h2 h1
   go_enter Tryz.func41,Tryz.ntmps41
   go_wp2_with (first | (go_at_call 56;refine(zL _ _).mono ?_;rintro e w1 ⟨rfl,rfl⟩)|(go_at_call 89;refine(HG.out _ hE).mono ?_;rintro e w1 ⟨rfl,hq1⟩))
   go_ret2
   exact⟨by rw[HR.out,if_neg H2.out];first | rfl | (simp;done),hq1⟩
 ·have hb:(Lib.itoa (g:Int) == [49])=false:=by
   rw[beq_eq_false_iff_ne,← zaa];exact fun e=>h1 (by have:=zan e;omega)
  have hb':=zaD hb
  by_cases h2:(k:Int).fdiv (g:Int)=1
  ·have hc:(Lib.itoa ((k:Int).fdiv (g:Int)) == [49])=true:=by rw[h2];simp[Lib.itoa,Lib.decDigits]
   have H2:=LH h2
   clear h2 h1
   go_enter Tryz.func41,Tryz.ntmps41
   go_wp2_with (first | (go_at_call 56;refine(zL _ _).mono ?_;rintro e w1 ⟨rfl,rfl⟩)|(go_at_call 89;refine(HG.out _ hE).mono ?_;rintro e w1 ⟨rfl,hq1⟩) | fail)
   refine(zaT n g hn lg hg0 _ (hE.q hq1)).mono ?_
   rintro e w2⟨rfl,hq2⟩
   have hQ2:Q w w2:=hq1.trans (hq2.mono hq1.size)
   go_wp2_with fail
   refine(zaT (k:Int) g hd lg hg0 _ (hE.q hQ2)).mono ?_
   rintro e w3⟨rfl,hq3⟩
   go_wp2
   go_ret2
   exact⟨by rw[HR.out,if_pos H2.out];rfl,hQ2.trans (hq3.mono hQ2.size)⟩
  ·have hc:(Lib.itoa ((k:Int).fdiv (g:Int)) == [49])=false:=by
    rw[beq_eq_false_iff_ne,← zaa];exact fun e=>h2 (zan e)
   have H2:=LH h2
   clear h2 h1
   go_enter Tryz.func41,Tryz.ntmps41
   go_wp2_with (first | (go_at_call 56;refine(zL _ _).mono ?_;rintro e w1 ⟨rfl,rfl⟩)|(go_at_call 89;refine(HG.out _ hE).mono ?_;rintro e w1 ⟨rfl,hq1⟩) | fail)
   refine(zaT n g hn lg hg0 _ (hE.q hq1)).mono ?_
   rintro e w2⟨rfl,hq2⟩
   have hQ2:Q w w2:=hq1.trans (hq2.mono hq1.size)
   go_wp2_with fail
   refine(zaT (k:Int) g hd lg hg0 _ (hE.q hQ2)).mono ?_
   rintro e w3⟨rfl,hq3⟩
   go_wp2
   go_ret2
   exact⟨by rw[HR.out,if_neg H2.out];first | rfl | (simp;done),hQ2.trans (hq3.mono hQ2.size)⟩
end
section
open Go.RowKit Kp
theorem zal(n:Int)(k:Nat)(hk:0<k)(hn:n.natAbs<100000000000000000)(hd:k<100000000000000000)(w:World)(hE:Env w) :
  Calls Tryz.prog 10 #[.int .i64 n,.int .i64 k] w fun e w'=>e=.returned (.tuple #[.string ⟨(ze (Rat.divInt n k)).toArray⟩,.int .i64 0])∧Q w w':=by
 have l1:=zka hn
 have l2:=zka (x:=(k:Int)) (by omega)
 have b0:((k:Int) == 0)=false:=by simp;omega
 by_cases h1:k=1
 ·subst h1
  have HR:Hid (ze (Rat.divInt n (1:Nat))=Lib.itoa n):=LH (by rw[zc9 n 1 (by decide)];simp)
  go_enter Tryz.func10,Tryz.ntmps10
  go_wp2_with fail
  refine(zat n (by omega) (by omega) _ hE).mono ?_
  rintro e w1⟨rfl,hq1⟩
  go_wp2
  go_ret2
  exact⟨by rw[HR.out];rfl,hq1⟩
 ·have b1:((k:Int) == 1)=false:=by simp;omega
  go_enter Tryz.func10,Tryz.ntmps10
  go_wp2_with fail
  refine(zat n (by omega) (by omega) _ hE).mono ?_
  rintro e w1⟨rfl,hq1⟩
  go_wp2_with fail
  refine(zat (k:Int) (by omega) (by omega) _ (hE.q hq1)).mono ?_
  rintro e w2⟨rfl,hq2⟩
  have hQ2:Q w w2:=hq1.trans (hq2.mono hq1.size)
  go_wp2_with fail
  refine(zeV n k hk l1 l2 _ (hE.q hQ2)).mono ?_
  rintro e w3⟨rfl,hq3⟩
  go_wp2
  go_ret2
  exact⟨rfl,hQ2.trans (hq3.mono hQ2.size)⟩
theorem zdo(x:Int)(h:(Lib.itoa x).length≤17)(w:World) :
  Calls Tryz.prog 190 #[.string ⟨(Lib.itoa x).toArray⟩] w fun e w'=>e=.returned (.tuple #[.int .i64 x,.bool true])∧Q w w':=by
 go_enter Tryz.func190,Tryz.ntmps190
 go_wp2_with fail
 refine(zgO x (by omega) _).mono ?_
 rintro e w1⟨rfl,hq1⟩
 go_wp2
 go_quiet (fail)
 go_wp2
 go_ret2
 exact⟨rfl,Below.drewN hq1 _⟩
theorem zid(s:Str)(h:17<s.length)(hl:s.length≤1000000000)(w:World) :
  Calls Tryz.prog 190 #[.string ⟨s.toArray⟩] w fun e w'=>e=.returned (.tuple #[.int .i64 0,.bool false])∧w=w':=by
 go_enter Tryz.func190,Tryz.ntmps190
 go_wp2
 go_ret2
 exact⟨rfl,rfl⟩
theorem zeS(n:Nat)(hn:n<100000000000000000)(w:World) :
  Calls Tryz.prog 239 #[.int .i64 n] w fun e w'=>e=.returned (.int .i64 (zn n))∧w=w':=by
 by_cases h2:n<2
 ·have HR:=LH (zf6 h2)
  go_enter Tryz.func239,Tryz.ntmps239
  go_wp2
  go_ret
  exact⟨zcm (by rw[HR.out];all_goals rfl),rfl⟩
 ·have hs:=zqc (n:=n) (by omega)
  have hp57:(2:Nat) ^ 57=144115188075855872:=by decide
  have hbl:Lib.bitLen n≤57:=bitLen_le (by omega)
  clear hp57
  have HS:=LH hs
  clear hs
  go_enter Tryz.func239,Tryz.ntmps239
  go_wp2_with (go_at_call 142;go_loud (refine(Tryz.bits_Len _ _ (by omega) (by omega)).mono ?_);rintro e w1 ⟨rfl,rfl⟩)
  go_loop [3] (fun x=>∃ r:Nat,0<r∧r≤1000000000∧x=.int .i64 r∧n<(r+1)*(r+1)) (fun x=>(intOf x).toNat)
  case atStart =>
   have hk:(Lib.bitLen n+1) / 2≤29:=by omega
   have h29:(2:Nat) ^ ((Lib.bitLen n+1) / 2)≤2 ^ 29:=Nat.pow_le_pow_right (by decide) hk
   have p29:(2:Nat) ^ 29=536870912:=by decide
   refine⟨2 ^ ((Lib.bitLen n+1) / 2),Nat.pow_pos (by decide),by omega,?_,HS.out⟩
   have e:((2:Int) ^ ((Lib.bitLen n+1) / 2))=((2 ^ ((Lib.bitLen n+1) / 2):Nat):Int):=by simp
   rw[e]
   generalize hg:(2:Nat) ^ ((Lib.bitLen n+1) / 2)=g at *
   have:wrap64 ((g:Nat):Int)=(g:Int):=by unfold wrap64;omega
   rw[this]
  case round =>
   obtain⟨r,hr0,hr1,rfl,hlt⟩:=hrel
   have HL:=LH hlt
   clear hlt
   have hq:n / r≤n:=Nat.div_le_self _ _
   have hq1:(n:Int) / r=((n / r:Nat):Int):=by simp
   have hq2:0≤(n:Int) / r:=Int.ediv_nonneg (by omega) (by omega)
   have hq3:(n:Int) / r≤100000000000000000:=Int.le_trans (Int.ediv_le_self _ (by omega)) (by omega)
   have hr2:((r:Int) == 0)=false:=by simp;omega
   have HQ:=LH hq1
   clear hq1
   by_cases hd:r≤(r+n / r) / 2
   ·have HR:=LH (zfs (zf1 hr0 HL.out hd))
    have hd':(r:Int)≤((r:Int)+(n:Int) / r) / 2:=by rw[HQ.out];omega
    clear hd
    go_wp2
    go_ret
    exact⟨zcm (by rw[HR.out];all_goals rfl),rfl⟩
   ·have hd':((r:Int)+(n:Int) / r) / 2<r:=by rw[HQ.out];omega
    have HN:=LH (ziY (n:=n) hr0)
    have hpos:0<(r+n / r) / 2:=by
     rcases Nat.eq_zero_or_pos ((r+n / r) / 2)with h0 | h0
     ·have:=HN.out;rw[h0]at this;omega
     ·exact h0
    go_wp2
    go_round
    case rel=>exact⟨(r+n / r) / 2,hpos,by omega,by rw[HQ.out];go_num,HN.out⟩
    case measure=>simp only[intOf];rw[HQ.out];omega
end
section
open Go.RowKit Kp
def zgH:Array Value:=(zdr.map fun s=>Value.string ⟨s.toArray⟩).toArray
theorem zrP{n:Nat}(h:n<100):Lib.decDigits n=if n<10 then [UInt8.ofNat (48+n)]else [UInt8.ofNat (48+n / 10),UInt8.ofNat (48+n % 10)]:=by
 rw[Lib.decDigits]
 split
 ·rfl
 ·rw[Lib.decDigits,dif_pos (by omega)];rfl
theorem zmR(k:Nat)(h:k<25):zdr.getD k []=Lib.itoa (zJ.getD k 0:Int):=by
 have key:∀ j:Fin 25,zJ.getD j.val 0<100∧zdr.getD j.val []=if zJ.getD j.val 0<10 then [UInt8.ofNat (48+zJ.getD j.val 0)]else [UInt8.ofNat (48+zJ.getD j.val 0 / 10),UInt8.ofNat (48+zJ.getD j.val 0 % 10)]:=by decide
 obtain⟨h1,h2⟩:=key ⟨k,h⟩
 rw[← zR,zrP h1];exact h2
theorem ze1(k:Nat)(h:k<25):2≤zJ.getD k 0∧zJ.getD k 0≤97:=by
 have:∀ j:Fin 25,2≤zJ.getD j.val 0∧zJ.getD j.val 0≤97:=by decide
 exact this ⟨k,h⟩
theorem zmQ(k:Nat)(h:k<25):(Lib.itoa (zJ.getD k 0:Int)).length≤17:=by
 have:=ze1 k h
 have h2:(Lib.decDigits (zJ.getD k 0)).length≤2:=(zl _ 2 (by decide)).2 (by omega)
 rw[← zR];omega
theorem zlT(k:Nat)(h:k=0∨k=1∨k=2∨k=3∨k=4∨k=5∨k=6∨k=7∨k=8∨k=9∨k=10∨k=11∨k=12∨k=13∨k=14∨k=15∨k=16∨k=17∨k=18∨k=19∨k=20∨k=21∨k=22∨k=23∨k=24)(w:World):(Instr.index 328 (.agg zgH) (.int .i64 (k:Nat))).run Tryz.prog w=.ok (.string ⟨(zdr.getD k []).toArray⟩) w:=by
 rcases h with rfl | rfl | rfl | rfl | rfl | rfl | rfl | rfl | rfl | rfl | rfl | rfl | rfl | rfl | rfl | rfl | rfl | rfl | rfl | rfl | rfl | rfl | rfl | rfl | rfl
 all_goals kernel_rfl
theorem ziR(k:Nat)(h:k<25)(w:World):(Instr.index 328 (.agg zgH) (.int .i64 (k:Nat))).run Tryz.prog w=.ok (.string ⟨(Lib.itoa (zJ.getD k 0:Int)).toArray⟩) w:=by
 rw[← zmR k h]
 exact zlT k (by omega) w
def zr3(w:World)(n:Nat)(c l i:Value)(wr:World):Prop :=
 ∃ (k a b:Nat),k≤25∧i=.int .i64 k∧c=.int .i64 a∧l=.int .i64 b∧zK (zJ.take k) (1,n)=(a,b)∧StripInv n a b∧Q w wr∧Env wr
def zq3(w:World)(n k:Nat)(c l:Value)(wr:World):Prop :=
 ∃ (a b:Nat),c=.int .i64 a∧l=.int .i64 b∧zbb (zJ.getD k 0) a b=zK (zJ.take (k+1)) (1,n)∧StripInv n a b∧Q w wr∧Env wr
theorem zg5.row{w:World}{g:Nat}(h:zg5 w g zdr):∃ t f,w.heap[g]? = some (.cells zgH t f):=h
theorem zhj(n d:Nat)(hn:0<n)(hd:0<d)(hnd:n*d<100000000000000000)(w:World)(hE:Env w) :
  Calls Tryz.prog 191 #[.int .i64 n,.int .i64 d] w fun e w'=>e=.returned (.tuple #[.string ⟨(ze (Rat.divInt (zaG (n*d)).1 d)).toArray⟩,.string ⟨(Lib.itoa ((zaG (n*d)).2:Int)).toArray⟩])∧Q w w':=by
 obtain⟨tp,fp,hrow⟩:=hE.primes.row
 have hm:0<n*d:=Nat.mul_pos hn hd
 have hdl:d<100000000000000000:=by
  have:1*d≤n*d:=Nat.mul_le_mul_right _ hn
  omega
 have e0:(n:Int)*(d:Int)=((n*d:Nat):Int):=by simp
 have E0:=LH e0
 have b1:(n:Int)*(d:Int)≤100000000000000000:=by rw[e0];omega
 have b0:0≤(n:Int)*(d:Int):=by rw[e0];omega
 clear e0
 go_enter Tryz.func191,Tryz.ntmps191
 go_wp2_with (refine wpList_load_row rfl 328 _ rfl 2 rfl tp zgH fp _ hrow Tryz.underlying328 rfl (by kernel_rfl) ?_)
 go_loopw [6,7,19] (zr3 w (n*d)) (fun _ _ i _=>25 - (intOf i).toNat)
 case atStart=>exact⟨0,1,n*d,by omega,rfl,rfl,by rw[E0.out],rfl,⟨hm,by decide,by simp⟩,Below.refl _ _,hE⟩
 case round =>
  obtain⟨k,a,b,hk,rfl,rfl,rfl,hs,hinv,hQ,hEr⟩:=hrel
  have HS:=LH hs
  have HI:=LH hinv
  clear hs hinv
  by_cases hlt:k<25
  ·have hidx:=ziR k hlt
   have hp:=ze1 k hlt
   have hps:=zmQ k hlt
   have HT:=LH (zdD k hlt (1,n*d))
   generalize hpp:zJ.getD k 0=p at *
   have HP:=LH hpp
   clear hpp
   go_wp2_with (go_at_call 158;go_loud (refine(zgO (p:Int) (by omega) _).mono ?_);rintro e w1 ⟨rfl,hq1⟩)
   have hQ1:Q w w1:=hQ.trans (hq1.mono hQ.size)
   have hE1:=hE.q hQ1
   clear hidx
   go_loopw [6,7] (zq3 w (n*d) k) (fun _ l _=>(intOf l).toNat)
   case atStart=>exact⟨a,b,rfl,rfl,by rw[HT.out,HS.out,HP.out],HI.out,hQ1,hE1⟩
   case round =>
    obtain⟨a',b',rfl,rfl,hs',hinv',hQ',hE'⟩:=hrel
    have HS':=LH hs'
    have HI':=LH hinv'
    have hb':=hinv'.bounds.1
    have ha':=hinv'.small hnd
    clear hs' hinv'
    have hpp0:4≤p*p:=Nat.mul_le_mul hp.1 hp.1
    have hpp1:p*p≤97*97:=Nat.mul_le_mul hp.2 hp.2
    have hap:a'*p≤1000000000*97:=Nat.mul_le_mul (by omega) hp.2
    have c1:(p:Int)*p=((p*p:Nat):Int):=by simp
    have c2:(a':Int)*p=((a'*p:Nat):Int):=by simp
    have d1:(p:Int)*p≤10000:=by rw[c1];omega
    have d2:0<(p:Int)*p:=by rw[c1];omega
    have d3:(a':Int)*p≤100000000000:=by rw[c2];omega
    have d4:0≤(a':Int)*p:=by rw[c2];omega
    have d5:((p:Int)*p == 0)=false:=by simp;omega
    have c3:(b':Int) % ((p:Int)*p)=((b' % (p*p):Nat):Int):=by simp
    have c4:(b':Int) / ((p:Int)*p)=((b' / (p*p):Nat):Int):=by simp
    have d6:0≤(b':Int) / ((p:Int)*p):=Int.ediv_nonneg (by omega) (by omega)
    have hble:b' / (p*p)≤b':=Nat.div_le_self _ _
    have d7:(b':Int) / ((p:Int)*p)≤100000000000000000:=Int.le_trans (Int.ediv_le_self _ (by omega)) (by omega)
    have C2:=LH c2
    have C4:=LH c4
    by_cases hz:b' % (p*p)=0
    ·have t:((b':Int) % ((p:Int)*p) == 0)=true:=by rw[c3,hz];rfl
     have HN:=LH (HI'.out.next hp.1 hz)
     have hlt':b' / (p*p)<b':=Nat.div_lt_self HI'.out.pos (by omega)
     have HY:=LH (zfm (c:=a') hp.1 HI'.out.pos hz)
     clear c1 c2 c3 c4 hz
     go_wp2
     go_quiet (fail)
     go_wp2
     go_roundw
     case rel=>exact⟨a'*p,b' / (p*p),by rw[C2.out],by rw[C4.out],by rw[HP.out,← HY.out];rw[HP.out]at HS';exact HS'.out,HN.out,Below.drewN hQ' _,hE'.drewN _⟩
     case measure=>simp only[intOf];rw[C4.out,Int.toNat_natCast,Int.toNat_natCast];exact hlt'
    ·have t:((b':Int) % ((p:Int)*p) == 0)=false:=by rw[c3];simp;omega
     have HY:=LH (zgl (p:=p) (c:=a') (m:=b') hz)
     clear c1 c2 c3 c4 hz
     go_wp2
     go_roundw
     case rel=>exact⟨k+1,a',b',by omega,by go_num,rfl,rfl,by rw[← HS'.out,HP.out,HY.out],HI'.out,hQ',hE'⟩
     case measure=>simp only[intOf];omega
  ·obtain rfl:k=25:=by omega
   have hble:=HI.out.bounds.1
   have hasm:=HI.out.small hnd
   have hsq:=(zcj b).1
   have hrle:=zgR b
   have HM:Hid (zaG (n*d)=if zn b*zn b=b then(a*zn b,1)else(a,b)):=LH (by
    unfold zaG
    have e:zK zJ (1,n*d)=(a,b):=by rw[← HS.out];rfl
    rw[e])
   have c1:(zn b:Int)*(zn b:Int)=((zn b*zn b:Nat):Int):=by simp
   have d1:(zn b:Int)*(zn b:Int)≤100000000000000000:=by rw[c1];omega
   have d2:0≤(zn b:Int)*(zn b:Int):=by rw[c1];omega
   have har:a*zn b<100000000000000000:=by
    have e1:=HI.out.eq
    have e2:(a*zn b)*(a*zn b)≤a*a*b:=by
     have:(a*zn b)*(a*zn b)=a*a*(zn b*zn b):=by grind
     rw[this];exact Nat.mul_le_mul_left _ hsq
    rcases Nat.lt_or_ge (a*zn b) 100000000000000000 with x | x
    ·exact x
    ·have:1*(a*zn b)≤(a*zn b)*(a*zn b):=Nat.mul_le_mul_right _ (by omega)
     omega
   have c2:(a:Int)*(zn b:Int)=((a*zn b:Nat):Int):=by simp
   have d3:(a:Int)*(zn b:Int)<100000000000000000:=by rw[c2];omega
   have d4:0≤(a:Int)*(zn b:Int):=by rw[c2];omega
   have HB:=LH (zeS b (by omega))
   have C2:=LH c2
   by_cases hz:zn b*zn b=b
   ·have t:((zn b:Int)*(zn b:Int) == (b:Int))=true:=by rw[c1,hz];simp
    have HZ:=LH hz
    clear c1 c2 hz hsq
    generalize zn b=r at *
    go_wp2_with fail
    refine(HB.out _).mono ?_
    rintro e w1⟨rfl,rfl⟩
    go_wp2_with fail
    refine(zal _ d hd (by omega) (by omega) _ hEr).mono ?_
    rintro e w2⟨rfl,hq2⟩
    have hQ2:Q w w2:=hQ.trans (hq2.mono hQ.size)
    go_wp2_with fail
    refine(zat _ (by omega) (by omega) _ (hE.q hQ2)).mono ?_
    rintro e w3⟨rfl,hq3⟩
    go_wp2
    go_ret2
    exact⟨by rw[HM.out,if_pos HZ.out];simp only;rw[← C2.out];rfl,hQ2.trans (hq3.mono hQ2.size)⟩
   ·have t:((zn b:Int)*(zn b:Int) == (b:Int))=false:=by rw[c1];simp;omega
    have HZ:=LH hz
    clear c1 c2 hz hsq
    generalize zn b=r at *
    go_wp2_with fail
    refine(HB.out _).mono ?_
    rintro e w1⟨rfl,rfl⟩
    go_wp2_with fail
    refine(zal _ d hd (by omega) (by omega) _ hEr).mono ?_
    rintro e w2⟨rfl,hq2⟩
    have hQ2:Q w w2:=hQ.trans (hq2.mono hQ.size)
    go_wp2_with fail
    refine(zat _ (by omega) (by omega) _ (hE.q hQ2)).mono ?_
    rintro e w3⟨rfl,hq3⟩
    go_wp2
    go_ret2
    exact⟨by rw[HM.out,if_neg HZ.out];rfl,hQ2.trans (hq3.mono hQ2.size)⟩
end
section
open Go.RowKit Kp
theorem zj2{P:Program}{f:FuncId}{args:Array Value}{w:World}{n:Nat}{v:Value}
  (h:Calls P f args (w.drewN n) fun e w'=>e=.returned v∧w.drewN n=w'):Calls P f args (w.drewN n) fun e w''=>e=.returned v∧∃ m,w''=w.drewN m :=
 h.mono fun _ _ ⟨he,hm⟩=>⟨he,n,hm.symm⟩
def zdh(w:World)(v:Value)(l:List Str):Prop :=
 ∃ b off cap,v=.slice (some ⟨b,off,none⟩) l.length cap∧b<w.heap.size∧∀ i,i<l.length→w.cell? ⟨b,off+i,none⟩=some (.string ⟨(l.getD i []).toArray⟩)
theorem zda(s:Str)(w:World) :
  Calls Tryz.prog 217 #[.string ⟨s.toArray⟩] w fun e w'=>e=.returned (.bool (decide (s.head? = some 45)))∧w=w':=by
 go_enter Tryz.func217,Tryz.ntmps217
 go_wp2_with fail
 refine(zL s _).mono ?_
 rintro e w1⟨rfl,rfl⟩
 go_wp2
 go_ret
 exact⟨rfl,rfl⟩
theorem zq8(tmps:Array Value)(W:World)(b:Nat)(x y:Value)(hp:tmps.getD 2 undef=.pointer (some ⟨b,0,none⟩))
  (c0:W.cell? ⟨b,0,none⟩=some x)(c1:W.cell? ⟨b,1,none⟩=some y) :
  (results Tryz.f153 tmps).run Tryz.prog W=.ok (.agg #[x,y]) W:=by
 simp only[Array.getD_eq_getD_getElem?]at hp
 simp[results,Tryz.results153,go_sem,hp,c0,c1]
theorem zgw(q:Rat)(h:zF q)(w:World)(hE:Env w) :
  Calls Tryz.prog 153 #[.string ⟨(ze q).toArray⟩] w fun e w'=>e=.returned (.agg #[.string ⟨(Lib.itoa q.num).toArray⟩,.string ⟨(Lib.itoa (q.den:Int)).toArray⟩])∧Q w w':=by
 go_enter Tryz.func153,Tryz.ntmps153
 go_wp2_with fail
 refine(zc5 q h _ (hE.q bt)).mono ?_
 rintro e w1⟨rfl,hq1⟩
 have hQ1:Q w w1:=(show Below w.heap.size w _ from bt).trans (hq1.mono (by simp))
 have B1:=(Blk.new w [.string ⟨#[]⟩,.string ⟨#[]⟩] 221).keep hq1 (by simp)
 have c0:=B1.cell 0
 have c1:=B1.cell 1
 have f0:=B1.frozen 0
 have f1:=B1.frozen 1
 have l1:=B1.lt
 simp only[zs4,zs5]at c0 c1
 go_wp2
 refine bodyPost_ret (v:=.agg #[.string ⟨(Lib.itoa q.num).toArray⟩,.string ⟨(Lib.itoa (q.den:Int)).toArray⟩])
  (zq8 _ _ w.heap.size _ _ rfl (((B1.set 0 _).set 1 _).cell 0) (((B1.set 0 _).set 1 _).cell 1)) rfl ⟨rfl,?_⟩
 exact(hQ1.setCell (p:=⟨w.heap.size,0,none⟩) (Nat.le_refl _) _).setCell (p:=⟨w.heap.size,1,none⟩) (Nat.le_refl _) _
theorem zbG(q:Rat):(ze q).head? = some 45 ↔ q.num<0:=by
 unfold ze;split
 ·have:=zcX q.num [];rw[List.append_nil]at this;exact this
 ·exact zcX q.num _
theorem zie(qs rs:List Rat)(hq8:∀ q∈qs,zF q)(v1 v2:Value)(w:World)(hE:Env w)(h1:zdh w v1 (qs.map ze))(h2:zdh w v2 (rs.map ze))(hl1:qs.length≤100)(hl2:rs.length≤100) :
  Calls Tryz.prog 151 #[v1,v2] w fun e w'=>e=.returned (.int .i64 (if ∀ q∈rs,0≤q.num then 0 else 2))∧Q w w':=by
 obtain⟨b1,o1,cap1,rfl,hb1,hc1⟩:=h1
 obtain⟨b2,o2,cap2,rfl,hb2,hc2⟩:=h2
 rw[List.length_map]at hc1 hc2
 rw[List.length_map,List.length_map]
 generalize hans:(if ∀ q∈rs,0≤q.num then 0 else 2:Int)=ans
 have hans1:Hid ((∀ q∈rs,0≤q.num)→ans=0):=LH (fun h=>by rw[← hans,if_pos h])
 have hans2:Hid ((¬ ∀ q∈rs,0≤q.num)→ans=2):=LH (fun h=>by rw[← hans,if_neg h])
 clear hans
 go_enter Tryz.func151,Tryz.ntmps151
 go_wp2
 go_loopw [13] (fun i wr=>∃ k:Nat,k≤qs.length∧i=.int .i64 k∧Q w wr∧Env wr) (fun i _=>qs.length - (intOf i).toNat)
 case atStart=>exact⟨0,by omega,rfl,Below.refl _ _,hE⟩
 case round =>
  obtain⟨k,hk,rfl,hQ,hEr⟩:=hrel
  by_cases hlt:k<qs.length
  ·have hcell:=hc1 k hlt
   have hcell':wr.cell? ⟨b1,o1+k,none⟩=some (.string ⟨((qs.map ze).getD k []).toArray⟩):=by rw[hQ.cell (p:=⟨b1,o1+k,none⟩) hb1];exact hcell
   have hq:(qs.map ze).getD k []=ze qs[k]:=by rw[List.getD_eq_getElem?_getD,List.getElem?_map,List.getElem?_eq_getElem hlt];rfl
   have h8:=hq8 qs[k] (List.getElem_mem hlt)
   rw[hq]at hcell'
   clear hcell hc1 hc2 hq8 hq
   generalize qs[k]=q at *
   have lq1:=zab q.num (zb3 (by have:=h8.1;omega))
   have ln1:(zo (Lib.itoa q.num)).length≤8:=by rw[zaY];exact(zl _ 8 (by decide)).2 (by have:=h8.1;omega)
   have ld1:(Lib.itoa (q.den:Int)).length≤8:=by rw[← zR];exact(zl _ 8 (by decide)).2 (by have:=h8.2;omega)
   go_wp2_with fail
   refine(zbY q h8 _ hEr).mono ?_
   rintro e w1⟨rfl,hq1⟩
   go_wp2_with fail
   refine(zgw q h8 _ (hEr.q hq1)).mono ?_
   rintro e w2⟨rfl,hq2⟩
   have hQ2:Q w w2:=hQ.trans ((hq1.trans (hq2.mono hq1.size)).mono hQ.size)
   go_wp2_with fail
   go_quiet ((go_at_call 115;exact zj2 (zQ _ _)))
   go_wp2
   go_roundw
   case rel=>exact⟨k+1,by omega,by go_num,Below.drewN (hQ2.alloc hQ2.size _) _,hE.q (Below.drewN (hQ2.alloc hQ2.size _) _)⟩
   case measure=>simp[intOf];omega
  ·obtain rfl:k=qs.length:=by omega
   go_wp2
   go_loop [36] (fun i=>∃ k:Nat,k≤rs.length∧i=.int .i64 k∧∀ q∈rs.take k,0≤q.num) (fun i=>rs.length - (intOf i).toNat)
   case atStart=>exact⟨0,by omega,rfl,by simp⟩
   case round =>
    obtain⟨k,hk,rfl,hall⟩:=hrel
    have HA:=LH hall
    clear hall
    by_cases hlt:k<rs.length
    ·have hcell:=hc2 k hlt
     have hcell':wr.cell? ⟨b2,o2+k,none⟩=some (.string ⟨((rs.map ze).getD k []).toArray⟩):=by rw[hQ.cell (p:=⟨b2,o2+k,none⟩) hb2];exact hcell
     have hq:(rs.map ze).getD k []=ze rs[k]:=by rw[List.getD_eq_getElem?_getD,List.getElem?_map,List.getElem?_eq_getElem hlt];rfl
     rw[hq]at hcell'
     have HR:Hid (rs[k].num<0→¬ ∀ q∈rs,0≤q.num):=LH (fun hneg hx=>by have:=hx rs[k] (List.getElem_mem hlt);omega)
     have HN:Hid (¬ rs[k].num<0→∀ q∈rs.take (k+1),0≤q.num):=LH (fun hneg=>by
       rw[List.take_succ_eq_append_getElem hlt]
       intro q hq
       rcases List.mem_append.1 hq with hq | hq
       ·exact HA.out q hq
       ·rw[List.mem_singleton]at hq;subst hq;omega)
     clear hcell hq hc1 hc2 hq8 HA
     generalize hqk:rs[k]=q at hcell' HR HN
     clear hqk
     by_cases hneg:q.num<0
     ·have hd:decide ((ze q).head? = some 45)=true:=by rw[decide_eq_true_eq,zbG];exact hneg
      have HX:Hid (¬ ∀ q∈rs,0≤q.num):=LH (HR.out hneg)
      clear hneg HR HN
      go_wp2_with (go_at_call 217;go_loud (refine(zda _ _).mono ?_);rintro e w1 ⟨rfl,rfl⟩)
      go_ret
      exact⟨zcm (by rw[hans2.out HX.out];all_goals rfl),hQ⟩
     ·have hd:decide ((ze q).head? = some 45)=false:=by rw[decide_eq_false_iff_not,zbG];exact hneg
      have HX:Hid (∀ q∈rs.take (k+1),0≤q.num):=LH (HN.out hneg)
      clear hneg HR HN
      go_wp2_with (go_at_call 217;go_loud (refine(zda _ _).mono ?_);rintro e w1 ⟨rfl,rfl⟩)
      go_round
      case rel=>exact⟨k+1,by omega,by go_num,HX.out⟩
      case measure=>simp[intOf];omega
    ·have HR:Hid (∀ q∈rs,0≤q.num):=LH (by
      have:=HA.out
      rw[List.take_of_length_le (by omega)]at this;exact this)
     clear hc1 hc2 hq8
     go_wp2
     go_ret
     exact⟨zcm (by rw[hans1.out HR.out];all_goals rfl),hQ⟩
end
end Go.Proofs.YtbpghkdadajomaaGreatDoor
