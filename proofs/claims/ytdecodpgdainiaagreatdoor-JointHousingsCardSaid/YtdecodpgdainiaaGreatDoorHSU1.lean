/-
  RA RM RO RP RR RB RD RC, one behind the other.
-/
import Derived.Test.YtdecodpgdainiaaGreatDoorHSQ
set_option maxRecDepth 100000
set_option maxHeartbeats 1000000
namespace Go.Proofs.YtdecodpgdainiaaGreatDoor
section
open Go.RowKit Kp
open Go.Lib (decDigits)
theorem zeM(x y:Rat)(hx:zy x)(hy:zy y)(w:World) :
  CR 35 #[.string ⟨(za x).toArray⟩,.string ⟨(za y).toArray⟩] w (.tuple #[.int .i64 (Lib.compareInt (x.num*y.den) (y.num*x.den)),.int .i64 0]):=by
 have l1:=zaQ (zy.root90 hx).zak
 have l2:=zaQ (zy.root90 hy).zak
 have N1:=LH (fun w=>zB (za x) (by omega) w)
 have N2:=LH (fun w=>zB (za y) (by omega) w)
 rw[zaM hx]at N1
 rw[zaM hy]at N2
 have b1:=hx.1
 have b2:=hx.2
 have b3:=hy.1
 have b4:=hy.2
 have hd1:(0:Int)<x.den:=by have:=x.den_pos;omega
 have hd2:(0:Int)<y.den:=by have:=y.den_pos;omega
 have p1:(x.num*(y.den:Int)).natAbs<10000000000000000:=by
  rw[Int.natAbs_mul,Int.natAbs_natCast]
  have:=Nat.mul_lt_mul'' b1 b4
  omega
 have p2:(y.num*(x.den:Int)).natAbs<10000000000000000:=by
  rw[Int.natAbs_mul,Int.natAbs_natCast]
  have:=Nat.mul_lt_mul'' b3 b2
  omega
 generalize (x.den:Int)=xd at *
 generalize (y.den:Int)=yd at *
 generalize x.num=xn at *
 generalize y.num=yn at *
 generalize za x=X at *
 generalize za y=Y at *
 have q1:-10000000000000000<xn*yd:=by omega
 have q2:xn*yd<10000000000000000:=by omega
 have q3:-10000000000000000<yn*xd:=by omega
 have q4:yn*xd<10000000000000000:=by omega
 clear p1 p2 b1 b2 b3 b4 hx hy l1 l2
 go_enter Tryz.func35,Tryz.ntmps35
 go_wp2_with fail
 refine cx (N1.out _) fun w1 hq1=>?_
 go_wp2_with fail
 refine cx (N2.out _) fun w2 hq2=>?_
 have hQ2:Q w w2:=Q.trans hq1 (Q.trans ((Below.refl _ w1).alloc (Nat.le_refl _) _) hq2)
 have B1:=(Blk.new w1 [.int .i64 xn,.int .i64 xd] 90).keep hq2 (by simp)
 have l1:=B1.lt
 have c0:=B1.cell
 go_wp2_with fail
 refine(Tryz.cmp_Compare_int _ _ _).mono ?_
 rintro e w3⟨rfl,rfl⟩
 go_wp2
 go_ret2
 exact⟨rfl,hQ2.alloc hQ2.size _⟩
theorem ze3(x y:Rat)(hx:zak x=false)(hy:zak y=false)(hs:¬ (zy x∧zy y))(h1:lim (x.num*y.den)=false)(h2:lim (y.num*(x.den:Int))=false)(w:World)(hE:Env w) :
  CR 35 #[.string ⟨(za x).toArray⟩,.string ⟨(za y).toArray⟩] w (.tuple #[.int .i64 (Lib.compareInt (x.num*y.den) (y.num*x.den)),.int .i64 0]):=by
 have l1:=zaQ hx
 have l2:=zaQ hy
 have hor:=zbr hs
 have N1:=LH (fun w=>zB (za x) (by omega) w)
 have N2:=LH (fun w=>zB (za y) (by omega) w)
 have R1:=LH (fun w hw=>zah x hx w hw)
 have R2:=LH (fun w hw=>zah y hy w hw)
 have C:=LH (fun w hw=>zbw x.num (x.den:Int) y.num (y.den:Int) (zw hx).1 (zw hx).2 (zw hy).1 (zw hy).2 h1 h2 w hw)
 have K:=LH (fun w=>za3 (x.num*y.den) (y.num*(x.den:Int)) h1 h2 w)
 clear hx hy hs h1 h2 l1 l2
 generalize Lib.compareInt (x.num*y.den) (y.num*(x.den:Int))=ans at *
 cases hn:zcy (za x)with
 | none =>
  rw[zdo hn]at N1
  clear hn hor N2
  generalize Lib.itoa x.num=XN at *
  generalize Lib.itoa (x.den:Int)=XD at *
  generalize Lib.itoa y.num=YN at *
  generalize Lib.itoa (y.den:Int)=YD at *
  go_enter Tryz.func35,Tryz.ntmps35
  go_wp2_with fail
  refine cx (N1.out _) fun w1 hq1=>?_
  have hQ1:=hq1.alloc hq1.size (.cells #[.int .i64 0,.int .i64 0] 90)
  go_wp2_with fail
  refine cx (R1.out _ (hE.q hQ1)) fun w2 hq2=>?_
  have hQ2:=Q.trans hQ1 hq2
  have hQ2':=hQ2.alloc hQ2.size (.cells #[.string ⟨XN.toArray⟩,.string ⟨XD.toArray⟩] 120)
  have X0:=Blk.new w2 [.string ⟨XN.toArray⟩,.string ⟨XD.toArray⟩] 120
  go_wp2_with fail
  refine cx (R2.out _ (hE.q hQ2')) fun w3 hq3=>?_
  have hQ3:=Q.trans hQ2' hq3
  have hQ3':=hQ3.alloc hQ3.size (.cells #[.string ⟨YN.toArray⟩,.string ⟨YD.toArray⟩] 120)
  have X1:=X0.keep hq3 X0.lt
  have c0:=X1.cell
  have lx:=X1.lt
  go_wp2_with fail
  refine cx (C.out _ (hE.q hQ3')) fun w4 hq4=>?_
  have hQ4:=Q.trans hQ3' hq4
  clear c0 lx X0 X1
  go_wp2_with fail
  refine cx (K.out _) fun w5 hq5=>?_
  have hQ5:=Q.trans hQ4 hq5
  go_wp2
  go_ret2
  exact⟨rfl,hQ5⟩
 | some nd =>
  obtain⟨n,d⟩:=nd
  rw[zes hn]at N1
  have hy2:zcy (za y)=none:=by
   rcases hor with h | h
   ·rw[h]at hn;cases hn
   ·exact h
  rw[zdo hy2]at N2
  clear hn hor hy2
  generalize Lib.itoa x.num=XN at *
  generalize Lib.itoa (x.den:Int)=XD at *
  generalize Lib.itoa y.num=YN at *
  generalize Lib.itoa (y.den:Int)=YD at *
  go_enter Tryz.func35,Tryz.ntmps35
  go_wp2_with fail
  refine cx (N1.out _) fun w1 hq1=>?_
  have hQ1:=hq1.alloc hq1.size (.cells #[.int .i64 n,.int .i64 d] 90)
  go_wp2_with fail
  refine cx (N2.out _) fun w2 hq2=>?_
  have hQ2:=Q.trans hQ1 hq2
  have hQ2':=hQ2.alloc hQ2.size (.cells #[.int .i64 0,.int .i64 0] 90)
  go_wp2_with fail
  refine cx (R1.out _ (hE.q hQ2')) fun w3 hq3=>?_
  have hQ3:=Q.trans hQ2' hq3
  have hQ3':=hQ3.alloc hQ3.size (.cells #[.string ⟨XN.toArray⟩,.string ⟨XD.toArray⟩] 120)
  have X0:=Blk.new w3 [.string ⟨XN.toArray⟩,.string ⟨XD.toArray⟩] 120
  go_wp2_with fail
  refine cx (R2.out _ (hE.q hQ3')) fun w4 hq4=>?_
  have hQ4:=Q.trans hQ3' hq4
  have hQ4':=hQ4.alloc hQ4.size (.cells #[.string ⟨YN.toArray⟩,.string ⟨YD.toArray⟩] 120)
  have X1:=X0.keep hq4 X0.lt
  have c0:=X1.cell
  have lx:=X1.lt
  go_wp2_with fail
  refine cx (C.out _ (hE.q hQ4')) fun w5 hq5=>?_
  have hQ5:=Q.trans hQ4' hq5
  clear c0 lx X0 X1
  go_wp2_with fail
  refine cx (K.out _) fun w6 hq6=>?_
  have hQ6:=Q.trans hQ5 hq6
  go_wp2
  go_ret2
  exact⟨rfl,hQ6⟩
theorem zeF(x y:Rat)(hx:zak x=false)(hy:zak y=false)(h1:lim (x.num*y.den)=false)(h2:lim (y.num*(x.den:Int))=false)(w:World)(hE:Env w) :
  CR 35 #[.string ⟨(za x).toArray⟩,.string ⟨(za y).toArray⟩] w (.tuple #[.int .i64 (Lib.compareInt (x.num*y.den) (y.num*x.den)),.int .i64 0]):=by
 by_cases hs:zy x∧zy y
 ·exact zeM x y hs.1 hs.2 w
 ·exact ze3 x y hx hy hs h1 h2 w hE
theorem zbW(l m:Nat)(hl:lim (l:Int)=false)(hm:lim (m:Int)=false)(w:World)(hE:Env w) :
  CR 35 #[.string ⟨(Lib.itoa (l:Int)).toArray⟩,.string ⟨(Lib.itoa (m:Int)).toArray⟩] w (.tuple #[.int .i64 (Lib.compareInt l m),.int .i64 0]):=by
 have hr:∀ n:Nat,lim (n:Int)=false→zak (n:Rat)=false:=fun n hn=>by unfold zak;rw[Rat.num_natCast,Rat.den_natCast,hn];exact zf8
 have h:=zeF (l:Rat) (m:Rat) (hr l hl) (hr m hm) (by rw[Rat.num_natCast,Rat.den_natCast];simpa using hl) (by rw[Rat.num_natCast,Rat.den_natCast];simpa using hm) w hE
 rw[zbf,zbf,Rat.num_natCast,Rat.num_natCast,Rat.den_natCast,Rat.den_natCast,show ((1:Nat):Int)=1 from rfl,Int.mul_one,Int.mul_one]at h
 exact h
def zc1(q:Rat):Bool:=decide (zm q.num.toNat*zm q.num.toNat=q.num.toNat) && decide (zm q.den*zm q.den=q.den)
def sqR(q:Rat):Rat:=Rat.divInt (zm q.num.toNat:Int) (zm q.den:Int)
theorem zg0{n:Nat}(h:0<n):0<zm n:=by
 have:=(zcf n).2
 rcases Nat.eq_zero_or_pos (zm n)with h0 | h0
 ·rw[h0]at this;omega
 ·exact h0
theorem zjw{n:Nat}(h:lim (n:Int)=false):lim (zm n:Int)=false:=zcv h (by have:=zg1 n;omega)
theorem ziX(q:Rat)(h:zak q=false)(hp:0≤q.num)(w:World)(hE:Env w) :
  CR 107 #[.agg #[.string ⟨(Lib.itoa q.num).toArray⟩,.string ⟨(Lib.itoa (q.den:Int)).toArray⟩]] w (.tuple #[.string ⟨(if zc1 q then za (sqR q)else []).toArray⟩,.bool (zc1 q)]):=by
 have hn:q.num=(q.num.toNat:Int):=by omega
 have l1:=(zw h).1
 have l2:=(zw h).2
 rw[hn]at l1
 have E1:=LH (fun w hw=>zhs q.num.toNat l1 w hw)
 have E2:=LH (fun w hw=>zhs q.den l2 w hw)
 have F:=LH (fun w hw=>zen (zm q.num.toNat:Int) (zm q.den:Int) (zjw l1) (zjw l2) (by have:=zg0 q.den_pos;omega) w hw)
 unfold zc1 sqR
 rw[hn,Int.toNat_natCast]
 generalize za (Rat.divInt (zm q.num.toNat:Int) (zm q.den:Int))=R at *
 generalize decide (zm q.num.toNat*zm q.num.toNat=q.num.toNat)=b1 at *
 generalize decide (zm q.den*zm q.den=q.den)=b2 at *
 generalize Lib.itoa (zm q.num.toNat:Int)=S1 at *
 generalize Lib.itoa (zm q.den:Int)=S2 at *
 generalize Lib.itoa (q.num.toNat:Int)=N at *
 generalize Lib.itoa (q.den:Int)=D at *
 clear hn l1 l2 h hp
 go_enter Tryz.func107,Tryz.ntmps107
 have T:=Blk.new w [.string ⟨N.toArray⟩,.string ⟨D.toArray⟩] 179
 have hQ0:Q w (w.alloc (.cells [.string ⟨N.toArray⟩,.string ⟨D.toArray⟩].toArray 179)):=(Below.refl _ w).alloc (Nat.le_refl _) _
 go_wp2_with fail
 refine cx (E1.out _ (hE.q hQ0)) fun w1 hq1=>?_
 have hQ1:=Q.trans hQ0 hq1
 have T1:=T.keep hq1 T.lt
 have c1:=T1.cell 1
 simp only[zs4,zs5]at c1
 go_wp2_with fail
 clear c1 T T1
 refine cx (E2.out _ (hE.q hQ1)) fun w2 hq2=>?_
 have hQ2:=Q.trans hQ1 hq2
 cases b1 with
 | false =>
  go_wp2
  go_ret2
  exact⟨rfl,hQ2⟩
 | true =>
  cases b2 with
  | false =>
   go_wp2
   go_ret2
   exact⟨rfl,hQ2⟩
  | true =>
   go_wp2_with fail
   refine cx (F.out _ (hE.q hQ2)) fun w3 hq3=>?_
   have hQ3:=Q.trans hQ2 hq3
   go_wp2
   go_ret2
   exact⟨rfl,hQ3⟩
end
section
open Go.RowKit Kp
open Go.Lib (decDigits)
def zF(x:Rat)(l P:Nat):Nat:=x.num.natAbs*x.num.natAbs*l*10 ^ (2*P)
def zcT(x:Rat)(l P:Nat):Nat :=
 if zm (zF x l P)*zm (zF x l P)=zF x l P∧zm (zF x l P) % x.den=0 then zm (zF x l P) / x.den else zm (zF x l P) / x.den+1
def zbx(x:Rat)(l P:Nat):Int:=if 0≤x.num then((zm (zF x l P) / x.den:Nat):Int)else -((zcT x l P:Nat):Int)
theorem zeo(q:Rat):(-q).num = -q.num:=rfl
theorem zgF(q:Rat):(-q).den=q.den:=rfl
theorem zkH{x:Rat}(h:0≤x.num)(l P:Nat):zbx x l P=((zm (zF x l P) / x.den:Nat):Int):=if_pos h
theorem zpB{x:Rat}(h:x.num<0)(l P:Nat):zbx x l P = -((zcT x l P:Nat):Int):=if_neg (by omega)
theorem ziT{a b:Nat}:a*a≤b*b ↔ a≤b:=Nat.mul_self_le_mul_self_iff
theorem ziS{a b:Nat}:a*a<b*b ↔ a<b:=Nat.mul_self_lt_mul_self_iff
theorem zr9(x:Rat)(l P:Nat):(zm (zF x l P) / x.den*x.den)*(zm (zF x l P) / x.den*x.den)≤zF x l P∧zF x l P<((zm (zF x l P) / x.den+1)*x.den)*((zm (zF x l P) / x.den+1)*x.den):=by
 obtain⟨h1,h2⟩:=zcf (zF x l P)
 have hd:=x.den_pos
 generalize zF x l P=S at *
 generalize zm S=r at *
 have h3:=Nat.div_mul_le_self r x.den
 have h4:r+1≤(r / x.den+1)*x.den:=by
  have:=Nat.div_add_mod r x.den
  have:=Nat.mod_lt r hd
  rw[Nat.add_mul,Nat.mul_comm (r / x.den),Nat.one_mul];omega
 exact⟨Nat.le_trans (ziT.2 h3) h1,Nat.lt_of_lt_of_le h2 (ziT.2 h4)⟩
theorem zr8(x:Rat)(l P:Nat)(hS:0<zF x l P):zF x l P≤(zcT x l P*x.den)*(zcT x l P*x.den)∧0<zcT x l P∧((zcT x l P - 1)*x.den)*((zcT x l P - 1)*x.den)<zF x l P:=by
 unfold zcT
 obtain⟨h1,h2⟩:=zcf (zF x l P)
 have hd:=x.den_pos
 generalize zF x l P=S at *
 generalize zm S=r at *
 have h5:=Nat.div_add_mod r x.den
 have h6:=Nat.mod_lt r hd
 have hr:0<r:=by
  rcases Nat.eq_zero_or_pos r with h0 | h0
  ·subst h0;omega
  ·exact h0
 generalize r / x.den=q at *
 generalize x.den=d at *
 rw[Nat.mul_comm d q]at h5
 split
 ·next h =>
  have he:r=q*d:=by omega
  have hq:0<q:=by
   rcases Nat.eq_zero_or_pos q with h0 | h0
   ·subst h0;omega
   ·exact h0
  refine⟨by rw[← he];omega,hq,?_⟩
  have:(q - 1)*d<r:=by
   rw[he];exact Nat.mul_lt_mul_of_pos_right (by omega) hd
  have:=ziS.2 this
  omega
 ·next h =>
  have h4:r+1≤(q+1)*d:=by rw[Nat.add_mul,Nat.one_mul];omega
  refine⟨by have:=ziT.2 h4;omega,by omega,?_⟩
  rw[Nat.add_sub_cancel]
  by_cases hm:r % d=0
  ·have he:r=q*d:=by omega
   rw[← he]
   have:r*r≠S:=fun e=>h ⟨e,hm⟩
   omega
  ·have:=ziS.2 (show q*d<r by omega)
   omega
def zbC:List (Rat × Nat)→Nat→Int
 | [],_=>0
 | t::r,P=>zbx t.1 t.2 P+zbC r P
def zc3(n:Nat)(F:Int)(last:Bool):Option Int:=if 0<F then some 1 else if F+n<0∨(F+n=0∧last=true)then some (-1)else none
def ztl(a b c:Option Int):Option Int:=match a with
 | some k=>some k
 | none=>match b with
  | some k=>some k
  | none=>c
def zk3(ts:List (Rat × Nat)):Option Int :=
 if ts=[]then some 0 else ztl (zc3 ts.length (zbC ts 4) false) (zc3 ts.length (zbC ts 16) false) (zc3 ts.length (zbC ts 64) true)
theorem zpC{x:Rat}{l P:Nat}(hx:x.num≠0)(hl:0<l):0<zF x l P:=by
 unfold zF
 exact Nat.mul_pos (Nat.mul_pos (Nat.mul_pos (by omega) (by omega)) hl) (Nat.pow_pos (by decide))
def sqN(x:Rat)(l:Nat):Nat:=x.num.natAbs*x.num.natAbs*l
theorem zrz(x y:Rat)(l m P:Nat)(hx:0<x.num)(hy:0<y.num):zbC [(x,l),(-y,m)] P=((zm (zF x l P) / x.den:Nat):Int) - (zcT (-y) m P:Nat)∧zbC [(-y,m),(x,l)] P=((zm (zF x l P) / x.den:Nat):Int) - (zcT (-y) m P:Nat):=by
 have h1:zbx x l P=((zm (zF x l P) / x.den:Nat):Int):=by unfold zbx;rw[if_pos (by omega)]
 have h2:zbx (-y) m P = -((zcT (-y) m P:Nat):Int):=by unfold zbx;rw[if_neg (by rw[zeo];omega)]
 simp only[zbC,h1,h2]
 omega
end
section
open Go.RowKit Kp
open Go.Lib (decDigits)
theorem zez{z:Int}{k:Nat}(hk:0<k):(Rat.divInt z k).den≤k:=by
 obtain⟨-,e2⟩:=zcg z k hk
 have:((Rat.divInt z k).den:Int)≤k:=by
  rw[e2]
  have h1:(0:Int)≤((k:Nat):Int):=by omega
  first
   | exact Int.ediv_le_self _ h1
   | (rw[Int.tdiv_eq_ediv_of_nonneg h1];exact Int.ediv_le_self _ h1)
 omega
theorem zba(x:Rat):x*(x.den:Rat)=(x.num:Rat):=by
 have hd:(x.den:Rat)≠0:=nat_ne x.den_pos
 have h:(x.num:Rat) / (x.den:Rat)=x:=by
  conv=>rhs;rw[← Rat.num_divInt_den x,Rat.divInt_eq_div]
  rfl
 conv=>lhs;lhs;rw[← h]
 exact Rat.div_mul_cancel hd
theorem zsy(x:Rat)(l:Nat):((sqN x l:Nat):Rat)=x*x*(l:Rat)*((x.den:Rat)*(x.den:Rat)):=by
 have h:=zba x
 have h2:((x.num.natAbs*x.num.natAbs:Nat):Rat)=(x.num:Rat)*(x.num:Rat):=by
  rw[← Rat.intCast_mul,← Int.natAbs_mul_self (a:=x.num)];rfl
 unfold sqN
 rw[Rat.natCast_mul,h2,← h]
 grind
end
section
open Go.RowKit Kp
open Go.Lib (decDigits)
def zf1(low high:Rat × Nat):Rat × Nat:=(low.1+high.1*sqR ((high.2:Rat) / (low.2:Rat)),low.2)
def zdb:List (Rat × Nat)→Rat × Nat→List (Rat × Nat)
 | [],t=>[t]
 | c::r,t=>if zc1 ((t.2:Rat) / (c.2:Rat))then(if t.2<c.2 then zf1 t c else zf1 c t)::r else c::zdb r t
def zcN(cs:List (Rat × Nat)):List (Rat × Nat):=cs.filter fun c=>decide (c.1≠0)
def zeP:List (Rat × Nat)→List (Rat × Nat)
 | [a,b]=>if b.2<a.2 then [b,a]else [a,b]
 | l=>l
theorem zkp{l m:Nat}(hl:0<l)(hm:0<m):0<((m:Rat) / (l:Rat)).num∧(l:Rat) / (m:Rat)=1 / ((m:Rat) / (l:Rat)):=by
 constructor
 ·rw[← Rat.div_is,Rat.num_natCast,Rat.num_natCast,Rat.den_natCast,Rat.den_natCast]
  have:=zb1 (z:=(m:Int)) (k:=l) (by omega) hl
  simpa using this
 ·have h1:=nat_ne hl
  have h2:=nat_ne hm
  generalize (l:Rat)=a at *
  generalize (m:Rat)=b at *
  grind
theorem zoi{l m:Nat}(hl:0<l)(hm:0<m)(h:zc1 ((m:Rat) / (l:Rat))=true):zc1 ((l:Rat) / (m:Rat))=true:=by
 obtain⟨h1,h2⟩:=zkp hl hm
 rw[h2]
 generalize (m:Rat) / (l:Rat)=q at *
 obtain⟨e1,e2⟩:=zjx q h1
 unfold zc1 at h ⊢
 rw[e1,e2,Int.toNat_natCast,Bool.and_comm]
 exact h
theorem zs7{q:Rat}(h:zc1 q=true)(hp:0≤q.num):sqR q*sqR q=q:=by
 unfold zc1 at h
 rw[Bool.and_eq_true,decide_eq_true_eq,decide_eq_true_eq]at h
 unfold sqR
 rw[Rat.divInt_mul_divInt,← Int.natCast_mul,← Int.natCast_mul,h.1,h.2,Int.toNat_of_nonneg hp]
 exact Rat.num_divInt_den q
theorem zs6{q:Rat}(hp:0<q.num):0<(sqR q).num:=by
 unfold sqR
 exact zb1 (by have:=zg0 (n:=q.num.toNat) (by omega);omega) (zg0 q.den_pos)
theorem ziE{n b:Nat}(h:n<b*b):zm n<b:=by
 have:=(zcf n).1
 exact ziS.1 (by omega)
theorem zti{l m n:Nat}(hl:0<l)(hl1:l<10 ^ n)(hm:m<10 ^ n):Bd n ((m:Rat) / (l:Rat)):=by
 rw[← Rat.div_is,Rat.num_natCast,Rat.num_natCast,Rat.den_natCast,Rat.den_natCast,show (m:Int)*((1:Nat):Int)=m by simp,show (l:Int)*((1:Nat):Int)=l by simp]
 exact zdv hl (by rw[Int.natAbs_natCast];exact hm) hl1
theorem zt4{q:Rat}{n:Nat}(h:Bd (n+n) q):Bd n (sqR q):=by
 unfold sqR
 have h1:=h.1
 have h2:=h.2
 rw[Nat.pow_add]at h1 h2
 exact zdv (zg0 q.den_pos) (by rw[Int.natAbs_natCast];exact ziE (by omega)) (ziE h2)
end
section
open Go.RowKit Kp
open Go.Lib (decDigits)
def zcx(l:List (Str × Str)):List Value:=l.flatMap fun p=>[.string ⟨p.1.toArray⟩,.string ⟨p.2.toArray⟩]
theorem zrG:zcx []=[]:=rfl
theorem zdi(p:Str × Str)(l:List (Str × Str)):zcx (p::l)=.string ⟨p.1.toArray⟩::.string ⟨p.2.toArray⟩::zcx l:=rfl
theorem zgA(l:List (Str × Str)):(zcx l).length=l.length*2:=by
 induction l with
 | nil=>rfl
 | cons p l ih=>rw[zdi];simp only[List.length_cons,ih];omega
theorem ziz(a b:List (Str × Str)):zcx (a++b)=zcx a++zcx b:=by unfold zcx;rw[List.flatMap_append]
theorem zgB:∀ (l:List (Str × Str)) (i:Nat),i<l.length→(zcx l)[i*2]? = some (.string ⟨(l.getD i ([],[])).1.toArray⟩)∧(zcx l)[i*2+1]? = some (.string ⟨(l.getD i ([],[])).2.toArray⟩)
 | [],i,h=>absurd h (by simp)
 | p::l,0,_=>⟨rfl,rfl⟩
 | p::l,i+1,h=>by
  have:=zgB l i (by simpa using h)
  rw[zdi,show (i+1)*2=i*2+2 by omega,show i*2+2+1=i*2+1+2 by omega]
  simpa using this
theorem zk6:∀ (l:List (Str × Str)) (i:Nat) (p:Str × Str),((zcx l).set (i*2) (.string ⟨p.1.toArray⟩)).set (i*2+1) (.string ⟨p.2.toArray⟩)=zcx (l.set i p)
 | [],i,p=>by simp[zrG]
 | q::l,0,p=>by rw[List.set_cons_zero,zdi,zdi];rfl
 | q::l,i+1,p=>by
  have:=zk6 l i p
  rw[List.set_cons_succ,zdi,zdi,show (i+1)*2=i*2+2 by omega,show i*2+2+1=i*2+1+2 by omega,← this]
  rfl
theorem zgz:∀ (l:List (Str × Str)),∀ u∈zcx l,u.oneCell'=true
 | [],u,h=>by cases h
 | p::l,u,h=>by
  rw[zdi,List.mem_cons,List.mem_cons]at h
  rcases h with rfl | rfl | h
  ·rfl
  ·rfl
  ·exact zgz l u h
def TSl(w:World)(B:Nat)(v:Value)(l:List (Str × Str)):Prop :=
 ∃ a cap,v=.slice a l.length cap∧B≤w.heap.size∧∀ i,i<l.length→∃ b o,a=some ⟨b,o,none⟩∧b<B ∧
  w.cell? ⟨b,o+i*2,none⟩=some (.string ⟨(l.getD i ([],[])).1.toArray⟩)∧w.cell? ⟨b,o+i*2+1,none⟩=some (.string ⟨(l.getD i ([],[])).2.toArray⟩)
theorem TSl.keep{w w':World}{B B':Nat}{v:Value}{l:List (Str × Str)}(h:TSl w B v l)(hb:Below B' w w')(hB:B≤B'):TSl w' B v l:=by
 obtain⟨a,cap,rfl,hs,hc⟩:=h
 refine⟨a,cap,rfl,Nat.le_trans hs hb.size,fun i hi=>?_⟩
 obtain⟨b,o,ha,hbb,c0,c1⟩:=hc i hi
 exact⟨b,o,ha,hbb,(hb.cell (p:=⟨b,o+i*2,none⟩) (show b<B' by omega)).trans c0,(hb.cell (p:=⟨b,o+i*2+1,none⟩) (show b<B' by omega)).trans c1⟩
theorem TSl.of_row{w:World}{base:Nat}{t:TypeId}{v:Value}{l:List (Str × Str)}(h:w.ownsRow base t 2 v l.length (zcx l)):TSl w w.heap.size v l:=by
 rcases Nat.eq_zero_or_pos l.length with h0 | h0
 ·rcases h.2 with⟨hv,_⟩|⟨g,cap,cur,hv,_,hg,_⟩
  ·exact⟨none,0,by rw[hv,h0],Nat.le_refl _,fun i hi=>by omega⟩
  ·exact⟨some ⟨g,0,none⟩,cap,hv,Nat.le_refl _,fun i hi=>by omega⟩
 ·obtain⟨g,cap,rfl,hb,hg⟩:=h.form h0
  refine⟨_,cap,rfl,Nat.le_refl _,fun i hi=>⟨g,0,rfl,hg,?_,?_⟩⟩
  ·rw[h.cellAt _ (by omega),Nat.zero_add];exact(zgB l i hi).1
  ·rw[h.cellAt _ (by omega),Nat.zero_add];exact(zgB l i hi).2
def ofT(t:Rat × Rat):Str × Str:=(za t.1,za t.2)
def ofC(c:Rat × Nat):Str × Str:=(za c.1,Lib.itoa (c.2:Int))
def zn2(w:World)(G:Nat)(cs:List (Rat × Nat)):Prop :=
 ∃ v,Blk w G [v] 75∧(cs=[]→v=.slice none 0 0)∧w.ownsRow (G+1) 79 2 v (cs.map ofC).length (zcx (cs.map ofC))
theorem zn2.keep{w w':World}{G:Nat}{cs:List (Rat × Nat)}(h:zn2 w G cs)(hq:Q w w'):zn2 w' G cs:=by
 obtain⟨v,h1,h2,h3⟩:=h
 exact⟨v,h1.keep hq h1.lt,h2,zl h3 hq⟩
theorem zn2.start{w:World}{G:Nat}(h:Blk w G [.slice none 0 0] 75):zn2 w G []:=⟨_,h,fun _=>rfl,World.ownsRow_nil _ _ _ _⟩
def CB(c:Rat × Nat):Prop:=Bd 80 c.1∧0<c.2∧c.2<10 ^ 80
theorem CB.root{c:Rat × Nat}(h:CB c):Bd 80 (c.2:Rat):=⟨by rw[Rat.num_natCast,Int.natAbs_natCast];exact h.2.2,by rw[Rat.den_natCast];exact by decide⟩
end
section
open Go.RowKit Kp
open Go.Lib (decDigits)
theorem zca.two{w:World}{b:Nat}{s1 s2:Str}{t:TypeId}(h:Blk w b [.string ⟨s1.toArray⟩,.string ⟨s2.toArray⟩] t):zca w (.slice (some ⟨b,0,none⟩) 2 2) [s1,s2]:=by
 refine⟨b,0,2,rfl,h.lt,?_⟩
 intro i hi
 rcases(show i=0∨i=1 by simp at hi;omega)with rfl | rfl
 ·exact h.cell 0
 ·exact h.cell 1
theorem zqy{p q:Rat}(pq:0<q.num):p / q=Rat.divInt (p.num*q.den) ((q.num.toNat*p.den:Nat):Int):=by
 rw[← Rat.div_is,Int.natCast_mul,Int.toNat_of_nonneg (by omega)]
theorem zi8{p q:Rat}(pp:0≤p.num)(pq:0<q.num):0≤(p / q).num:=by
 rw[zqy pq]
 obtain⟨e1,-⟩:=zcg (p.num*q.den) (q.num.toNat*p.den) (Nat.mul_pos (by omega) p.den_pos)
 rw[e1]
 have h0:0≤p.num*(q.den:Int):=Int.mul_nonneg pp (by omega)
 rw[Int.tdiv_eq_ediv_of_nonneg h0]
 exact Int.ediv_nonneg h0 (Int.natCast_nonneg _)
theorem Bd.quot{m n:Nat}{p q:Rat}(hp:Bd m p)(hq:Bd n q)(pq:0<q.num):Bd (m+n) (p / q):=by
 rw[zqy pq]
 refine zdv (Nat.mul_pos (by omega) p.den_pos) (zbR hp hq) ?_
 have h1:q.num.toNat<10 ^ n:=by have:=hq.1;omega
 have:=Nat.mul_lt_mul'' h1 hp.2
 rw[Nat.add_comm,Nat.pow_add];exact this
theorem zoZ(p q:Rat)(hp:Bd 80 p)(hq:Bd 80 q)(pp:0≤p.num)(pq:0<q.num)(w:World)(hE:Env w) :
  CR 67 #[.string ⟨(za p).toArray⟩,.string ⟨(za q).toArray⟩] w (.tuple #[.string ⟨(if zc1 (p / q)then za (sqR (p / q))else []).toArray⟩,.bool (zc1 (p / q)),.int .i64 0]):=by
 have hz:(za q == [48])=false:=by
  rw[beq_eq_false_iff_ne,← zav];exact fun h=>by have:=zaR h;subst this;exact absurd pq (by decide)
 have bq:=hp.quot hq pq
 have hlq:zak (p / q)=false:=bq.zak (by decide)
 have HC:=fun v1 v2 w hw h1 h2=>zfu [p,q] [p,q] (by intro x hx;rw[List.mem_cons,List.mem_singleton]at hx;rcases hx with rfl | rfl;exact hp.root90 (by decide);exact hq.root90 (by decide)) v1 v2 w hw h1 h2 (by simp) (by simp)
 rw[if_pos (by intro x hx;rw[List.mem_cons,List.mem_singleton]at hx;rcases hx with rfl | rfl <;> omega)]at HC
 have HC:=LH HC
 have HD:=LH (fun w hw=>zbi p q hp hq (by omega) (by decide) w hw)
 have HO:=LH (fun w hw=>zhq (p / q) hlq w hw)
 have HR:=LH (fun w hw=>ziX (p / q) hlq (zi8 pp pq) w hw)
 generalize (⟨(if zc1 (p / q)then za (sqR (p / q))else []).toArray⟩:ByteArray)=A at *
 generalize zc1 (p / q)=b at *
 generalize za (p / q)=PQ at *
 generalize Lib.itoa (p / q).num=N at *
 generalize Lib.itoa ((p / q).den:Int)=D at *
 clear hp hq pp pq bq hlq
 generalize hsp:za p=P at *
 generalize hsq:za q=S at *
 go_enter Tryz.func67,Tryz.ntmps67
 go_wp2_with fail
 have B1:=((Blk.new w [.string ⟨P.toArray⟩,.string ⟨S.toArray⟩] 22).alloc (.cells #[.string ⟨P.toArray⟩,.string ⟨S.toArray⟩] 22))
 have B2:=Blk.new (w.alloc (.cells #[.string ⟨P.toArray⟩,.string ⟨S.toArray⟩] 22)) [.string ⟨P.toArray⟩,.string ⟨S.toArray⟩] 22
 have S1:=zca.two B1
 have S2:=zca.two B2
 have e2:(w.alloc (.cells #[.string ⟨P.toArray⟩,.string ⟨S.toArray⟩] 22)).heap.size=w.heap.size+1:=by simp
 rw[e2]at S2
 clear e2 B2 B1
 simp only[List.map_cons,List.map_nil,hsp,hsq]at HC
 refine(HC.out _ _ _ (hE.q bt) S1 S2).mono ?_
 clear S1 S2
 rintro e w1⟨rfl,hq1⟩
 have hQ1:Q w w1:=Q.trans (show Below w.heap.size w _ from bt) hq1
 clear hq1
 go_wp2_with fail
 refine cx (HD.out _ (hE.q hQ1)) fun w2 hq2=>?_
 have hQ2:=Q.trans hQ1 hq2
 go_wp2_with fail
 refine cx (HO.out _ (hE.q hQ2)) fun w3 hq3=>?_
 have hQ3:=Q.trans hQ2 hq3
 go_wp2_with fail
 refine cx (HR.out _ (hE.q hQ3)) fun w4 hq4=>?_
 have hQ4:=Q.trans hQ3 hq4
 go_wp2
 go_ret3
 exact⟨rfl,hQ4⟩
theorem zjZ(l m:Nat)(hl:0<l)(hl1:l<10 ^ 80)(hm:0<m)(hm1:m<10 ^ 80)(w:World)(hE:Env w) :
  CR 67 #[.string ⟨(Lib.itoa (m:Int)).toArray⟩,.string ⟨(Lib.itoa (l:Int)).toArray⟩] w (.tuple #[.string ⟨(if zc1 ((m:Rat) / (l:Rat))then za (sqR ((m:Rat) / (l:Rat)))else []).toArray⟩,.bool (zc1 ((m:Rat) / (l:Rat))),.int .i64 0]):=by
 have hb:∀ n:Nat,n<10 ^ 80→Bd 80 (n:Rat):=fun n hn=>⟨by rw[Rat.num_natCast,Int.natAbs_natCast];exact hn,by rw[Rat.den_natCast];exact by decide⟩
 have h:=zoZ (m:Rat) (l:Rat) (hb m hm1) (hb l hl1) (by rw[Rat.num_natCast];omega) (by rw[Rat.num_natCast];omega) w hE
 rw[zbf,zbf]at h
 exact h
theorem zk9(tmps:Array Value)(W:World)(b:Nat)(x y u:Value)(hp:tmps.getD 4 undef=.pointer (some ⟨b,0,none⟩))(hu:tmps.getD 5 undef=u)
  (c0:W.cell? ⟨b,0,none⟩=some x)(c1:W.cell? ⟨b,1,none⟩=some y) :
  (results Tryz.f68 tmps).run Tryz.prog W=.ok (.tuple #[.agg #[x,y],u]) W:=by
 simp only[Array.getD_eq_getD_getElem?]at hp hu
 simp[results,Tryz.results68,go_sem,hp,hu,c0,c1]
end
section
open Go.RowKit Kp
open Go.Lib (decDigits)
theorem zrq:∀ (cs:List (Rat × Nat)) (t:Rat × Nat) (k:Nat) (hk:k<cs.length),(∀ j (hj:j<k),zc1 ((t.2:Rat) / ((cs[j]'(by omega)).2:Rat))=false)→zc1 ((t.2:Rat) / ((cs[k]).2:Rat))=true →
  zdb cs t=cs.set k (if t.2<(cs[k]).2 then zf1 t cs[k]else zf1 cs[k] t)
 | [],_,_,hk,_,_=>absurd hk (by simp)
 | c::r,t,0,_,_,h=>by
  unfold zdb
  exact if_pos (show zc1 ((t.2:Rat) / (c.2:Rat))=true from h)
 | c::r,t,k+1,hk,h1,h=>by
  have h0:=h1 0 (by omega)
  simp only[List.getElem_cons_zero]at h0
  unfold zdb
  rw[if_neg (by rw[h0];decide),zrq r t k (by simpa using hk) (fun j hj=>by have:=h1 (j+1) (by omega);simpa using this) (by simpa using h)]
  rfl
theorem zoz:∀ (cs:List (Rat × Nat)) (t:Rat × Nat),(∀ j (hj:j<cs.length),zc1 ((t.2:Rat) / ((cs[j]).2:Rat))=false)→zdb cs t=cs++[t]
 | [],_,_=>rfl
 | c::r,t,h1=>by
  have h0:=h1 0 (by simp)
  simp only[List.getElem_cons_zero]at h0
  unfold zdb
  rw[if_neg (by rw[h0];decide),zoz r t (fun j hj=>by have:=h1 (j+1) (by simp;omega);simpa using this)]
  rfl
theorem zox{w:World}{G g cap k:Nat}{cs rs:List (Rat × Nat)}{p:Str × Str}(hG:Blk w G [.slice (some ⟨g,0,none⟩) cs.length cap] 75)(hr:w.ownsRow (G+1) 79 2 (.slice (some ⟨g,0,none⟩) cs.length cap) cs.length (zcx (cs.map ofC)))
  (hs:zcx (rs.map ofC)=((zcx (cs.map ofC)).set (k*2) (.string ⟨p.1.toArray⟩)).set (k*2+1) (.string ⟨p.2.toArray⟩)∧rs.length=cs.length)(hne:rs≠[])(hgG:G≠g) :
  zn2 ((w.setCell ⟨g,k*2,none⟩ (.string ⟨p.1.toArray⟩)).setCell ⟨g,k*2+1,none⟩ (.string ⟨p.2.toArray⟩)) G rs:=by
 refine⟨_,(hG.setOther (Ne.symm hgG) _ _).setOther (Ne.symm hgG) _ _,fun e=>absurd e hne,?_⟩
 rw[hs.1,List.length_map,hs.2]
 exact((hr.stored (k*2) _).1.stored (k*2+1) _).1
theorem znP{w w1:World}{G T g n cap:Nat}{o x y:Value}(hg:w.grownBy w1 (Value.slice (some ⟨g,0,none⟩) n cap).ownBlock)(hG:G<w.heap.size)(hT:T<w.heap.size)(hne:G≠T)(hGg:G≠g)(hTg:T≠g)(c:w.cell? ⟨G,0,none⟩=some o)
  (d0:w.cell? ⟨T,0,none⟩=some x)(d1:w.cell? ⟨T,1,none⟩=some y)(kf:w.frozen? ⟨G,0,none⟩=false) :
  w1.cell? ⟨G,0,none⟩=some o∧∀ v,(w1.setCell ⟨G,0,none⟩ v).cell? ⟨T,0,none⟩=some x∧(w1.setCell ⟨G,0,none⟩ v).cell? ⟨T,1,none⟩=some y∧(w1.setCell ⟨G,0,none⟩ v).frozen? ⟨G,0,none⟩=false:=by
 have n1:some G≠(Value.slice (some ⟨g,0,none⟩) n cap).ownBlock:=fun e=>hGg (Option.some.inj e)
 have n2:some T≠(Value.slice (some ⟨g,0,none⟩) n cap).ownBlock:=fun e=>hTg (Option.some.inj e)
 refine⟨(hg.cell_far ⟨G,0,none⟩ hG n1).trans c,fun v=>⟨?_,?_,?_⟩⟩
 ·exact(World.cell?_setCell_other w1 ⟨G,0,none⟩ ⟨T,0,none⟩ v (by intro h;exact hne (congrArg Addr.block h))).trans ((hg.cell_far ⟨T,0,none⟩ hT n2).trans d0)
 ·exact(World.cell?_setCell_other w1 ⟨G,0,none⟩ ⟨T,1,none⟩ v (by simp)).trans ((hg.cell_far ⟨T,1,none⟩ hT n2).trans d1)
 ·rw[World.frozen?_setCell];exact(hg.frozen_far ⟨G,0,none⟩ hG n1).trans kf
theorem zpP{w W w1:World}{G g n cap g4 cap4:Nat}{s1 s2:Str}{xs:List Value}{rs:List (Rat × Nat)}(hG:Blk W G [.slice (some ⟨g,0,none⟩) n cap] 75)(hgrow:W.drew.grownBy w1 (Value.slice (some ⟨g,0,none⟩) n cap).ownBlock)
  (hown:w1.ownsRow (G+1) 79 2 (.slice (some ⟨g4,0,none⟩) (n+1) cap4) (n+1) (xs++[.string ⟨s1.toArray⟩,.string ⟨s2.toArray⟩]))(hB:Below G w W.drew)(hl:G<W.drew.heap.size)(hGg:G<g)
  (hr:zcx (rs.map ofC)=xs++[.string ⟨s1.toArray⟩,.string ⟨s2.toArray⟩]∧rs.length=n+1)(hne:rs≠[]) :
  Below G w (w1.setCell ⟨G,0,none⟩ (.slice (some ⟨g4,0,none⟩) (n+1) cap4))∧zn2 (w1.setCell ⟨G,0,none⟩ (.slice (some ⟨g4,0,none⟩) (n+1) cap4)) G rs:=by
 have n1:some G≠(Value.slice (some ⟨g,0,none⟩) n cap).ownBlock:=fun e=>by
  have:=Option.some.inj e
  simp only at this;omega
 have bG:Blk w1 G [.slice (some ⟨g,0,none⟩) n cap] 75:=(hgrow.block G hl n1).trans hG
 have hb2:Below G w w1:=hB.grown hgrow (Nat.le_of_lt hl) (fun k hk=>by cases hk;exact Nat.le_of_lt hGg)
 refine⟨hb2.setCell (p:=⟨G,0,none⟩) (Nat.le_refl _) _,_,bG.set 0 _,fun e=>absurd e hne,?_⟩
 rw[hr.1,List.length_map,hr.2]
 exact ownsRow_setCell_below hown (by simp) _
theorem zgW{n:Nat}(h:n<10 ^ 80):lim (n:Int)=false:=zaO (n:=80) (by rw[Int.natAbs_natCast];exact h) (by decide)
end
section
open Go.RowKit Kp
open Go.Lib (decDigits)
theorem zoA:∀ (cs:List (Rat × Nat)) (t:Rat × Nat),(zdb cs t).length≤cs.length+1
 | [],_=>by simp[zdb]
 | c::r,t=>by
  unfold zdb
  have:=zoA r t
  split <;> simp <;> omega
structure VT (t:Rat × Rat):Prop where
 ne:t.1≠0
 c:Bd 80 t.1
 pos:0<t.2.num
 r:Bd 40 t.2
 cb:CB (t.1*aOf t.2,leftOf t.2)
theorem zde:leftOf 1=1:=by unfold leftOf;rw[show ((1:Rat)).num.toNat*((1:Rat)).den=1 from rfl,zgR]
end
end Go.Proofs.YtdecodpgdainiaaGreatDoor
