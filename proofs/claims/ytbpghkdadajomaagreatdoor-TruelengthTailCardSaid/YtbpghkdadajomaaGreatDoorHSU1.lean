/-
  RA RM RO RP RR RB RD RC, one behind the other.
-/
import Derived.Test.YtbpghkdadajomaaGreatDoorHSQ
set_option maxRecDepth 100000
set_option maxHeartbeats 4000000
namespace Go.Proofs.YtbpghkdadajomaaGreatDoor
section
open Go.RowKit Kp
open Go.Lib (decDigits)
theorem zbC(x y:Rat)(hx:zO x)(hy:zO y)(w:World) :
  Calls Tryz.prog 57 #[.string ⟨(za x).toArray⟩,.string ⟨(za y).toArray⟩] w fun e w'=>e=.returned (.tuple #[.int .i64 (Lib.compareInt (x.num*y.den) (y.num*x.den)),.int .i64 0])∧Q w w':=by
 have l1:=zbp (zO.root90 hx).zak
 have l2:=zbp (zO.root90 hy).zak
 have N1:=LH (fun w=>zC (za x) (by omega) w)
 have N2:=LH (fun w=>zC (za y) (by omega) w)
 rw[zaN hx]at N1
 rw[zaN hy]at N2
 have b1:=hx.1
 have b2:=hx.2
 have b3:=hy.1
 have b4:=hy.2
 have hd1:(0:Int)<x.den:=by have:=x.den_pos;omega
 have hd2:(0:Int)<y.den:=by have:=y.den_pos;omega
 have p1:(x.num*(y.den:Int)).natAbs<10000000000000000:=by
  rw[Int.natAbs_mul,Int.natAbs_natCast]
  have:=Nat.mul_lt_mul'' b1 b4
  omega
 have p2:(y.num*(x.den:Int)).natAbs<10000000000000000:=by
  rw[Int.natAbs_mul,Int.natAbs_natCast]
  have:=Nat.mul_lt_mul'' b3 b2
  omega
 generalize (x.den:Int)=xd at *
 generalize (y.den:Int)=yd at *
 generalize x.num=xn at *
 generalize y.num=yn at *
 generalize za x=X at *
 generalize za y=Y at *
 have q1:-10000000000000000<xn*yd:=by omega
 have q2:xn*yd<10000000000000000:=by omega
 have q3:-10000000000000000<yn*xd:=by omega
 have q4:yn*xd<10000000000000000:=by omega
 clear p1 p2 b1 b2 b3 b4 hx hy l1 l2
 go_enter Tryz.func57,Tryz.ntmps57
 go_wp2_with fail
 refine(N1.out _).mono ?_
 rintro e w1⟨rfl,hq1⟩
 go_wp2_with fail
 refine(N2.out _).mono ?_
 rintro e w2⟨rfl,hq2⟩
 have hQ2:Q w w2:=Q.trans hq1 (Q.trans ((Below.refl _ w1).alloc (Nat.le_refl _) _) hq2)
 have B1:=(Blk.new w1 [.int .i64 xn,.int .i64 xd] 103).keep hq2 (by simp)
 have l1:=B1.lt
 have c0:=B1.cell 0
 have c1:=B1.cell 1
 simp only[zs4,zs5]at c0 c1
 go_wp2_with fail
 refine(Tryz.cmp_Compare_int _ _ _).mono ?_
 rintro e w3⟨rfl,rfl⟩
 go_wp2
 go_ret2
 exact⟨rfl,hQ2.alloc hQ2.size _⟩
theorem zeU(x y:Rat)(hx:zak x=false)(hy:zak y=false)(hs:¬ (zO x∧zO y))(h1:lim (x.num*y.den)=false)(h2:lim (y.num*(x.den:Int))=false)(w:World)(hE:Env w) :
  Calls Tryz.prog 57 #[.string ⟨(za x).toArray⟩,.string ⟨(za y).toArray⟩] w fun e w'=>e=.returned (.tuple #[.int .i64 (Lib.compareInt (x.num*y.den) (y.num*x.den)),.int .i64 0])∧Q w w':=by
 have l1:=zbp hx
 have l2:=zbp hy
 have hor:=zch hs
 have N1:=LH (fun w=>zC (za x) (by omega) w)
 have N2:=LH (fun w=>zC (za y) (by omega) w)
 have R1:=LH (fun w hw=>zal x hx w hw)
 have R2:=LH (fun w hw=>zal y hy w hw)
 have C:=LH (fun w hw=>zb1 x.num (x.den:Int) y.num (y.den:Int) (zA hx).1 (zA hx).2 (zA hy).1 (zA hy).2 h1 h2 w hw)
 have K:=LH (fun w=>za1 (x.num*y.den) (y.num*(x.den:Int)) h1 h2 w)
 clear hx hy hs h1 h2 l1 l2
 generalize Lib.compareInt (x.num*y.den) (y.num*(x.den:Int))=ans at *
 cases hn:zcs (za x)with
 | none =>
  rw[zdf hn]at N1
  clear hn hor N2
  generalize Lib.itoa x.num=XN at *
  generalize Lib.itoa (x.den:Int)=XD at *
  generalize Lib.itoa y.num=YN at *
  generalize Lib.itoa (y.den:Int)=YD at *
  go_enter Tryz.func57,Tryz.ntmps57
  go_wp2_with fail
  refine(N1.out _).mono ?_
  rintro e w1⟨rfl,hq1⟩
  have hQ1:=hq1.alloc hq1.size (.cells #[.int .i64 0,.int .i64 0] 103)
  go_wp2_with fail
  refine(R1.out _ (hE.q hQ1)).mono ?_
  rintro e w2⟨rfl,hq2⟩
  have hQ2:=Q.trans hQ1 hq2
  have hQ2':=hQ2.alloc hQ2.size (.cells #[.string ⟨XN.toArray⟩,.string ⟨XD.toArray⟩] 110)
  have X0:=Blk.new w2 [.string ⟨XN.toArray⟩,.string ⟨XD.toArray⟩] 110
  go_wp2_with fail
  refine(R2.out _ (hE.q hQ2')).mono ?_
  rintro e w3⟨rfl,hq3⟩
  have hQ3:=Q.trans hQ2' hq3
  have hQ3':=hQ3.alloc hQ3.size (.cells #[.string ⟨YN.toArray⟩,.string ⟨YD.toArray⟩] 110)
  have X1:=X0.keep hq3 X0.lt
  have c0:=X1.cell 0
  have c1:=X1.cell 1
  have lx:=X1.lt
  simp only[zs4,zs5]at c0 c1
  go_wp2_with fail
  refine(C.out _ (hE.q hQ3')).mono ?_
  rintro e w4⟨rfl,hq4⟩
  have hQ4:=Q.trans hQ3' hq4
  clear c0 c1 lx X0 X1
  go_wp2_with fail
  refine(K.out _).mono ?_
  rintro e w5⟨rfl,hq5⟩
  have hQ5:=Q.trans hQ4 hq5
  go_wp2
  go_ret2
  exact⟨rfl,hQ5⟩
 | some nd =>
  obtain⟨n,d⟩:=nd
  rw[zeq hn]at N1
  have hy2:zcs (za y)=none:=by
   rcases hor with h | h
   ·rw[h]at hn;cases hn
   ·exact h
  rw[zdf hy2]at N2
  clear hn hor hy2
  generalize Lib.itoa x.num=XN at *
  generalize Lib.itoa (x.den:Int)=XD at *
  generalize Lib.itoa y.num=YN at *
  generalize Lib.itoa (y.den:Int)=YD at *
  go_enter Tryz.func57,Tryz.ntmps57
  go_wp2_with fail
  refine(N1.out _).mono ?_
  rintro e w1⟨rfl,hq1⟩
  have hQ1:=hq1.alloc hq1.size (.cells #[.int .i64 n,.int .i64 d] 103)
  go_wp2_with fail
  refine(N2.out _).mono ?_
  rintro e w2⟨rfl,hq2⟩
  have hQ2:=Q.trans hQ1 hq2
  have hQ2':=hQ2.alloc hQ2.size (.cells #[.int .i64 0,.int .i64 0] 103)
  go_wp2_with fail
  refine(R1.out _ (hE.q hQ2')).mono ?_
  rintro e w3⟨rfl,hq3⟩
  have hQ3:=Q.trans hQ2' hq3
  have hQ3':=hQ3.alloc hQ3.size (.cells #[.string ⟨XN.toArray⟩,.string ⟨XD.toArray⟩] 110)
  have X0:=Blk.new w3 [.string ⟨XN.toArray⟩,.string ⟨XD.toArray⟩] 110
  go_wp2_with fail
  refine(R2.out _ (hE.q hQ3')).mono ?_
  rintro e w4⟨rfl,hq4⟩
  have hQ4:=Q.trans hQ3' hq4
  have hQ4':=hQ4.alloc hQ4.size (.cells #[.string ⟨YN.toArray⟩,.string ⟨YD.toArray⟩] 110)
  have X1:=X0.keep hq4 X0.lt
  have c0:=X1.cell 0
  have c1:=X1.cell 1
  have lx:=X1.lt
  simp only[zs4,zs5]at c0 c1
  go_wp2_with fail
  refine(C.out _ (hE.q hQ4')).mono ?_
  rintro e w5⟨rfl,hq5⟩
  have hQ5:=Q.trans hQ4' hq5
  clear c0 c1 lx X0 X1
  go_wp2_with fail
  refine(K.out _).mono ?_
  rintro e w6⟨rfl,hq6⟩
  have hQ6:=Q.trans hQ5 hq6
  go_wp2
  go_ret2
  exact⟨rfl,hQ6⟩
theorem zhU(x y:Rat)(hx:zak x=false)(hy:zak y=false)(h1:lim (x.num*y.den)=false)(h2:lim (y.num*(x.den:Int))=false)(w:World)(hE:Env w) :
  Calls Tryz.prog 57 #[.string ⟨(za x).toArray⟩,.string ⟨(za y).toArray⟩] w fun e w'=>e=.returned (.tuple #[.int .i64 (Lib.compareInt (x.num*y.den) (y.num*x.den)),.int .i64 0])∧Q w w':=by
 by_cases hs:zO x∧zO y
 ·exact zbC x y hs.1 hs.2 w
 ·exact zeU x y hx hy hs h1 h2 w hE
theorem zbY(l m:Nat)(hl:lim (l:Int)=false)(hm:lim (m:Int)=false)(w:World)(hE:Env w) :
  Calls Tryz.prog 57 #[.string ⟨(Lib.itoa (l:Int)).toArray⟩,.string ⟨(Lib.itoa (m:Int)).toArray⟩] w fun e w'=>e=.returned (.tuple #[.int .i64 (Lib.compareInt l m),.int .i64 0])∧Q w w':=by
 have hr:∀ n:Nat,lim (n:Int)=false→zak (n:Rat)=false:=fun n hn=>by unfold zak;rw[Rat.num_natCast,Rat.den_natCast,hn];exact zdh
 have h:=zhU (l:Rat) (m:Rat) (hr l hl) (hr m hm) (by rw[Rat.num_natCast,Rat.den_natCast];simpa using hl) (by rw[Rat.num_natCast,Rat.den_natCast];simpa using hm) w hE
 rw[zT,zT,Rat.num_natCast,Rat.num_natCast,Rat.den_natCast,Rat.den_natCast,show ((1:Nat):Int)=1 from rfl,Int.mul_one,Int.mul_one]at h
 exact h
def zfD(q:Rat):Bool:=decide (zl q.num.toNat*zl q.num.toNat=q.num.toNat) && decide (zl q.den*zl q.den=q.den)
def sqR(q:Rat):Rat:=Rat.divInt (zl q.num.toNat:Int) (zl q.den:Int)
theorem zgG{n:Nat}(h:0<n):0<zl n:=by
 have:=(zby n).2
 rcases Nat.eq_zero_or_pos (zl n)with h0 | h0
 ·rw[h0]at this;omega
 ·exact h0
theorem ziR{n:Nat}(h:lim (n:Int)=false):lim (zl n:Int)=false:=zcX h (by have:=zgI n;omega)
theorem zmo(q:Rat)(h:zak q=false)(hp:0≤q.num)(w:World)(hE:Env w) :
  Calls Tryz.prog 152 #[.agg #[.string ⟨(Lib.itoa q.num).toArray⟩,.string ⟨(Lib.itoa (q.den:Int)).toArray⟩]] w fun e w'=>e=.returned (.tuple #[.string ⟨(if zfD q then za (sqR q)else []).toArray⟩,.bool (zfD q)])∧Q w w':=by
 have hn:q.num=(q.num.toNat:Int):=by omega
 have l1:=(zA h).1
 have l2:=(zA h).2
 rw[hn]at l1
 have E1:=LH (fun w hw=>zg6 q.num.toNat l1 w hw)
 have E2:=LH (fun w hw=>zg6 q.den l2 w hw)
 have F:=LH (fun w hw=>zeh (zl q.num.toNat:Int) (zl q.den:Int) (ziR l1) (ziR l2) (by have:=zgG q.den_pos;omega) w hw)
 unfold zfD sqR
 rw[hn,Int.toNat_natCast]
 generalize za (Rat.divInt (zl q.num.toNat:Int) (zl q.den:Int))=R at *
 generalize decide (zl q.num.toNat*zl q.num.toNat=q.num.toNat)=b1 at *
 generalize decide (zl q.den*zl q.den=q.den)=b2 at *
 generalize Lib.itoa (zl q.num.toNat:Int)=S1 at *
 generalize Lib.itoa (zl q.den:Int)=S2 at *
 generalize Lib.itoa (q.num.toNat:Int)=N at *
 generalize Lib.itoa (q.den:Int)=D at *
 clear hn l1 l2 h hp
 go_enter Tryz.func152,Tryz.ntmps152
 have T:=Blk.new w [.string ⟨N.toArray⟩,.string ⟨D.toArray⟩] 221
 have hQ0:Q w (w.alloc (.cells [.string ⟨N.toArray⟩,.string ⟨D.toArray⟩].toArray 221)):=(Below.refl _ w).alloc (Nat.le_refl _) _
 go_wp2_with fail
 refine(E1.out _ (hE.q hQ0)).mono ?_
 rintro e w1⟨rfl,hq1⟩
 have hQ1:=Q.trans hQ0 hq1
 have T1:=T.keep hq1 T.lt
 have c1:=T1.cell 1
 simp only[zs4,zs5]at c1
 go_wp2_with fail
 clear c1 T T1
 refine(E2.out _ (hE.q hQ1)).mono ?_
 rintro e w2⟨rfl,hq2⟩
 have hQ2:=Q.trans hQ1 hq2
 cases b1 with
 | false =>
  go_wp2
  go_ret2
  exact⟨rfl,hQ2⟩
 | true =>
  cases b2 with
  | false =>
   go_wp2
   go_ret2
   exact⟨rfl,hQ2⟩
  | true =>
   go_wp2_with fail
   refine(F.out _ (hE.q hQ2)).mono ?_
   rintro e w3⟨rfl,hq3⟩
   have hQ3:=Q.trans hQ2 hq3
   go_wp2
   go_ret2
   exact⟨rfl,hQ3⟩
end
section
open Go.RowKit Kp
open Go.Lib (decDigits)
def zy(x:Rat)(l P:Nat):Nat:=x.num.natAbs*x.num.natAbs*l*10 ^ (2*P)
def zbc(x:Rat)(l P:Nat):Nat :=
 if zl (zy x l P)*zl (zy x l P)=zy x l P∧zl (zy x l P) % x.den=0 then zl (zy x l P) / x.den else zl (zy x l P) / x.den+1
def zbZ(x:Rat)(l P:Nat):Int:=if 0≤x.num then((zl (zy x l P) / x.den:Nat):Int)else -((zbc x l P:Nat):Int)
theorem zbq(q:Rat):(-q).num = -q.num:=rfl
theorem zh6(q:Rat):(-q).den=q.den:=rfl
theorem zhp{x:Rat}(h:0≤x.num)(l P:Nat):zbZ x l P=((zl (zy x l P) / x.den:Nat):Int):=if_pos h
theorem zd9{x:Rat}(h:x.num<0)(l P:Nat):zbZ x l P = -((zbc x l P:Nat):Int):=if_neg (by omega)
theorem zdb{a b:Nat}:a*a≤b*b ↔ a≤b:=Nat.mul_self_le_mul_self_iff
theorem zcH{a b:Nat}:a*a<b*b ↔ a<b:=Nat.mul_self_lt_mul_self_iff
theorem zqY(x:Rat)(l P:Nat):(zl (zy x l P) / x.den*x.den)*(zl (zy x l P) / x.den*x.den)≤zy x l P∧zy x l P<((zl (zy x l P) / x.den+1)*x.den)*((zl (zy x l P) / x.den+1)*x.den):=by
 obtain⟨h1,h2⟩:=zby (zy x l P)
 have hd:=x.den_pos
 generalize zy x l P=S at *
 generalize zl S=r at *
 have h3:=Nat.div_mul_le_self r x.den
 have h4:r+1≤(r / x.den+1)*x.den:=by
  have:=Nat.div_add_mod r x.den
  have:=Nat.mod_lt r hd
  rw[Nat.add_mul,Nat.mul_comm (r / x.den),Nat.one_mul];omega
 exact⟨Nat.le_trans (zdb.2 h3) h1,Nat.lt_of_lt_of_le h2 (zdb.2 h4)⟩
theorem zia(x:Rat)(l P:Nat)(hS:0<zy x l P):zy x l P≤(zbc x l P*x.den)*(zbc x l P*x.den)∧0<zbc x l P∧((zbc x l P - 1)*x.den)*((zbc x l P - 1)*x.den)<zy x l P:=by
 unfold zbc
 obtain⟨h1,h2⟩:=zby (zy x l P)
 have hd:=x.den_pos
 generalize zy x l P=S at *
 generalize zl S=r at *
 have h5:=Nat.div_add_mod r x.den
 have h6:=Nat.mod_lt r hd
 have hr:0<r:=by
  rcases Nat.eq_zero_or_pos r with h0 | h0
  ·subst h0;omega
  ·exact h0
 generalize r / x.den=q at *
 generalize x.den=d at *
 rw[Nat.mul_comm d q]at h5
 split
 ·next h =>
  have he:r=q*d:=by omega
  have hq:0<q:=by
   rcases Nat.eq_zero_or_pos q with h0 | h0
   ·subst h0;omega
   ·exact h0
  refine⟨by rw[← he];omega,hq,?_⟩
  have:(q - 1)*d<r:=by
   rw[he];exact Nat.mul_lt_mul_of_pos_right (by omega) hd
  have:=zcH.2 this
  omega
 ·next h =>
  have h4:r+1≤(q+1)*d:=by rw[Nat.add_mul,Nat.one_mul];omega
  refine⟨by have:=zdb.2 h4;omega,by omega,?_⟩
  rw[Nat.add_sub_cancel]
  by_cases hm:r % d=0
  ·have he:r=q*d:=by omega
   rw[← he]
   have:r*r≠S:=fun e=>h ⟨e,hm⟩
   omega
  ·have:=zcH.2 (show q*d<r by omega)
   omega
def zbB:List (Rat × Nat)→Nat→Int
 | [],_=>0
 | t::r,P=>zbZ t.1 t.2 P+zbB r P
def zbS(n:Nat)(F:Int)(last:Bool):Option Int:=if 0<F then some 1 else if F+n<0∨(F+n=0∧last=true)then some (-1)else none
def zsw(a b c:Option Int):Option Int:=match a with
 | some k=>some k
 | none=>match b with
  | some k=>some k
  | none=>c
def zef(ts:List (Rat × Nat)):Option Int :=
 if ts=[]then some 0 else zsw (zbS ts.length (zbB ts 4) false) (zbS ts.length (zbB ts 16) false) (zbS ts.length (zbB ts 64) true)
theorem zgg{ts:List (Rat × Nat)}{σ:Int}(hne:ts≠[])(h1:∀ P b,P=4∨P=16∨P=64→zbS ts.length (zbB ts P) b=none∨zbS ts.length (zbB ts P) b=some σ)(h2:zbS ts.length (zbB ts 64) true=some σ):zef ts=some σ:=by
 unfold zef
 rw[if_neg hne]
 rcases h1 4 false (.inl rfl)with h | h
 ·rw[h]
  rcases h1 16 false (.inr (.inl rfl))with h | h
  ·rw[h];exact h2
  ·rw[h];rfl
 ·rw[h];rfl
theorem zfl{x:Rat}{l P:Nat}(hx:x.num≠0)(hl:0<l):0<zy x l P:=by
 unfold zy
 exact Nat.mul_pos (Nat.mul_pos (Nat.mul_pos (by omega) (by omega)) hl) (Nat.pow_pos (by decide))
theorem zl0{x:Rat}{l P:Nat}(hx:x.num≠0)(hl:0<l):10 ^ P≤zl (zy x l P):=by
 have h2:=(zby (zy x l P)).2
 have h3:10 ^ P*10 ^ P≤zy x l P:=by
  unfold zy
  rw[show 2*P=P+P by omega,Nat.pow_add]
  have:1*(10 ^ P*10 ^ P)≤x.num.natAbs*x.num.natAbs*l*(10 ^ P*10 ^ P):=Nat.mul_le_mul_right _ (Nat.mul_pos (Nat.mul_pos (by omega) (by omega)) hl)
  omega
 have:=zcH.1 (Nat.lt_of_le_of_lt h3 h2)
 omega
theorem sign_one{x:Rat}{l:Nat}(hx:x.num≠0)(hl:0<l)(hd:x.den<10 ^ 60):zef [(x,l)]=some (if 0<x.num then 1 else -1):=by
 have hs:∀ P,zbB [(x,l)] P=zbZ x l P:=fun P=>by simp[zbB]
 have h64:10000≤zl (zy x l 64) / x.den:=by
  have h1:=zl0 (P:=64) hx hl
  rw[Nat.le_div_iff_mul_le x.den_pos]
  have:10000*x.den≤10 ^ 64:=by
   have:=Nat.mul_le_mul_left 10000 (Nat.le_of_lt hd)
   exact Nat.le_trans this (by decide)
  omega
 have hU:∀ P,0<zbc x l P:=fun P=>(zia x l P (zfl hx hl)).2.1
 have hUge:zl (zy x l 64) / x.den≤zbc x l 64:=by unfold zbc;split <;> omega
 by_cases h:0<x.num
 ·rw[if_pos h]
  refine zgg (by simp) (fun P b _=>?_) ?_
  ·rw[hs,zhp (by omega)]
   unfold zbS
   generalize zl (zy x l P) / x.den=f
   by_cases h0:(0:Int)<f
   ·rw[if_pos h0];exact .inr rfl
   ·rw[if_neg h0,if_neg (by simp;omega)];exact .inl rfl
  ·rw[hs,zhp (by omega)]
   unfold zbS
   rw[if_pos (by omega)]
 ·rw[if_neg h]
  refine zgg (by simp) (fun P b _=>?_) ?_
  ·rw[hs,zd9 (by omega)]
   have:=hU P
   unfold zbS
   rw[if_neg (by omega)]
   split
   ·exact .inr rfl
   ·exact .inl rfl
  ·rw[hs,zd9 (by omega)]
   unfold zbS
   rw[if_neg (by omega),if_pos (.inl (by simp only[List.length_singleton];omega))]
theorem zsk{X Y d1 d2 f g T:Nat}(h0:0<g)(hf:X*T<((f+1)*d1)*((f+1)*d1))(hg:((g - 1)*d2)*((g - 1)*d2)<Y*T)(h:Y*(d1*d1)<X*(d2*d2))(hT:0<T):g<f+2 ∧
  (X<10 ^ 60→Y<10 ^ 60→d1<10 ^ 8→d2<10 ^ 8→T=10 ^ 128→g<f):=by
 obtain⟨h',rfl⟩:∃ h',g=h'+1:=⟨g - 1,by omega⟩
 rw[Nat.add_sub_cancel]at hg
 have hd1:0<d1:=by
  rcases Nat.eq_zero_or_pos d1 with e | e
  ·subst e;simp at hf
  ·exact e
 have hd2:0<d2:=by
  rcases Nat.eq_zero_or_pos d2 with e | e
  ·subst e;simp at h
  ·exact e
 have a1:X*T*(d2*d2)<((f+1)*d1)*((f+1)*d1)*(d2*d2):=Nat.mul_lt_mul_of_pos_right hf (Nat.mul_pos hd2 hd2)
 have a2:((h'*d2)*(h'*d2))*(d1*d1)<Y*T*(d1*d1):=Nat.mul_lt_mul_of_pos_right hg (Nat.mul_pos hd1 hd1)
 have a3:(Y*(d1*d1)+1)*T≤X*(d2*d2)*T:=Nat.mul_le_mul_right _ h
 have e1:((f+1)*d1)*((f+1)*d1)*(d2*d2)=((f+1)*(f+1))*((d1*d2)*(d1*d2)):=by ac_rfl
 have e2:((h'*d2)*(h'*d2))*(d1*d1)=(h'*h')*((d1*d2)*(d1*d2)):=by ac_rfl
 have e3:X*T*(d2*d2)=X*(d2*d2)*T:=by ac_rfl
 have e4:Y*T*(d1*d1)=Y*(d1*d1)*T:=by ac_rfl
 rw[e1,e3]at a1
 rw[e2,e4]at a2
 rw[Nat.add_mul,Nat.one_mul]at a3
 have hDD:0<(d1*d2)*(d1*d2):=Nat.mul_pos (Nat.mul_pos hd1 hd2) (Nat.mul_pos hd1 hd2)
 refine⟨?_,?_⟩
 ·have:(h'*h')*((d1*d2)*(d1*d2))<((f+1)*(f+1))*((d1*d2)*(d1*d2)):=by omega
  have:=zcH.1 (Nat.lt_of_mul_lt_mul_right this)
  omega
 ·intro hX hY b1 b2 eT
  rcases Nat.lt_or_ge (h'+1) f with hlt | hge
  ·exact hlt
  ·exfalso
   have b3:(f+1)*(f+1)≤(h'+2)*(h'+2):=zdb.2 (by omega)
   have b4:=Nat.mul_le_mul_right ((d1*d2)*(d1*d2)) b3
   have b5:(h'+2)*(h'+2)*((d1*d2)*(d1*d2))=(h'*h')*((d1*d2)*(d1*d2))+(4*h'+4)*((d1*d2)*(d1*d2)):=by
    rw[← Nat.add_mul];congr 1;rw[Nat.add_mul,Nat.mul_add];omega
   have b6:T<(4*h'+4)*((d1*d2)*(d1*d2)):=by omega
   have b7:(d1*d2)*(d1*d2)≤(10 ^ 8*10 ^ 8)*(10 ^ 8*10 ^ 8):=Nat.mul_le_mul (Nat.mul_le_mul (by omega) (by omega)) (Nat.mul_le_mul (by omega) (by omega))
   have b8:h'<10 ^ 94:=by
    have c1:h'*h'≤(h'*d2)*(h'*d2):=zdb.2 (Nat.le_mul_of_pos_right _ hd2)
    have c2:Y*T≤10 ^ 60*10 ^ 128:=by rw[eT];exact Nat.mul_le_mul_right _ (by omega)
    have c3:h'*h'<10 ^ 94*10 ^ 94:=by
     have:(10:Nat) ^ 60*10 ^ 128=10 ^ 94*10 ^ 94:=by decide
     omega
    exact zcH.1 c3
   have b9:(4*h'+4)*((d1*d2)*(d1*d2))≤(4*10 ^ 94)*((10 ^ 8*10 ^ 8)*(10 ^ 8*10 ^ 8)):=Nat.mul_le_mul (by omega) b7
   have b10:(4*10 ^ 94)*((10 ^ 8*10 ^ 8)*(10 ^ 8*10 ^ 8))≤10 ^ 128:=by decide
   omega
theorem zsj{X Y d1 d2 f g T:Nat}(hf:(f*d1)*(f*d1)≤X*T)(hg:Y*T≤(g*d2)*(g*d2))(h:X*(d2*d2)<Y*(d1*d1))(hT:0<T):f<g ∧
  (X<10 ^ 60→d1<10 ^ 8→d2<10 ^ 8→T=10 ^ 128→f+2≤g):=by
 have hd1:0<d1:=by
  rcases Nat.eq_zero_or_pos d1 with e | e
  ·subst e;simp at h
  ·exact e
 have a1:(f*d1)*(f*d1)*(d2*d2)≤X*T*(d2*d2):=Nat.mul_le_mul_right _ hf
 have a2:Y*T*(d1*d1)≤((g*d2)*(g*d2))*(d1*d1):=Nat.mul_le_mul_right _ hg
 have a3:(X*(d2*d2)+1)*T≤Y*(d1*d1)*T:=Nat.mul_le_mul_right _ h
 have e1:(f*d1)*(f*d1)*(d2*d2)=(f*f)*((d1*d2)*(d1*d2)):=by ac_rfl
 have e2:((g*d2)*(g*d2))*(d1*d1)=(g*g)*((d1*d2)*(d1*d2)):=by ac_rfl
 have e3:X*T*(d2*d2)=X*(d2*d2)*T:=by ac_rfl
 have e4:Y*T*(d1*d1)=Y*(d1*d1)*T:=by ac_rfl
 rw[e1,e3]at a1
 rw[e2,e4]at a2
 rw[Nat.add_mul,Nat.one_mul]at a3
 refine⟨?_,?_⟩
 ·have:(f*f)*((d1*d2)*(d1*d2))<(g*g)*((d1*d2)*(d1*d2)):=by omega
  exact zcH.1 (Nat.lt_of_mul_lt_mul_right this)
 ·intro hX b1 b2 eT
  rcases Nat.lt_or_ge (f+1) g with hlt | hge
  ·exact hlt
  ·exfalso
   have b3:g*g≤(f+1)*(f+1):=zdb.2 (by omega)
   have b4:=Nat.mul_le_mul_right ((d1*d2)*(d1*d2)) b3
   have b5:(f+1)*(f+1)*((d1*d2)*(d1*d2))=(f*f)*((d1*d2)*(d1*d2))+(2*f+1)*((d1*d2)*(d1*d2)):=by
    rw[← Nat.add_mul];congr 1;rw[Nat.add_mul,Nat.mul_add];omega
   have b6:T≤(2*f+1)*((d1*d2)*(d1*d2)):=by omega
   have b7:(d1*d2)*(d1*d2)≤(10 ^ 8*10 ^ 8)*(10 ^ 8*10 ^ 8):=Nat.mul_le_mul (Nat.mul_le_mul (by omega) (by omega)) (Nat.mul_le_mul (by omega) (by omega))
   have b8:f<10 ^ 94:=by
    have c1:f*f≤(f*d1)*(f*d1):=zdb.2 (Nat.le_mul_of_pos_right _ hd1)
    have c2:X*T<10 ^ 60*10 ^ 128:=by rw[eT];exact Nat.mul_lt_mul_of_pos_right hX (by decide)
    have c3:f*f<10 ^ 94*10 ^ 94:=by
     have:(10:Nat) ^ 60*10 ^ 128=10 ^ 94*10 ^ 94:=by decide
     omega
    exact zcH.1 c3
   have b9:(2*f+1)*((d1*d2)*(d1*d2))<(2*10 ^ 94)*((10 ^ 8*10 ^ 8)*(10 ^ 8*10 ^ 8)+1):=Nat.mul_lt_mul_of_lt_of_le (by omega) (by omega) (by omega)
   have b10:(2*10 ^ 94)*((10 ^ 8*10 ^ 8)*(10 ^ 8*10 ^ 8)+1)≤10 ^ 128:=by decide
   omega
def sqN(x:Rat)(l:Nat):Nat:=x.num.natAbs*x.num.natAbs*l
theorem zql(x y:Rat)(l m P:Nat)(hx:0<x.num)(hy:0<y.num):zbB [(x,l),(-y,m)] P=((zl (zy x l P) / x.den:Nat):Int) - (zbc (-y) m P:Nat)∧zbB [(-y,m),(x,l)] P=((zl (zy x l P) / x.den:Nat):Int) - (zbc (-y) m P:Nat):=by
 have h1:zbZ x l P=((zl (zy x l P) / x.den:Nat):Int):=by unfold zbZ;rw[if_pos (by omega)]
 have h2:zbZ (-y) m P = -((zbc (-y) m P:Nat):Int):=by unfold zbZ;rw[if_neg (by rw[zbq];omega)]
 simp only[zbB,h1,h2]
 omega
theorem zqq{x y:Rat}{l m:Nat}(hx:0<x.num)(hy:0<y.num)(hm:0<m)(hX:sqN x l<10 ^ 60)(hY:sqN y m<10 ^ 60)(hd1:x.den<10 ^ 8)(hd2:y.den<10 ^ 8)
  (hne:sqN x l*(y.den*y.den)≠sqN y m*(x.den*x.den))(ts:List (Rat × Nat))(hts:ts=[(x,l),(-y,m)]∨ts=[(-y,m),(x,l)]) :
  zef ts=some (if sqN y m*(x.den*x.den)<sqN x l*(y.den*y.den)then 1 else -1):=by
 have hlen:ts.length=2:=by rcases hts with rfl | rfl <;> rfl
 have hsum:∀ P,zbB ts P=((zl (zy x l P) / x.den:Nat):Int) - (zbc (-y) m P:Nat):=fun P=>by
  have:=zql x y l m P hx hy
  rcases hts with rfl | rfl
  ·exact this.1
  ·exact this.2
 have hts0:ts≠[]:=by rcases hts with rfl | rfl <;> simp
 have eS1:∀ P,zy x l P=sqN x l*10 ^ (2*P):=fun P=>rfl
 have eS2:∀ P,zy (-y) m P=sqN y m*10 ^ (2*P):=fun P=>by unfold zy sqN;rw[zbq,Int.natAbs_neg]
 have eD:(-y).den=y.den:=zh6 y
 have hlo:=fun P=>zqY x l P
 have hup:=fun P=>zia (-y) m P (zfl (by rw[zbq];omega) hm)
 rw[eD]at hup
 have hTp:∀ P:Nat,0<10 ^ (2*P):=fun P=>Nat.pow_pos (by decide)
 generalize hX':sqN x l=X at *
 generalize hY':sqN y m=Y at *
 by_cases h:Y*(x.den*x.den)<X*(y.den*y.den)
 ·rw[if_pos h]
  have key:=fun P=>zsk (X:=X) (Y:=Y) (hup P).2.1 (by have:=(hlo P).2;rw[← eS1];exact this) (by have:=(hup P).2.2;rw[← eS2];exact this) h (hTp P)
  refine zgg hts0 (fun P b _=>?_) ?_
  ·rw[hsum,hlen]
   have k1:=(key P).1
   unfold zbS
   split
   ·exact .inr rfl
   ·rw[if_neg (by omega)];exact .inl rfl
  ·rw[hsum,hlen]
   have k2:=(key 64).2 hX hY hd1 hd2 rfl
   unfold zbS
   rw[if_pos (by omega)]
 ·rw[if_neg h]
  have key:=fun P=>zsj (X:=X) (Y:=Y) (by have:=(hlo P).1;rw[← eS1];exact this) (by have:=(hup P).1;rw[← eS2];exact this) (show X*(y.den*y.den)<Y*(x.den*x.den) by omega) (hTp P)
  refine zgg hts0 (fun P b _=>?_) ?_
  ·rw[hsum,hlen]
   have k1:=(key P).1
   unfold zbS
   rw[if_neg (by omega)]
   split
   ·exact .inr rfl
   ·exact .inl rfl
  ·rw[hsum,hlen]
   have k2:=(key 64).2 hX hd1 hd2 rfl
   unfold zbS
   rw[if_neg (by omega)]
   by_cases h2:((zl (zy x l 64) / x.den:Nat):Int) - (zbc (-y) m 64:Nat)+(2:Nat)<0
   ·rw[if_pos (.inl h2)]
   ·rw[if_pos (.inr ⟨by omega,rfl⟩)]
end
section
open Go.RowKit Kp
open Go.Lib (decDigits)
theorem zew{z:Int}{k:Nat}(hk:0<k):(Rat.divInt z k).den≤k:=by
 obtain⟨-,e2⟩:=zcv z k hk
 have:((Rat.divInt z k).den:Int)≤k:=by
  rw[e2]
  have h1:(0:Int)≤((k:Nat):Int):=by omega
  first
   | exact Int.ediv_le_self _ h1
   | (rw[Int.tdiv_eq_ediv_of_nonneg h1];exact Int.ediv_le_self _ h1)
 omega
theorem zbI(x:Rat):x*(x.den:Rat)=(x.num:Rat):=by
 have hd:(x.den:Rat)≠0:=nat_ne x.den_pos
 have h:(x.num:Rat) / (x.den:Rat)=x:=by
  conv=>rhs;rw[← Rat.num_divInt_den x,Rat.divInt_eq_div]
  rfl
 conv=>lhs;lhs;rw[← h]
 exact Rat.div_mul_cancel hd
theorem zm6(x:Rat)(l:Nat):((sqN x l:Nat):Rat)=x*x*(l:Rat)*((x.den:Rat)*(x.den:Rat)):=by
 have h:=zbI x
 have h2:((x.num.natAbs*x.num.natAbs:Nat):Rat)=(x.num:Rat)*(x.num:Rat):=by
  rw[← Rat.intCast_mul,← Int.natAbs_mul_self (a:=x.num)];rfl
 unfold sqN
 rw[Rat.natCast_mul,h2,← h]
 grind
theorem zo1{x:Rat}{l:Nat}(hx:x.num≠0)(hl:0<l)(y:Rat):0<sqN x l*(y.den*y.den) :=
 Nat.mul_pos (Nat.mul_pos (Nat.mul_pos (by omega) (by omega)) hl) (Nat.mul_pos y.den_pos y.den_pos)
end
section
open Go.RowKit Kp
open Go.Lib (decDigits)
def zcK(low high:Rat × Nat):Rat × Nat:=(low.1+high.1*sqR ((high.2:Rat) / (low.2:Rat)),low.2)
def zbA:List (Rat × Nat)→Rat × Nat→List (Rat × Nat)
 | [],t=>[t]
 | c::r,t=>if zfD ((t.2:Rat) / (c.2:Rat))then(if t.2<c.2 then zcK t c else zcK c t)::r else c::zbA r t
def zcq(cs:List (Rat × Nat)):List (Rat × Nat):=cs.filter fun c=>decide (c.1≠0)
def zfJ:List (Rat × Nat)→List (Rat × Nat)
 | [a,b]=>if b.2<a.2 then [b,a]else [a,b]
 | l=>l
theorem zc6{l m:Nat}(hl:0<l)(hm:0<m):0<((m:Rat) / (l:Rat)).num∧(l:Rat) / (m:Rat)=1 / ((m:Rat) / (l:Rat)):=by
 constructor
 ·rw[← Rat.div_is,Rat.num_natCast,Rat.num_natCast,Rat.den_natCast,Rat.den_natCast]
  have:=zaz (z:=(m:Int)) (k:=l) (by omega) hl
  simpa using this
 ·have h1:=nat_ne hl
  have h2:=nat_ne hm
  generalize (l:Rat)=a at *
  generalize (m:Rat)=b at *
  grind
theorem zng{l m:Nat}(hl:0<l)(hm:0<m)(h:zfD ((m:Rat) / (l:Rat))=true):zfD ((l:Rat) / (m:Rat))=true:=by
 obtain⟨h1,h2⟩:=zc6 hl hm
 rw[h2]
 generalize (m:Rat) / (l:Rat)=q at *
 obtain⟨e1,e2⟩:=ziS q h1
 unfold zfD at h ⊢
 rw[e1,e2,Int.toNat_natCast,Bool.and_comm]
 exact h
theorem zrF{q:Rat}(h:zfD q=true)(hp:0≤q.num):sqR q*sqR q=q:=by
 unfold zfD at h
 rw[Bool.and_eq_true,decide_eq_true_eq,decide_eq_true_eq]at h
 unfold sqR
 rw[Rat.divInt_mul_divInt,← Int.natCast_mul,← Int.natCast_mul,h.1,h.2,Int.toNat_of_nonneg hp]
 exact Rat.num_divInt_den q
theorem zkh{q:Rat}(hp:0<q.num):0<(sqR q).num:=by
 unfold sqR
 exact zaz (by have:=zgG (n:=q.num.toNat) (by omega);omega) (zgG q.den_pos)
theorem zpE:zl 1=1:=zf0 (by decide)
theorem zrk:zfD 1=true∧sqR 1=1:=by
 unfold zfD sqR
 rw[show ((1:Rat)).num.toNat=1 from rfl,show ((1:Rat)).den=1 from rfl,zpE]
 exact⟨rfl,rfl⟩
theorem zgH{n b:Nat}(h:n<b*b):zl n<b:=by
 have:=(zby n).1
 exact zcH.1 (by omega)
theorem zmv{l m n:Nat}(hl:0<l)(hl1:l<10 ^ n)(hm:m<10 ^ n):Bd n ((m:Rat) / (l:Rat)):=by
 rw[← Rat.div_is,Rat.num_natCast,Rat.num_natCast,Rat.den_natCast,Rat.den_natCast,show (m:Int)*((1:Nat):Int)=m by simp,show (l:Int)*((1:Nat):Int)=l by simp]
 exact zbQ hl (by rw[Int.natAbs_natCast];exact hm) hl1
theorem zo0{q:Rat}{n:Nat}(h:Bd (n+n) q):Bd n (sqR q):=by
 unfold sqR
 have h1:=h.1
 have h2:=h.2
 rw[Nat.pow_add]at h1 h2
 exact zbQ (zgG q.den_pos) (by rw[Int.natAbs_natCast];exact zgH (by omega)) (zgH h2)
theorem zqz{s t:Rat}{z:Int}{d:Nat}(hd:0<d)(ht:0<t.num)(h:s*t*(d:Rat)=(z:Rat)):(0<z→0<s.num)∧(z<0→s.num<0):=by
 have e:s.num*(t.num*(d:Int))=z*((s.den:Int)*(t.den:Int)):=by
  have e1:((s.num*(t.num*(d:Int)):Int):Rat)=((z*((s.den:Int)*(t.den:Int)):Int):Rat):=by
   simp only[Rat.intCast_mul]
   rw[← h,← zbI s,← zbI t]
   simp only[Rat.intCast_natCast]
   grind
  exact_mod_cast e1
 have hp:0<t.num*(d:Int):=Int.mul_pos ht (by omega)
 have hq:0<(s.den:Int)*(t.den:Int):=Int.mul_pos (by have:=s.den_pos;omega) (by have:=t.den_pos;omega)
 generalize t.num*(d:Int)=T at *
 generalize (s.den:Int)*(t.den:Int)=D at *
 constructor
 ·intro hz
  have:0<z*D:=Int.mul_pos hz hq
  rcases Int.lt_or_le 0 s.num with h1 | h1
  ·exact h1
  ·have:=Int.mul_nonpos_of_nonpos_of_nonneg h1 (Int.le_of_lt hp)
   omega
 ·intro hz
  have:z*D<0:=Int.mul_neg_of_neg_of_pos hz hq
  rcases Int.lt_or_le s.num 0 with h1 | h1
  ·exact h1
  ·have:=Int.mul_nonneg h1 (Int.le_of_lt hp)
   omega
theorem zfV{a b:Rat}(ha:0<a.num)(hb:0<b.num):0<(a*b).num:=by
 rw[← Rat.mul_is,← Int.natCast_mul]
 exact zaz (Int.mul_pos ha hb) (Nat.mul_pos a.den_pos b.den_pos)
theorem zmG{a b:Rat}(ha:0<a.num)(hb:0<b.num):0<(a+b).num:=by
 rw[← Rat.add_is,← Int.natCast_mul]
 have h1:0<a.num*(b.den:Int):=Int.mul_pos ha (by have:=b.den_pos;omega)
 have h2:0<b.num*(a.den:Int):=Int.mul_pos hb (by have:=a.den_pos;omega)
 exact zaz (by omega) (Nat.mul_pos a.den_pos b.den_pos)
theorem zm3{x y k:Rat}{l m:Nat}(px:0<x.num)(py:0<y.num)(pk:0<k.num)(hk:k*k*(l:Rat)=(m:Rat))(hne:sqN x l*(y.den*y.den)≠sqN y m*(x.den*x.den)) :
  (sqN y m*(x.den*x.den)<sqN x l*(y.den*y.den)→0<(x + -y*k).num)∧(sqN x l*(y.den*y.den)<sqN y m*(x.den*x.den)→(x + -y*k).num<0):=by
 have ht:0<(x+y*k).num:=zmG px (zfV py pk)
 have hl:0<l*(x.den*x.den)*(y.den*y.den):=by
  refine Nat.mul_pos (Nat.mul_pos ?_ (Nat.mul_pos x.den_pos x.den_pos)) (Nat.mul_pos y.den_pos y.den_pos)
  rcases Nat.eq_zero_or_pos l with h0 | h0
  ·subst h0
   exfalso;apply hne
   have:(m:Rat)=0:=by rw[← hk];simp
   have:m=0:=by exact_mod_cast this
   subst this
   simp[sqN]
  ·exact h0
 have key:(x + -y*k)*(x+y*k)*((l*(x.den*x.den)*(y.den*y.den):Nat):Rat)=(((sqN x l*(y.den*y.den):Nat):Int) - ((sqN y m*(x.den*x.den):Nat):Int):Int):=by
  rw[Rat.intCast_sub,Rat.intCast_natCast,Rat.intCast_natCast]
  simp only[Rat.natCast_mul]
  rw[zm6,zm6,← hk]
  grind
 have:=zqz hl ht key
 exact⟨fun h=>this.1 (by omega),fun h=>this.2 (by omega)⟩
theorem zp0{x y:Rat}{l m:Nat}(px:0<x.num)(py:0<y.num)(hl:0<l)(hm:0<m)(bx:Bd 20 x)(bY:Bd 20 y)(bl:l<10 ^ 16)(bm:m<10 ^ 16)(dx:x.den<10 ^ 8)(dy:y.den<10 ^ 8)(σ:Int)
  (hσ:(x=y∧l=m∧σ=0)∨(sqN x l*(y.den*y.den)≠sqN y m*(x.den*x.den)∧σ=if sqN y m*(x.den*x.den)<sqN x l*(y.den*y.den)then 1 else -1)) :
  zef (zfJ (zcq (zbA [(x,l)] (-y,m))))=some σ∧(∀ c∈zbA [(x,l)] (-y,m),Bd 50 c.1∧0<c.2∧c.2<10 ^ 16):=by
 have hny:Bd 20 (-y):=by
  unfold Bd
  rw[zbq,Int.natAbs_neg,zh6]
  exact bY
 have bk:∀ a b:Nat,0<a→a<10 ^ 16→b<10 ^ 16→Bd 8 (sqR ((b:Rat) / (a:Rat))):=fun a b ha h1 h2=>zo0 (n:=8) (zmv ha h1 h2)
 have kk:∀ a b:Nat,0<a→0<b→zfD ((b:Rat) / (a:Rat))=true→sqR ((b:Rat) / (a:Rat))*sqR ((b:Rat) / (a:Rat))*(a:Rat)=(b:Rat):=fun a b ha hb h=>by
  rw[zrF h (Int.le_of_lt (zc6 ha hb).1)]
  exact Rat.div_mul_cancel (nat_ne ha)
 rcases hσ with⟨rfl,rfl,rfl⟩|⟨hne,rfl⟩
 ·have e1:(l:Rat) / (l:Rat)=1:=by rw[Rat.div_def];exact Rat.mul_inv_cancel _ (nat_ne hl)
  have e2:zbA [(x,l)] (-x,l)=[(0,l)]:=by
   unfold zbA zcK
   rw[e1,if_pos zrk.1,zrk.2,if_neg (by omega),Rat.mul_one,Rat.add_neg_cancel]
  rw[e2]
  refine⟨by unfold zef zcq zfJ;simp,fun c hc=>?_⟩
  rw[List.mem_singleton]at hc
  subst hc
  exact⟨(show Bd 50 0 from⟨by decide,by decide⟩),hl,bl⟩
 ·by_cases hq:zfD ((m:Rat) / (l:Rat))=true
  ·by_cases hml:m<l
   ·have hq':=zng hl hm hq
    have e2:zbA [(x,l)] (-y,m)=[(-y+x*sqR ((l:Rat) / (m:Rat)),m)]:=by
     unfold zbA zcK
     rw[if_pos hq,if_pos hml]
    have b1:Bd 49 (-y+x*sqR ((l:Rat) / (m:Rat))):=hny.add (bx.mul (bk m l hm bm bl))
    have hk:=kk m l hm hl hq'
    have pk:=zkh (zc6 hm hl).1
    rw[e2]
    clear e2 bk kk
    generalize sqR ((l:Rat) / (m:Rat))=k at *
    have hs:=zm3 (x:=y) (y:=x) (k:=k) (l:=m) (m:=l) py px pk hk (fun e=>hne e.symm)
    have es:-y+x*k = -(y + -x*k):=by grind
    have hnum:(-y+x*k).num = -(y + -x*k).num:=by rw[es,zbq]
    have hn0:(-y+x*k).num≠0:=by
     rcases Nat.lt_or_gt_of_ne hne with h | h
     ·have:=hs.1 h;omega
     ·have:=hs.2 h;omega
    have hz:(-y+x*k)≠0:=fun e=>hn0 (by rw[e];rfl)
    refine⟨?_,fun c hc=>?_⟩
    ·rw[show zcq [(-y+x*k,m)]=[(-y+x*k,m)] by unfold zcq;simp[hz],show zfJ [(-y+x*k,m)]=[(-y+x*k,m)]from rfl,sign_one hn0 hm (Nat.lt_of_lt_of_le b1.2 (by decide))]
     rcases Nat.lt_or_gt_of_ne hne with h | h
     ·have:=hs.1 h
      rw[if_neg (by omega),if_neg (by omega)]
     ·have:=hs.2 h
      rw[if_pos (by omega),if_pos h]
    ·rw[List.mem_singleton]at hc;subst hc;exact⟨b1.mono (by decide),hm,bm⟩
   ·have e2:zbA [(x,l)] (-y,m)=[(x + -y*sqR ((m:Rat) / (l:Rat)),l)]:=by
     unfold zbA zcK
     rw[if_pos hq,if_neg hml]
    have b1:Bd 49 (x + -y*sqR ((m:Rat) / (l:Rat))):=bx.add (hny.mul (bk l m hl bl bm))
    have hk:=kk l m hl hm hq
    have pk:=zkh (zc6 hl hm).1
    rw[e2]
    clear e2 bk kk
    generalize sqR ((m:Rat) / (l:Rat))=k at *
    have hs:=zm3 px py pk hk hne
    have hn0:(x + -y*k).num≠0:=by
     rcases Nat.lt_or_gt_of_ne hne with h | h
     ·have:=hs.2 h;omega
     ·have:=hs.1 h;omega
    have hz:(x + -y*k)≠0:=fun e=>hn0 (by rw[e];rfl)
    refine⟨?_,fun c hc=>?_⟩
    ·rw[show zcq [(x + -y*k,l)]=[(x + -y*k,l)] by unfold zcq;simp[hz],show zfJ [(x + -y*k,l)]=[(x + -y*k,l)]from rfl,sign_one hn0 hl (Nat.lt_of_lt_of_le b1.2 (by decide))]
     rcases Nat.lt_or_gt_of_ne hne with h | h
     ·have:=hs.2 h
      rw[if_neg (by omega),if_neg (by omega)]
     ·have:=hs.1 h
      rw[if_pos (by omega),if_pos h]
    ·rw[List.mem_singleton]at hc;subst hc;exact⟨b1.mono (by decide),hl,bl⟩
  ·have e2:zbA [(x,l)] (-y,m)=[(x,l),(-y,m)]:=by
    unfold zbA
    rw[if_neg hq]
    rfl
   rw[e2]
   have hx0:x≠0:=fun e=>by rw[e]at px;exact absurd px (by decide)
   have hy0:-y≠0:=fun e=>by
    have:(-y).num=0:=by rw[e];rfl
    rw[zbq]at this;omega
   have eo:zcq [(x,l),(-y,m)]=[(x,l),(-y,m)]:=by unfold zcq;simp[hx0,hy0]
   have sq60:∀ (z:Rat) (n:Nat),Bd 20 z→n<10 ^ 16→sqN z n<10 ^ 60:=fun z n hz hn=>by
    unfold sqN
    have h1:=Nat.mul_lt_mul'' (Nat.mul_lt_mul'' hz.1 hz.1) hn
    exact Nat.lt_of_lt_of_le h1 (by decide)
   refine⟨?_,fun c hc=>?_⟩
   ·rw[eo]
    refine zqq px py hm (sq60 x l bx bl) (sq60 y m bY bm) dx dy hne _ ?_
    by_cases h:m<l
    ·exact .inr (if_pos h)
    ·exact .inl (if_neg h)
   ·rw[List.mem_cons,List.mem_singleton]at hc
    rcases hc with rfl | rfl
    ·exact⟨bx.mono (by decide),hl,bl⟩
    ·exact⟨hny.mono (by decide),hm,bm⟩
end
section
open Go.RowKit Kp
open Go.Lib (decDigits)
def zcn(l:List (Str × Str)):List Value:=l.flatMap fun p=>[.string ⟨p.1.toArray⟩,.string ⟨p.2.toArray⟩]
theorem zqu:zcn []=[]:=rfl
theorem zdc(p:Str × Str)(l:List (Str × Str)):zcn (p::l)=.string ⟨p.1.toArray⟩::.string ⟨p.2.toArray⟩::zcn l:=rfl
theorem zh4(l:List (Str × Str)):(zcn l).length=l.length*2:=by
 induction l with
 | nil=>rfl
 | cons p l ih=>rw[zdc];simp only[List.length_cons,ih];omega
theorem zh5(a b:List (Str × Str)):zcn (a++b)=zcn a++zcn b:=by unfold zcn;rw[List.flatMap_append]
theorem zgj:∀ (l:List (Str × Str)) (i:Nat),i<l.length→(zcn l)[i*2]? = some (.string ⟨(l.getD i ([],[])).1.toArray⟩)∧(zcn l)[i*2+1]? = some (.string ⟨(l.getD i ([],[])).2.toArray⟩)
 | [],i,h=>absurd h (by simp)
 | p::l,0,_=>⟨rfl,rfl⟩
 | p::l,i+1,h=>by
  have:=zgj l i (by simpa using h)
  rw[zdc,show (i+1)*2=i*2+2 by omega,show i*2+2+1=i*2+1+2 by omega]
  simpa using this
theorem zkl:∀ (l:List (Str × Str)) (i:Nat) (p:Str × Str),((zcn l).set (i*2) (.string ⟨p.1.toArray⟩)).set (i*2+1) (.string ⟨p.2.toArray⟩)=zcn (l.set i p)
 | [],i,p=>by simp[zqu]
 | q::l,0,p=>by rw[List.set_cons_zero,zdc,zdc];rfl
 | q::l,i+1,p=>by
  have:=zkl l i p
  rw[List.set_cons_succ,zdc,zdc,show (i+1)*2=i*2+2 by omega,show i*2+2+1=i*2+1+2 by omega,← this]
  rfl
theorem zh3:∀ (l:List (Str × Str)),∀ u∈zcn l,u.oneCell'=true
 | [],u,h=>by cases h
 | p::l,u,h=>by
  rw[zdc,List.mem_cons,List.mem_cons]at h
  rcases h with rfl | rfl | h
  ·rfl
  ·rfl
  ·exact zh3 l u h
def TSl(w:World)(B:Nat)(v:Value)(l:List (Str × Str)):Prop :=
 ∃ a cap,v=.slice a l.length cap∧B≤w.heap.size∧∀ i,i<l.length→∃ b o,a=some ⟨b,o,none⟩∧b<B ∧
  w.cell? ⟨b,o+i*2,none⟩=some (.string ⟨(l.getD i ([],[])).1.toArray⟩)∧w.cell? ⟨b,o+i*2+1,none⟩=some (.string ⟨(l.getD i ([],[])).2.toArray⟩)
theorem TSl.keep{w w':World}{B B':Nat}{v:Value}{l:List (Str × Str)}(h:TSl w B v l)(hb:Below B' w w')(hB:B≤B'):TSl w' B v l:=by
 obtain⟨a,cap,rfl,hs,hc⟩:=h
 refine⟨a,cap,rfl,Nat.le_trans hs hb.size,fun i hi=>?_⟩
 obtain⟨b,o,ha,hbb,c0,c1⟩:=hc i hi
 exact⟨b,o,ha,hbb,(hb.cell (p:=⟨b,o+i*2,none⟩) (show b<B' by omega)).trans c0,(hb.cell (p:=⟨b,o+i*2+1,none⟩) (show b<B' by omega)).trans c1⟩
theorem TSl.of_row{w:World}{base:Nat}{t:TypeId}{v:Value}{l:List (Str × Str)}(h:w.ownsRow base t 2 v l.length (zcn l)):TSl w w.heap.size v l:=by
 rcases Nat.eq_zero_or_pos l.length with h0 | h0
 ·rcases h.2 with⟨hv,_⟩|⟨g,cap,cur,hv,_,hg,_⟩
  ·exact⟨none,0,by rw[hv,h0],Nat.le_refl _,fun i hi=>by omega⟩
  ·exact⟨some ⟨g,0,none⟩,cap,hv,Nat.le_refl _,fun i hi=>by omega⟩
 ·obtain⟨g,cap,rfl,hb,hg⟩:=h.form h0
  refine⟨_,cap,rfl,Nat.le_refl _,fun i hi=>⟨g,0,rfl,hg,?_,?_⟩⟩
  ·rw[h.cellAt _ (by omega),Nat.zero_add];exact(zgj l i hi).1
  ·rw[h.cellAt _ (by omega),Nat.zero_add];exact(zgj l i hi).2
def ofT(t:Rat × Rat):Str × Str:=(za t.1,za t.2)
def ofC(c:Rat × Nat):Str × Str:=(za c.1,Lib.itoa (c.2:Int))
def zmZ(w:World)(G:Nat)(cs:List (Rat × Nat)):Prop :=
 ∃ v,Blk w G [v] 144∧(cs=[]→v=.slice none 0 0)∧w.ownsRow (G+1) 148 2 v (cs.map ofC).length (zcn (cs.map ofC))
theorem zmZ.keep{w w':World}{G:Nat}{cs:List (Rat × Nat)}(h:zmZ w G cs)(hq:Q w w'):zmZ w' G cs:=by
 obtain⟨v,h1,h2,h3⟩:=h
 exact⟨v,h1.keep hq h1.lt,h2,zf h3 hq⟩
theorem zmZ.start{w:World}{G:Nat}(h:Blk w G [.slice none 0 0] 144):zmZ w G []:=⟨_,h,fun _=>rfl,World.ownsRow_nil _ _ _ _⟩
def CB(c:Rat × Nat):Prop:=Bd 80 c.1∧0<c.2∧c.2<10 ^ 80
theorem CB.root{c:Rat × Nat}(h:CB c):Bd 80 (c.2:Rat):=⟨by rw[Rat.num_natCast,Int.natAbs_natCast];exact h.2.2,by rw[Rat.den_natCast];exact by decide⟩
end
section
open Go.RowKit Kp
open Go.Lib (decDigits)
theorem zdN.two{w:World}{b:Nat}{s1 s2:Str}{t:TypeId}(h:Blk w b [.string ⟨s1.toArray⟩,.string ⟨s2.toArray⟩] t):zdN w (.slice (some ⟨b,0,none⟩) 2 2) [s1,s2]:=by
 refine⟨b,0,2,rfl,h.lt,?_⟩
 intro i hi
 rcases(show i=0∨i=1 by simp at hi;omega)with rfl | rfl
 ·exact h.cell 0
 ·exact h.cell 1
theorem zpp{p q:Rat}(pq:0<q.num):p / q=Rat.divInt (p.num*q.den) ((q.num.toNat*p.den:Nat):Int):=by
 rw[← Rat.div_is,Int.natCast_mul,Int.toNat_of_nonneg (by omega)]
theorem zfT{p q:Rat}(pp:0≤p.num)(pq:0<q.num):0≤(p / q).num:=by
 rw[zpp pq]
 obtain⟨e1,-⟩:=zcv (p.num*q.den) (q.num.toNat*p.den) (Nat.mul_pos (by omega) p.den_pos)
 rw[e1]
 have h0:0≤p.num*(q.den:Int):=Int.mul_nonneg pp (by omega)
 rw[Int.tdiv_eq_ediv_of_nonneg h0]
 exact Int.ediv_nonneg h0 (Int.natCast_nonneg _)
theorem Bd.quot{m n:Nat}{p q:Rat}(hp:Bd m p)(hq:Bd n q)(pq:0<q.num):Bd (m+n) (p / q):=by
 rw[zpp pq]
 refine zbQ (Nat.mul_pos (by omega) p.den_pos) (zc5 hp hq) ?_
 have h1:q.num.toNat<10 ^ n:=by have:=hq.1;omega
 have:=Nat.mul_lt_mul'' h1 hp.2
 rw[Nat.add_comm,Nat.pow_add];exact this
theorem znY(p q:Rat)(hp:Bd 80 p)(hq:Bd 80 q)(pp:0≤p.num)(pq:0<q.num)(w:World)(hE:Env w) :
  Calls Tryz.prog 94 #[.string ⟨(za p).toArray⟩,.string ⟨(za q).toArray⟩] w fun e w'=>e=.returned (.tuple #[.string ⟨(if zfD (p / q)then za (sqR (p / q))else []).toArray⟩,.bool (zfD (p / q)),.int .i64 0])∧Q w w':=by
 have hz:(za q == [48])=false:=by
  rw[beq_eq_false_iff_ne,← zI];exact fun h=>by have:=zav h;subst this;exact absurd pq (by decide)
 have bq:=hp.quot hq pq
 have hlq:zak (p / q)=false:=bq.zak (by decide)
 have HC:=fun v1 v2 w hw h1 h2=>zdT [p,q] [p,q] (by intro x hx;rw[List.mem_cons,List.mem_singleton]at hx;rcases hx with rfl | rfl;exact hp.root90 (by decide);exact hq.root90 (by decide)) v1 v2 w hw h1 h2 (by simp) (by simp)
 rw[if_pos (by intro x hx;rw[List.mem_cons,List.mem_singleton]at hx;rcases hx with rfl | rfl <;> omega)]at HC
 have HC:=LH HC
 have HD:=LH (fun w hw=>zcf p q hp hq (by omega) (by decide) w hw)
 have HO:=LH (fun w hw=>zfL (p / q) hlq w hw)
 have HR:=LH (fun w hw=>zmo (p / q) hlq (zfT pp pq) w hw)
 generalize (⟨(if zfD (p / q)then za (sqR (p / q))else []).toArray⟩:ByteArray)=A at *
 generalize zfD (p / q)=b at *
 generalize za (p / q)=PQ at *
 generalize Lib.itoa (p / q).num=N at *
 generalize Lib.itoa ((p / q).den:Int)=D at *
 clear hp hq pp pq bq hlq
 generalize hsp:za p=P at *
 generalize hsq:za q=S at *
 go_enter Tryz.func94,Tryz.ntmps94
 go_wp2_with fail
 have B1:=((Blk.new w [.string ⟨P.toArray⟩,.string ⟨S.toArray⟩] 30).alloc (.cells #[.string ⟨P.toArray⟩,.string ⟨S.toArray⟩] 30))
 have B2:=Blk.new (w.alloc (.cells #[.string ⟨P.toArray⟩,.string ⟨S.toArray⟩] 30)) [.string ⟨P.toArray⟩,.string ⟨S.toArray⟩] 30
 have S1:=zdN.two B1
 have S2:=zdN.two B2
 have e2:(w.alloc (.cells #[.string ⟨P.toArray⟩,.string ⟨S.toArray⟩] 30)).heap.size=w.heap.size+1:=by simp
 rw[e2]at S2
 clear e2 B2 B1
 simp only[List.map_cons,List.map_nil,hsp,hsq]at HC
 refine(HC.out _ _ _ (hE.q bt) S1 S2).mono ?_
 clear S1 S2
 rintro e w1⟨rfl,hq1⟩
 have hQ1:Q w w1:=Q.trans (show Below w.heap.size w _ from bt) hq1
 clear hq1
 go_wp2_with fail
 refine(HD.out _ (hE.q hQ1)).mono ?_
 rintro e w2⟨rfl,hq2⟩
 have hQ2:=Q.trans hQ1 hq2
 go_wp2_with fail
 refine(HO.out _ (hE.q hQ2)).mono ?_
 rintro e w3⟨rfl,hq3⟩
 have hQ3:=Q.trans hQ2 hq3
 go_wp2_with fail
 refine(HR.out _ (hE.q hQ3)).mono ?_
 rintro e w4⟨rfl,hq4⟩
 have hQ4:=Q.trans hQ3 hq4
 go_wp2
 go_ret3
 exact⟨rfl,hQ4⟩
theorem zfz(l m:Nat)(hl:0<l)(hl1:l<10 ^ 80)(hm:0<m)(hm1:m<10 ^ 80)(w:World)(hE:Env w) :
  Calls Tryz.prog 94 #[.string ⟨(Lib.itoa (m:Int)).toArray⟩,.string ⟨(Lib.itoa (l:Int)).toArray⟩] w fun e w'=>e=.returned (.tuple #[.string ⟨(if zfD ((m:Rat) / (l:Rat))then za (sqR ((m:Rat) / (l:Rat)))else []).toArray⟩,.bool (zfD ((m:Rat) / (l:Rat))),.int .i64 0])∧Q w w':=by
 have hb:∀ n:Nat,n<10 ^ 80→Bd 80 (n:Rat):=fun n hn=>⟨by rw[Rat.num_natCast,Int.natAbs_natCast];exact hn,by rw[Rat.den_natCast];exact by decide⟩
 have h:=znY (m:Rat) (l:Rat) (hb m hm1) (hb l hl1) (by rw[Rat.num_natCast];omega) (by rw[Rat.num_natCast];omega) w hE
 rw[zT,zT]at h
 exact h
theorem znN{l m:Nat}(hl:0<l)(hl1:l<10 ^ 80)(hm1:m<10 ^ 80):Bd 40 (sqR ((m:Rat) / (l:Rat))):=zo0 (n:=40) (zmv hl hl1 hm1)
theorem zqx(tmps:Array Value)(W:World)(b:Nat)(x y u:Value)(hp:tmps.getD 4 undef=.pointer (some ⟨b,0,none⟩))(hu:tmps.getD 5 undef=u)
  (c0:W.cell? ⟨b,0,none⟩=some x)(c1:W.cell? ⟨b,1,none⟩=some y) :
  (results Tryz.f139 tmps).run Tryz.prog W=.ok (.tuple #[.agg #[x,y],u]) W:=by
 simp only[Array.getD_eq_getD_getElem?]at hp hu
 simp[results,Tryz.results139,go_sem,hp,hu,c0,c1]
theorem zjZ(c h:Rat × Nat)(hc:CB c)(hh:CB h)(hq:zfD ((h.2:Rat) / (c.2:Rat))=true)(w:World)(hE:Env w) :
  Calls Tryz.prog 139 #[.agg #[.string ⟨(za c.1).toArray⟩,.string ⟨(Lib.itoa (c.2:Int)).toArray⟩],.agg #[.string ⟨(za h.1).toArray⟩,.string ⟨(Lib.itoa (h.2:Int)).toArray⟩]] w fun e w'=>e=.returned (.tuple #[.agg #[.string ⟨(za (zcK c h).1).toArray⟩,.string ⟨(Lib.itoa ((zcK c h).2:Int)).toArray⟩],.int .i64 0])∧Q w w':=by
 obtain⟨y,m⟩:=h
 obtain⟨x,l⟩:=c
 obtain⟨bx,hl,hl1⟩:=hc
 obtain⟨bY,hm,hm1⟩:=hh
 simp only at *
 have bk:=znN hl hl1 hm1
 have hr:=fun w hw=>zfz l m hl hl1 hm hm1 w hw
 rw[hq]at hr
 have HR:=LH hr
 unfold zcK
 simp only
 generalize sqR ((m:Rat) / (l:Rat))=k at *
 have HM:=LH (fun w hw=>zM y k bY bk (by decide) w hw)
 have HA:=LH (fun w hw=>zaA x (y*k) bx (bY.mul bk) (by decide) w hw)
 clear hr hq
 generalize za (x+y*k)=R at *
 generalize za (y*k)=YK at *
 generalize hsk:za k=K at *
 generalize za x=X at *
 generalize za y=Y at *
 generalize Lib.itoa (l:Int)=L at *
 generalize Lib.itoa (m:Int)=M at *
 simp only[if_true]at HR
 clear bx bY bk hl hl1 hm hm1
 obtain⟨W0,hW0⟩:∃ W0,((w.alloc (.cells [.string ⟨X.toArray⟩,.string ⟨L.toArray⟩].toArray 148)).alloc (.cells [.string ⟨Y.toArray⟩,.string ⟨M.toArray⟩].toArray 148)).alloc (.cells [.string ⟨#[]⟩,.string ⟨#[]⟩].toArray 148)=W0:=⟨_,rfl⟩
 have hQ0:Q w W0:=by rw[← hW0];exact(((Below.refl _ w).alloc (Nat.le_refl _) _).alloc (by simp) _).alloc (by simp;omega) _
 have C1:Blk W0 w.heap.size [.string ⟨X.toArray⟩,.string ⟨L.toArray⟩] 148:=by rw[← hW0];exact((Blk.new w _ _).alloc _).alloc _
 have C2:Blk W0 (w.heap.size+1) [.string ⟨Y.toArray⟩,.string ⟨M.toArray⟩] 148:=by
  have:=(Blk.new (w.alloc (.cells [.string ⟨X.toArray⟩,.string ⟨L.toArray⟩].toArray 148)) [.string ⟨Y.toArray⟩,.string ⟨M.toArray⟩] 148).alloc (.cells [.string ⟨#[]⟩,.string ⟨#[]⟩].toArray 148)
  rw[World.size_alloc,hW0]at this;exact this
 have C3:Blk W0 (w.heap.size+2) [.string ⟨#[]⟩,.string ⟨#[]⟩] 148:=by
  have:=Blk.new ((w.alloc (.cells [.string ⟨X.toArray⟩,.string ⟨L.toArray⟩].toArray 148)).alloc (.cells [.string ⟨Y.toArray⟩,.string ⟨M.toArray⟩].toArray 148)) [.string ⟨#[]⟩,.string ⟨#[]⟩] 148
  rw[World.size_alloc,World.size_alloc,hW0]at this;exact this
 have a1:=C1.cell 1
 have b1:=C2.cell 1
 simp only[zs4,zs5]at a1 b1
 go_enter Tryz.func139,Tryz.ntmps139
 go_wp2_with fail
 refine(HR.out _ (hE.q hQ0)).mono ?_
 clear a1 b1 hW0
 rintro e w1⟨rfl,hq1⟩
 have hQ1:=Q.trans hQ0 hq1
 have D1:=C1.keep hq1 C1.lt
 have D2:=C2.keep hq1 C2.lt
 have D3:=C3.keep hq1 C3.lt
 have b0:=D2.cell 0
 simp only[List.getElem?_cons_zero]at b0
 go_wp2_with fail
 refine(HM.out _ (hE.q hQ1)).mono ?_
 clear b0 C1 C2 C3
 rintro e w2⟨rfl,hq2⟩
 have hQ2:=Q.trans hQ1 hq2
 have C1:=D1.keep hq2 D1.lt
 have C3:=D3.keep hq2 D3.lt
 have a0:=C1.cell 0
 simp only[List.getElem?_cons_zero]at a0
 go_wp2_with fail
 refine(HA.out _ (hE.q hQ2)).mono ?_
 clear a0 D1 D2 D3
 rintro e w3⟨rfl,hq3⟩
 have hQ3:=Q.trans hQ2 hq3
 have D1:=C1.keep hq3 C1.lt
 have D3:=C3.keep hq3 C3.lt
 have a1:=D1.cell 1
 have c0:=D3.cell 0
 have c1:=D3.cell 1
 have f0:=D3.frozen 0
 have f1:=D3.frozen 1
 have l3:=D3.lt
 simp only[zs4,zs5]at a1 c0 c1
 go_wp2
 refine bodyPost_ret (v:=.tuple #[.agg #[.string ⟨R.toArray⟩,.string ⟨L.toArray⟩],.int .i64 0])
  (zqx _ _ (w.heap.size+2) _ _ _ rfl rfl (((D3.set 0 _).set 1 _).cell 0) (((D3.set 0 _).set 1 _).cell 1)) rfl ⟨rfl,?_⟩
 exact(hQ3.setCell (p:=⟨w.heap.size+2,0,none⟩) (by simp) _).setCell (p:=⟨w.heap.size+2,1,none⟩) (by simp) _
end
section
open Go.RowKit Kp
open Go.Lib (decDigits)
theorem zqb:∀ (cs:List (Rat × Nat)) (t:Rat × Nat) (k:Nat) (hk:k<cs.length),(∀ j (hj:j<k),zfD ((t.2:Rat) / ((cs[j]'(by omega)).2:Rat))=false)→zfD ((t.2:Rat) / ((cs[k]).2:Rat))=true →
  zbA cs t=cs.set k (if t.2<(cs[k]).2 then zcK t cs[k]else zcK cs[k] t)
 | [],_,_,hk,_,_=>absurd hk (by simp)
 | c::r,t,0,_,_,h=>by
  unfold zbA
  exact if_pos (show zfD ((t.2:Rat) / (c.2:Rat))=true from h)
 | c::r,t,k+1,hk,h1,h=>by
  have h0:=h1 0 (by omega)
  simp only[List.getElem_cons_zero]at h0
  unfold zbA
  rw[if_neg (by rw[h0];decide),zqb r t k (by simpa using hk) (fun j hj=>by have:=h1 (j+1) (by omega);simpa using this) (by simpa using h)]
  rfl
theorem znw:∀ (cs:List (Rat × Nat)) (t:Rat × Nat),(∀ j (hj:j<cs.length),zfD ((t.2:Rat) / ((cs[j]).2:Rat))=false)→zbA cs t=cs++[t]
 | [],_,_=>rfl
 | c::r,t,h1=>by
  have h0:=h1 0 (by simp)
  simp only[List.getElem_cons_zero]at h0
  unfold zbA
  rw[if_neg (by rw[h0];decide),znw r t (fun j hj=>by have:=h1 (j+1) (by simp;omega);simpa using this)]
  rfl
theorem znv{w:World}{G g cap k:Nat}{cs rs:List (Rat × Nat)}{p:Str × Str}(hG:Blk w G [.slice (some ⟨g,0,none⟩) cs.length cap] 144)(hr:w.ownsRow (G+1) 148 2 (.slice (some ⟨g,0,none⟩) cs.length cap) cs.length (zcn (cs.map ofC)))
  (hs:zcn (rs.map ofC)=((zcn (cs.map ofC)).set (k*2) (.string ⟨p.1.toArray⟩)).set (k*2+1) (.string ⟨p.2.toArray⟩)∧rs.length=cs.length)(hne:rs≠[])(hgG:G≠g) :
  zmZ ((w.setCell ⟨g,k*2,none⟩ (.string ⟨p.1.toArray⟩)).setCell ⟨g,k*2+1,none⟩ (.string ⟨p.2.toArray⟩)) G rs:=by
 refine⟨_,(hG.setOther (Ne.symm hgG) _ _).setOther (Ne.symm hgG) _ _,fun e=>absurd e hne,?_⟩
 rw[hs.1,List.length_map,hs.2]
 exact((hr.stored (k*2) _).1.stored (k*2+1) _).1
theorem zmO{w w1:World}{G T g n cap:Nat}{o x y:Value}(hg:w.grownBy w1 (Value.slice (some ⟨g,0,none⟩) n cap).ownBlock)(hG:G<w.heap.size)(hT:T<w.heap.size)(hne:G≠T)(hGg:G≠g)(hTg:T≠g)(c:w.cell? ⟨G,0,none⟩=some o)
  (d0:w.cell? ⟨T,0,none⟩=some x)(d1:w.cell? ⟨T,1,none⟩=some y)(kf:w.frozen? ⟨G,0,none⟩=false) :
  w1.cell? ⟨G,0,none⟩=some o∧∀ v,(w1.setCell ⟨G,0,none⟩ v).cell? ⟨T,0,none⟩=some x∧(w1.setCell ⟨G,0,none⟩ v).cell? ⟨T,1,none⟩=some y∧(w1.setCell ⟨G,0,none⟩ v).frozen? ⟨G,0,none⟩=false:=by
 have n1:some G≠(Value.slice (some ⟨g,0,none⟩) n cap).ownBlock:=fun e=>hGg (Option.some.inj e)
 have n2:some T≠(Value.slice (some ⟨g,0,none⟩) n cap).ownBlock:=fun e=>hTg (Option.some.inj e)
 refine⟨(hg.cell_far ⟨G,0,none⟩ hG n1).trans c,fun v=>⟨?_,?_,?_⟩⟩
 ·exact(World.cell?_setCell_other w1 ⟨G,0,none⟩ ⟨T,0,none⟩ v (by intro h;exact hne (congrArg Addr.block h))).trans ((hg.cell_far ⟨T,0,none⟩ hT n2).trans d0)
 ·exact(World.cell?_setCell_other w1 ⟨G,0,none⟩ ⟨T,1,none⟩ v (by simp)).trans ((hg.cell_far ⟨T,1,none⟩ hT n2).trans d1)
 ·rw[World.frozen?_setCell];exact(hg.frozen_far ⟨G,0,none⟩ hG n1).trans kf
theorem zoD{w W w1:World}{G g n cap g4 cap4:Nat}{s1 s2:Str}{xs:List Value}{rs:List (Rat × Nat)}(hG:Blk W G [.slice (some ⟨g,0,none⟩) n cap] 144)(hgrow:W.drew.grownBy w1 (Value.slice (some ⟨g,0,none⟩) n cap).ownBlock)
  (hown:w1.ownsRow (G+1) 148 2 (.slice (some ⟨g4,0,none⟩) (n+1) cap4) (n+1) (xs++[.string ⟨s1.toArray⟩,.string ⟨s2.toArray⟩]))(hB:Below G w W.drew)(hl:G<W.drew.heap.size)(hGg:G<g)
  (hr:zcn (rs.map ofC)=xs++[.string ⟨s1.toArray⟩,.string ⟨s2.toArray⟩]∧rs.length=n+1)(hne:rs≠[]) :
  Below G w (w1.setCell ⟨G,0,none⟩ (.slice (some ⟨g4,0,none⟩) (n+1) cap4))∧zmZ (w1.setCell ⟨G,0,none⟩ (.slice (some ⟨g4,0,none⟩) (n+1) cap4)) G rs:=by
 have n1:some G≠(Value.slice (some ⟨g,0,none⟩) n cap).ownBlock:=fun e=>by
  have:=Option.some.inj e
  simp only at this;omega
 have bG:Blk w1 G [.slice (some ⟨g,0,none⟩) n cap] 144:=(hgrow.block G hl n1).trans hG
 have hb2:Below G w w1:=hB.grown hgrow (Nat.le_of_lt hl) (fun k hk=>by cases hk;exact Nat.le_of_lt hGg)
 refine⟨hb2.setCell (p:=⟨G,0,none⟩) (Nat.le_refl _) _,_,bG.set 0 _,fun e=>absurd e hne,?_⟩
 rw[hr.1,List.length_map,hr.2]
 exact ownsRow_setCell_below hown (by simp) _
theorem zgD{n:Nat}(h:n<10 ^ 80):lim (n:Int)=false:=zbb (n:=80) (by rw[Int.natAbs_natCast];exact h) (by decide)
theorem zho(cs:List (Rat × Nat))(t:Rat × Nat)(hcs:∀ c∈cs,CB c)(ht:CB t)(hne:cs≠[])(hlen:cs.length≤1000)(G:Nat)(w:World)(hE:Env w)(_hng:ng≤G)(hg:zmZ w G cs) :
  Calls Tryz.prog 83 #[.pointer (some ⟨G,0,none⟩),.agg #[.string ⟨(za t.1).toArray⟩,.string ⟨(Lib.itoa (t.2:Int)).toArray⟩]] w fun e w'=>e=.returned (.int .i64 0)∧Below G w w'∧zmZ w' G (zbA cs t):=by
 obtain⟨v,hG,-,hrow⟩:=hg
 have hl:(cs.map ofC).length=cs.length:=List.length_map _
 have hpos:0<cs.length:=List.length_pos_iff.2 hne
 obtain⟨g,cap,rfl,hg1,hg2⟩:=hrow.form (by omega)
 have HROW:=LH hrow
 have lG:=hG.lt
 rw[hl]at hrow hG
 obtain⟨x,l⟩:=t
 obtain⟨W1,hW1⟩:∃ W1,w.alloc (.cells [.string ⟨(za x).toArray⟩,.string ⟨(Lib.itoa (l:Int)).toArray⟩].toArray 84)=W1:=⟨_,rfl⟩
 have T1:Blk W1 w.heap.size [.string ⟨(za x).toArray⟩,.string ⟨(Lib.itoa (l:Int)).toArray⟩] 84:=by rw[← hW1];exact Blk.new w _ _
 have hQ1:Q w W1:=by rw[← hW1];exact(Below.refl _ w).alloc (Nat.le_refl _) _
 have hG1:=hG.keep hQ1 lG
 have g0:=hG1.cell 0
 have lG1:=hG1.lt
 simp only[List.getElem?_cons_zero]at g0
 simp only at ht ⊢
 have hn:(cs.length:Int)≤1000:=by omega
 have HCS:=LH hcs
 clear hcs hne HROW hl
 go_enter Tryz.func83,Tryz.ntmps83
 go_wp2
 clear hW1
 go_loopw [19] (fun i wr=>∃ k:Nat,k≤cs.length∧i=.int .i64 k∧Q W1 wr∧Hid (∀ j (hj:j<cs.length),j<k→zfD ((l:Rat) / ((cs[j]).2:Rat))=false)) (fun i _=>cs.length - (intOf i).toNat)
 case atStart=>exact⟨0,by omega,rfl,Q.refl _,LH (fun j _ h=>absurd h (by omega))⟩
 case round =>
  obtain⟨k,hk,rfl,hQ,HNO⟩:=hrel
  by_cases hlt:k<cs.length
  ·have hrr:=zf (zf hrow hQ1) hQ
   have hQw:=Q.trans hQ1 hQ
   have e0:=hrr.cellAt (k*2) (by omega)
   have e1:=hrr.cellAt (k*2+1) (by omega)
   have hk2:k<(cs.map ofC).length:=by rw[List.length_map];exact hlt
   have GET:=LH (zgj (cs.map ofC) k hk2)
   rw[(GET.out).1]at e0
   rw[(GET.out).2]at e1
   have hget:(cs.map ofC).getD k ([],[])=ofC cs[k]:=by rw[List.getD_eq_getElem?_getD,List.getElem?_map,List.getElem?_eq_getElem hlt];rfl
   rw[hget]at e0 e1 GET
   have hcb:=HCS.out cs[k] (List.getElem_mem hlt)
   have HAT:Hid (zfD ((l:Rat) / ((cs[k]).2:Rat))=true→zbA cs (x,l)=cs.set k (if l<(cs[k]).2 then zcK (x,l) cs[k]else zcK cs[k] (x,l))):=LH (fun h=>zqb cs (x,l) k hlt (fun j hj=>HNO.out j (by omega) hj) h)
   have HNO2:Hid (zfD ((l:Rat) / ((cs[k]).2:Rat))=false→∀ j (hj:j<cs.length),j<k+1→zfD ((l:Rat) / ((cs[j]).2:Rat))=false):=LH (fun h j hj hjk=>by
    rcases Nat.lt_or_ge j k with h1 | h1
    ·exact HNO.out j hj h1
    ·obtain rfl:j=k:=by omega
     exact h)
   have HRW:Hid (w.ownsRow (G+1) 148 2 (.slice (some ⟨g,0,none⟩) cs.length cap) cs.length (zcn (cs.map ofC))):=LH hrow
   have HK:Hid (k+1≤cs.length):=LH hlt
   clear hget hrr HNO hk2
   generalize cs[k]=c at *
   obtain⟨y,m⟩:=c
   simp only[ofC]at e0 e1 GET HAT HNO2
   have hcbm:=hcb
   have htl:=ht
   obtain⟨-,hm0,hm1⟩:=hcb
   obtain⟨-,hl0,hl1⟩:=ht
   simp only at hm0 hm1 hl0 hl1
   have hra:=fun w hw=>zfz m l hm0 hm1 hl0 hl1 w hw
   have HCMP:=LH (fun w hw=>zbY l m (zgD hl1) (zgD hm1) w hw)
   have L0:=Blk.new wr [.string ⟨(za y).toArray⟩,.string ⟨(Lib.itoa (m:Int)).toArray⟩] 148
   have hqa:=hQ.alloc hQ.size (Obj.cells [.string ⟨(za y).toArray⟩,.string ⟨(Lib.itoa (m:Int)).toArray⟩].toArray 148)
   have hqb:=Q.trans hQ1 hqa
   have t1:=(T1.keep hQ T1.lt).cell 1
   have lTr:=(T1.keep hQ T1.lt).lt
   simp only[zs4,zs5]at t1
   cases hsq:zfD ((l:Rat) / (m:Rat))with
   | false =>
    have HX:=LH (HNO2.out hsq)
    rw[hsq]at hra
    have HRA:=LH hra
    clear hra hsq HNO2 HAT HCMP
    go_wp2_with fail
    refine(HRA.out _ (hE.q hqb)).mono ?_
    rintro e w2⟨rfl,hq2⟩
    have hQ2:=Q.trans hqa hq2
    clear e0 e1 t1
    go_wp2
    go_roundw
    case rel=>exact⟨k+1,HK.out,by go_num,hQ2,LH HX.out⟩
    case measure=>simp[intOf];omega
   | true =>
    have HADD:=LH (HAT.out hsq)
    have hinv:=zng hm0 hl0 hsq
    rw[hsq]at hra
    have HRA:=LH hra
    have HPL1:=LH (fun w hw=>zjZ (x,l) (y,m) htl hcbm hinv w hw)
    have HPL2:=LH (fun w hw=>zjZ (y,m) (x,l) hcbm htl hsq w hw)
    clear hra hsq HNO2 HAT hinv hcbm htl
    by_cases hlm:l<m
    ·have hc1:Lib.compareInt (l:Int) (m:Int) = -1:=by unfold Lib.compareInt;rw[if_pos (by omega)]
     rw[hc1]at HCMP
     have SETS:Hid (zcn ((zbA cs (x,l)).map ofC)=((zcn (cs.map ofC)).set (k*2) (.string ⟨(za (zcK (x,l) (y,m)).1).toArray⟩)).set (k*2+1) (.string ⟨(Lib.itoa ((zcK (x,l) (y,m)).2:Int)).toArray⟩)∧(zbA cs (x,l)).length=cs.length):=LH (by
      rw[HADD.out,if_pos hlm,List.map_set,← zkl _ k (ofC (zcK (x,l) (y,m))),List.length_set];exact⟨rfl,rfl⟩)
     clear hc1 hlm HPL2 HADD hl0 hl1 hm0 hm1
     generalize za (zcK (x,l) (y,m)).1=PR at *
     generalize Lib.itoa ((zcK (x,l) (y,m)).2:Int)=PM at *
     generalize Lib.itoa (l:Int)=L at *
     generalize Lib.itoa (m:Int)=M at *
     generalize za x=X at *
     generalize za y=Y at *
     go_wp2_with fail
     refine(HRA.out _ (hE.q hqb)).mono ?_
     rintro e w2⟨rfl,hq2⟩
     have hQ2:=Q.trans hqa hq2
     have T2:=(T1.keep hQ2 T1.lt)
     have L2:=L0.keep hq2 L0.lt
     clear e0 e1 t1
     have t0:=T2.cell 0
     have t1:=T2.cell 1
     have lT2:=T2.lt
     have lL2:=L2.lt
     have d1:=L2.cell 1
     simp only[zs4,zs5]at t0 t1 d1
     have H0:=Blk.new w2 [.string ⟨X.toArray⟩,.string ⟨L.toArray⟩] 148
     have hqh:=hQ2.alloc hQ2.size (Obj.cells [.string ⟨X.toArray⟩,.string ⟨L.toArray⟩].toArray 148)
     go_wp2_with fail
     refine(HCMP.out _ (hE.q (Q.trans hQ1 hqh))).mono ?_
     rintro e w3⟨rfl,hq3⟩
     have hQ3:Q w w3:=Q.trans hQ1 (Q.trans hqh hq3)
     have L3:=(L2.alloc (Obj.cells [.string ⟨X.toArray⟩,.string ⟨L.toArray⟩].toArray 148)).keep hq3 (by simp;omega)
     have H3:=H0.keep hq3 H0.lt
     clear t0 t1 d1 T2 L2
     have a0:=L3.cell 0
     have a1:=L3.cell 1
     have b0:=H3.cell 0
     have b1:=H3.cell 1
     have fa0:=L3.frozen 0
     have fa1:=L3.frozen 1
     have fb0:=H3.frozen 0
     have fb1:=H3.frozen 1
     have lL3:=L3.lt
     have lH3:=H3.lt
     have hne1:wr.heap.size≠w2.heap.size:=by omega
     simp only[zs4,zs5]at a0 a1 b0 b1
     have hsw:w.heap.size≤wr.heap.size:=hQw.size
     have hsw2:w.heap.size≤w2.heap.size:=by omega
     have hQ3':Q w ((((w3.setCell ⟨wr.heap.size,0,none⟩ (.string ⟨X.toArray⟩)).setCell ⟨wr.heap.size,1,none⟩ (.string ⟨L.toArray⟩)).setCell ⟨w2.heap.size,0,none⟩ (.string ⟨Y.toArray⟩)).setCell ⟨w2.heap.size,1,none⟩ (.string ⟨M.toArray⟩)) :=
      (((hQ3.setCell (p:=⟨wr.heap.size,0,none⟩) hsw _).setCell (p:=⟨wr.heap.size,1,none⟩) hsw _).setCell (p:=⟨w2.heap.size,0,none⟩) hsw2 _).setCell (p:=⟨w2.heap.size,1,none⟩) hsw2 _
     go_wp2_with fail
     refine(HPL1.out _ (hE.q hQ3')).mono ?_
     rintro e w4⟨rfl,hq4⟩
     have hQ4:=Q.trans hQ3' hq4
     have S0:=Blk.new w4 [.string ⟨PR.toArray⟩,.string ⟨PM.toArray⟩] 148
     have hQ5:Q w (w4.alloc (.cells [.string ⟨PR.toArray⟩,.string ⟨PM.toArray⟩].toArray 148)):=hQ4.alloc hQ4.size _
     have s0:=S0.drew.cell 0
     have s1:=S0.drew.cell 1
     have G5:=(hG.keep hQ5 lG).drew
     have g5:=G5.cell 0
     have lS:=S0.lt
     have lG5:=G5.lt
     simp only[zs4,zs5]at s0 s1 g5
     go_wp2_with fail
     refine zo 7 rfl (by kernel_rfl) rfl ?_
     refine svp 0 ?_
     refine svp 1 ?_
     refine svp 2 ?_
     refine svq 3 rfl (by intro w' hq;have hc0:=ze hq g5;go_simp;try with_reducible rfl) ?_
     refine svp 4 ?_
     refine svq 5 rfl (by intro w' hq;have hc0:=ze hq s0;have hc1:=ze hq s1;go_simp;try with_reducible rfl) ?_
     refine svp 6 ?_
     refine zi (by kernel_rfl) (fun w6 hq6=>?_)
     simp only[List.drop_succ_cons,List.drop_zero]
     have hQ6:Q w w6:=Below.trans (Below.drew hQ5) (hq6.mono hQ5.size)
     have hr6:=zf HRW.out hQ6
     have f0:=hr6.frozenAt (k*2)
     have f1:=hr6.frozenAt (k*2+1)
     have q0:=hr6.cellAt (k*2) (by omega)
     have q1:=hr6.cellAt (k*2+1) (by omega)
     rw[(GET.out).1]at q0
     rw[(GET.out).2]at q1
     have hG6:=hG.keep hQ6 lG
     have HDONE:=LH (znv (p:=(PR,PM)) (k:=k) hG6 hr6 SETS.out (fun e=>by have:=SETS.out.2;rw[e]at this;simp at this;omega) (by omega))
     have hB6:Below G w w6:=hQ6.mono (Nat.le_of_lt lG)
     have HB7:Hid (Below G w ((w6.setCell ⟨g,k*2,none⟩ (.string ⟨PR.toArray⟩)).setCell ⟨g,k*2+1,none⟩ (.string ⟨PM.toArray⟩))):=LH ((hB6.setCell (p:=⟨g,k*2,none⟩) (show G≤g by omega) _).setCell (p:=⟨g,k*2+1,none⟩) (show G≤g by omega) _)
     clear hr6 hG6 hB6 hQ6 hQ5 S0 G5 g5 s0 s1
     go_wp2
     go_ret
     exact⟨rfl,HB7.out,HDONE.out⟩
    ·have hc1:¬ Lib.compareInt (l:Int) (m:Int)<0:=by unfold Lib.compareInt;rw[if_neg (by omega)];split <;> decide
     have SETS:Hid (zcn ((zbA cs (x,l)).map ofC)=((zcn (cs.map ofC)).set (k*2) (.string ⟨(za (zcK (y,m) (x,l)).1).toArray⟩)).set (k*2+1) (.string ⟨(Lib.itoa ((zcK (y,m) (x,l)).2:Int)).toArray⟩)∧(zbA cs (x,l)).length=cs.length):=LH (by
      rw[HADD.out,if_neg hlm,List.map_set,← zkl _ k (ofC (zcK (y,m) (x,l))),List.length_set];exact⟨rfl,rfl⟩)
     clear hlm HPL1 HADD hl0 hl1 hm0 hm1
     generalize za (zcK (y,m) (x,l)).1=PR at *
     generalize Lib.itoa ((zcK (y,m) (x,l)).2:Int)=PM at *
     generalize Lib.compareInt (l:Int) (m:Int)=cc at *
     generalize Lib.itoa (l:Int)=L at *
     generalize Lib.itoa (m:Int)=M at *
     generalize za x=X at *
     generalize za y=Y at *
     go_wp2_with fail
     refine(HRA.out _ (hE.q hqb)).mono ?_
     rintro e w2⟨rfl,hq2⟩
     have hQ2:=Q.trans hqa hq2
     have T2:=(T1.keep hQ2 T1.lt)
     have L2:=L0.keep hq2 L0.lt
     clear e0 e1 t1
     have t0:=T2.cell 0
     have t1:=T2.cell 1
     have lT2:=T2.lt
     have lL2:=L2.lt
     have d1:=L2.cell 1
     simp only[zs4,zs5]at t0 t1 d1
     have H0:=Blk.new w2 [.string ⟨X.toArray⟩,.string ⟨L.toArray⟩] 148
     have hqh:=hQ2.alloc hQ2.size (Obj.cells [.string ⟨X.toArray⟩,.string ⟨L.toArray⟩].toArray 148)
     go_wp2_with fail
     refine(HCMP.out _ (hE.q (Q.trans hQ1 hqh))).mono ?_
     rintro e w3⟨rfl,hq3⟩
     have hQ3':Q w w3:=Q.trans hQ1 (Q.trans hqh hq3)
     have L3:=(L2.alloc (Obj.cells [.string ⟨X.toArray⟩,.string ⟨L.toArray⟩].toArray 148)).keep hq3 (by simp;omega)
     have H3:=H0.keep hq3 H0.lt
     clear t0 t1 d1 T2 L2
     have a0:=L3.cell 0
     have a1:=L3.cell 1
     have b0:=H3.cell 0
     have b1:=H3.cell 1
     have lL3:=L3.lt
     have lH3:=H3.lt
     simp only[zs4,zs5]at a0 a1 b0 b1
     go_wp2_with fail
     refine(HPL2.out _ (hE.q hQ3')).mono ?_
     rintro e w4⟨rfl,hq4⟩
     have hQ4:=Q.trans hQ3' hq4
     have S0:=Blk.new w4 [.string ⟨PR.toArray⟩,.string ⟨PM.toArray⟩] 148
     have hQ5:Q w (w4.alloc (.cells [.string ⟨PR.toArray⟩,.string ⟨PM.toArray⟩].toArray 148)):=hQ4.alloc hQ4.size _
     have s0:=S0.drew.cell 0
     have s1:=S0.drew.cell 1
     have G5:=(hG.keep hQ5 lG).drew
     have g5:=G5.cell 0
     have lS:=S0.lt
     have lG5:=G5.lt
     simp only[zs4,zs5]at s0 s1 g5
     go_wp2_with fail
     refine zo 7 rfl (by kernel_rfl) rfl ?_
     refine svp 0 ?_
     refine svp 1 ?_
     refine svp 2 ?_
     refine svq 3 rfl (by intro w' hq;have hc0:=ze hq g5;go_simp;try with_reducible rfl) ?_
     refine svp 4 ?_
     refine svq 5 rfl (by intro w' hq;have hc0:=ze hq s0;have hc1:=ze hq s1;go_simp;try with_reducible rfl) ?_
     refine svp 6 ?_
     refine zi (by kernel_rfl) (fun w6 hq6=>?_)
     simp only[List.drop_succ_cons,List.drop_zero]
     have hQ6:Q w w6:=Below.trans (Below.drew hQ5) (hq6.mono hQ5.size)
     have hr6:=zf HRW.out hQ6
     have f0:=hr6.frozenAt (k*2)
     have f1:=hr6.frozenAt (k*2+1)
     have q0:=hr6.cellAt (k*2) (by omega)
     have q1:=hr6.cellAt (k*2+1) (by omega)
     rw[(GET.out).1]at q0
     rw[(GET.out).2]at q1
     have hG6:=hG.keep hQ6 lG
     have HDONE:=LH (znv (p:=(PR,PM)) (k:=k) hG6 hr6 SETS.out (fun e=>by have:=SETS.out.2;rw[e]at this;simp at this;omega) (by omega))
     have hB6:Below G w w6:=hQ6.mono (Nat.le_of_lt lG)
     have HB7:Hid (Below G w ((w6.setCell ⟨g,k*2,none⟩ (.string ⟨PR.toArray⟩)).setCell ⟨g,k*2+1,none⟩ (.string ⟨PM.toArray⟩))):=LH ((hB6.setCell (p:=⟨g,k*2,none⟩) (show G≤g by omega) _).setCell (p:=⟨g,k*2+1,none⟩) (show G≤g by omega) _)
     clear hr6 hG6 hB6 hQ6 hQ5 S0 G5 g5 s0 s1
     go_wp2
     go_ret
     exact⟨rfl,HB7.out,HDONE.out⟩
  ·obtain rfl:k=cs.length:=by omega
   have HNEW:Hid (zbA cs (x,l)=cs++[(x,l)]):=LH (znw cs (x,l) (fun j hj=>HNO.out j hj hj))
   have hQw:=Q.trans hQ1 hQ
   have T2:=T1.keep hQ T1.lt
   have G2:=hG1.keep hQ hG1.lt
   have hrr:=zf (zf hrow hQ1) hQ
   have HRX:Hid (zcn ((zbA cs (x,l)).map ofC)=zcn (cs.map ofC)++[.string ⟨(za x).toArray⟩,.string ⟨(Lib.itoa (l:Int)).toArray⟩]∧(zbA cs (x,l)).length=cs.length+1):=LH (by
    rw[HNEW.out,List.map_append,zh5,List.length_append];exact⟨rfl,rfl⟩)
   have HNE:Hid (zbA cs (x,l)≠[]):=LH (by rw[HNEW.out];simp)
   obtain⟨i0,hi,hz0,hz1,hz2⟩:=zb6 zlT
   have HI:=LH hi
   have HZ:=LH hz0
   have HS:=LH hz1
   have HB:=LH hz2
   clear hi hz0 hz1 hz2 HNO HNEW ht HCS
   generalize zcn (cs.map ofC)=xs at *
   generalize Lib.itoa (l:Int)=L at *
   generalize za x=X at *
   have g0r:=G2.cell 0
   have t0r:=T2.cell 0
   have t1r:=T2.cell 1
   have kf:=G2.frozen 0
   have lG2:=G2.lt
   have lT2:=T2.lt
   have hGT:G≠w.heap.size:=by omega
   have hGg:G≠g:=by omega
   have hTg:w.heap.size≠g:=by omega
   have hnew:=Blk.new wr [.string ⟨X.toArray⟩,.string ⟨L.toArray⟩] 148
   have G3:=G2.alloc (Obj.cells #[.string ⟨X.toArray⟩,.string ⟨L.toArray⟩] 148)
   have T3:=T2.alloc (Obj.cells #[.string ⟨X.toArray⟩,.string ⟨L.toArray⟩] 148)
   have k02:=G3.cell 0
   have d02:=T3.cell 0
   have d12:=T3.cell 1
   have kf2:=G3.frozen 0
   have hlG:G<(wr.alloc (Obj.cells #[.string ⟨X.toArray⟩,.string ⟨L.toArray⟩] 148)).drew.heap.size:=by simp;omega
   have hlT:w.heap.size<(wr.alloc (Obj.cells #[.string ⟨X.toArray⟩,.string ⟨L.toArray⟩] 148)).drew.heap.size:=by simp;omega
   have hown0:=(hrr.alloc (Obj.cells #[.string ⟨X.toArray⟩,.string ⟨L.toArray⟩] 148)).drew
   simp only[zs4,zs5]at g0r t0r t1r k02 d02 d12
   have hB2:Below G w (wr.alloc (Obj.cells #[.string ⟨X.toArray⟩,.string ⟨L.toArray⟩] 148)).drew:=((hQw.mono (Nat.le_of_lt lG)).alloc (by omega) _).drew
   have HG3:=LH G3
   have HGW:Hid (G+1≤wr.heap.size):=LH lG2
   clear G3 T3 G2 T2 hG hG1 hrow hrr hQ hQ1 T1 hE
   go_wp2_with fail
   go_region_law
    (first | (refine step_append_lies _ (by rfl) (.tmp 73) (.tmp 79) 142 (by rfl) (G+1) 148 i0 _ 2 32 Tryz.underlying142 HI.out HZ.out HS.out HB.out rfl (by decide) (.slice (some ⟨g,0,none⟩) cs.length cap) cs.length xs (by rfl) hown0 ⟨wr.heap.size,0,none⟩ 1 1 [.string ⟨X.toArray⟩,.string ⟨L.toArray⟩] (by rfl) (by rfl) (World.news_of_block (cs:=#[.string ⟨X.toArray⟩,.string ⟨L.toArray⟩]) (t:=148) (fr:=(0,0)) hnew) (by simp[Value.oneCell']) (by decide) (by unfold maxLen;omega) (by omega) (by simp;have:=HGW.out;omega) (wr.heap.size+1) (by simp) ?_;intro g4 cap4 w1 hown hgrow hat hlt4;have hh:=zmO (w1:=w1) (T:=w.heap.size) (x:=.string ⟨X.toArray⟩) (y:=.string ⟨L.toArray⟩) hgrow hlG hlT hGT hGg hTg k02 d02 d12 kf2;have c1:=hh.1;have fz:=zpN hh.2))
   all_goals go_wp2
   all_goals go_ret
   all_goals exact⟨rfl,zoD HG3.out hgrow hown hB2 hlG (by omega) HRX.out HNE.out⟩
theorem zlX(cs:List (Rat × Nat))(t:Rat × Nat)(hcs:∀ c∈cs,CB c)(ht:CB t)(hlen:cs.length≤1000)(G:Nat)(w:World)(hE:Env w)(hng:ng≤G)(hg:zmZ w G cs) :
  Calls Tryz.prog 83 #[.pointer (some ⟨G,0,none⟩),.agg #[.string ⟨(za t.1).toArray⟩,.string ⟨(Lib.itoa (t.2:Int)).toArray⟩]] w fun e w'=>e=.returned (.int .i64 0)∧Below G w w'∧zmZ w' G (zbA cs t):=by
 by_cases h:cs=[]
 ·subst h
  obtain⟨v,hG,hv,-⟩:=hg
  obtain rfl:=hv rfl
  refine(zcm G _ _ w hG).mono ?_
  rintro e w'⟨he,hb,v,h1,h2⟩
  exact⟨he,hb,v,h1,(fun e=>by simp[zbA]at e),h2⟩
 ·exact zho cs t hcs ht h hlen G w hE hng hg
end
section
open Go.RowKit Kp
open Go.Lib (decDigits)
def zhJ(ts:List (Rat × Rat)):List (Rat × Nat):=ts.foldl (fun cs t=>zbA cs (t.1*aOf t.2,leftOf t.2)) []
theorem zl8(ts:List (Rat × Rat))(t:Rat × Rat):zhJ (ts++[t])=zbA (zhJ ts) (t.1*aOf t.2,leftOf t.2):=by unfold zhJ;rw[List.foldl_append];rfl
theorem zgV:∀ (cs:List (Rat × Nat)) (t:Rat × Nat),(zbA cs t).length≤cs.length+1
 | [],_=>by simp[zbA]
 | c::r,t=>by
  unfold zbA
  have:=zgV r t
  split <;> simp <;> omega
theorem znr(ts:List (Rat × Rat)):(zhJ ts).length≤ts.length:=by
 have key:∀ (ts:List (Rat × Rat)) (cs:List (Rat × Nat)),(ts.foldl (fun cs t=>zbA cs (t.1*aOf t.2,leftOf t.2)) cs).length≤cs.length+ts.length:=by
  intro ts
  induction ts with
  | nil=>intro cs;simp
  | cons t r ih =>
   intro cs
   have h1:=ih (zbA cs (t.1*aOf t.2,leftOf t.2))
   have h2:=zgV cs (t.1*aOf t.2,leftOf t.2)
   simp only[List.foldl_cons,List.length_cons]
   omega
 have:=key ts []
 simpa[zhJ]using this
structure VT (t:Rat × Rat):Prop where
 ne:t.1≠0
 c:Bd 80 t.1
 pos:0<t.2.num
 r:Bd 40 t.2
 cb:CB (t.1*aOf t.2,leftOf t.2)
theorem zon:leftOf 1=1:=by unfold leftOf;rw[show ((1:Rat)).num.toNat*((1:Rat)).den=1 from rfl,zeZ]
theorem zij(ts : List (Rat × Rat))(hts : ∀ t ∈ ts, VT t)(hcs : ∀ k, k ≤ ts.length → ∀ c ∈ zhJ (ts.take k), CB c)(hlen : ts.length ≤ 1000)(G : Nat)(v : Value)(w : World)(hE : Env w)(hng : ng ≤ G)(hsl : TSl w G v (ts.map ofT))(hg : zmZ w G []) :
    Calls Tryz.prog 82 #[v, .func (.func 83) #[.pointer (some ⟨G, 0, none⟩)] #[]] w fun e w' => e = .returned (.int .i64 0) ∧ Below G w w' ∧ zmZ w' G (zhJ ts) := by
  obtain⟨a, cap, rfl, hGs, hc⟩ := hsl
  rw[List.length_map]at hc
  rw[List.length_map]
  have lG : G < w.heap.size := by obtain⟨v, h, -⟩ := hg;exact h.lt
  go_enter Tryz.func82, Tryz.ntmps82
  go_wp2
  go_loopw [13] (fun i wr => ∃ k : Nat, k ≤ ts.length ∧ i = .int .i64 k ∧ Below G w wr ∧ zmZ wr G (zhJ (ts.take k))) (fun i _ => ts.length - (intOf i).toNat)
  case atStart => exact⟨0, by omega, rfl, Below.refl _ _, hg⟩
  case round =>
    obtain⟨k, hk, rfl, hB, hgr⟩ := hrel
    by_cases hlt : k < ts.length
    · obtain⟨b, o, ha, hbG, c0, c1⟩ := hc k hlt
      subst ha
      have d0 := (hB.cell (p := ⟨b, o + k * 2, none⟩) hbG).trans c0
      have d1 := (hB.cell (p := ⟨b, o + k * 2 + 1, none⟩) hbG).trans c1
      have hget : (ts.map ofT).getD k ([], []) = ofT ts[k] := by rw[List.getD_eq_getElem?_getD, List.getElem?_map, List.getElem?_eq_getElem hlt];rfl
      have hV := hts ts[k] (List.getElem_mem hlt)
      have htk : ts.take (k + 1) = ts.take k ++ [ts[k]] := List.take_succ_eq_append_getElem hlt
      have hcs' := hcs (k + 1) hlt
      have hcs0 := hcs k hk
      have HL : Hid (k + 1 ≤ ts.length) := LH hlt
      have clen : (zhJ (ts.take k)).length ≤ 1000 := by have := znr (ts.take k); have h2 : (ts.take k).length ≤ ts.length := by rw [List.length_take]; omega
                                                        omega
      rw[htk, zl8]at hcs'
      rw[hget]at d0 d1
      have HT : Hid (zhJ (ts.take (k + 1)) = zbA (zhJ (ts.take k)) (ts[k].1 * aOf ts[k].2, leftOf ts[k].2)) := LH (by rw[htk];exact zl8 _ _)
      clear c0 c1 hget hc htk hcs hts
      generalize zhJ (ts.take k) = cs at *
      generalize ts[k] = t at *
      have hEr : Env wr := hE.below hng hB
      have lGr : G ≤ wr.heap.size := Nat.le_trans hGs hB.size
      obtain⟨c, r⟩ := t
      obtain⟨hc0, bc, hp, br, hcb⟩ := hV
      simp only[ofT]at *
      have hcz : (za c == [48]) = false := by
        rw[beq_eq_false_iff_ne, ← zI];exact fun h => hc0 (zav h)
      have hrz : (za r == [48]) = false := by
        rw[beq_eq_false_iff_ne, ← zI];exact fun h => by have := zav h;subst this;simp at hp
      have HADD := LH (fun w hw hg => zlX cs (c * aOf r, leftOf r) hcs0 hcb (by have := clen;omega) G w hw hng hg)
      have bl : Bd 80 (leftOf r : Rat) := hcb.root
      have hV1 : zbi (leftOf r : Rat) ≤ 90 := by have := zbd bl (by decide);omega
      have hV0 := zai (leftOf r : Rat)
      have ba := zj3 br hp
      have hL := fun w hw => zY (leftOf r : Rat) (bl.zak (by decide)) w hw
      rw[zT]at hL
      have HLG := LH hL
      have HM := LH (fun w hw => zM c (aOf r) bc ba (by decide) w hw)
      generalize zbi (leftOf r : Rat) = lv at *
      have lbr := Nat.lt_of_lt_of_le hbG (Nat.le_trans hGs hB.size)
      by_cases hr1 : r = 1
      · have hro : (za r == [49]) = true := by rw[hr1, zaM];rfl
        have e1 : za (aOf r) = [49] := by rw[hr1, zqd, zaM]
        have e2 : Lib.itoa (leftOf r : Int) = za r := by rw[hr1, zon, zaM, show ((1 : Nat) : Int) = 1 from rfl, zZ]
        rw[e2]at HLG HADD
        rw[e1]at HM
        clear hc0 bc hp br hcb hcs0 bl ba hL e1 e2 hr1 hcs'
        generalize zbA cs (c * aOf r, leftOf r) = cs' at *
        generalize za (c * aOf r) = P at *
        generalize za c = C at *
        generalize za r = R at *
        go_wp2_with fail
        have BT := Blk.new wr [.string ⟨C.toArray⟩, .string ⟨R.toArray⟩] 84
        have t0 := BT.cell 0
        have t1 := BT.cell 1
        simp only[zs4,zs5]at t0 t1
        have hq0 : Q wr (wr.alloc (Obj.cells [.string ⟨C.toArray⟩, .string ⟨R.toArray⟩].toArray 84)) := (Below.refl _ wr).alloc (Nat.le_refl _) _
        go_quiet (fail)
        go_wp2_with fail
        have hQ1 := Below.drewN hq0 nq
        have B1 := BT.drewN nq
        clear hq0 BT t0 t1 d0 d1
        refine(HLG.out _ (hEr.q hQ1)).mono ?_
        rintro e w2⟨rfl, hq2⟩
        have hQ2 := Q.trans hQ1 hq2
        have B2 := B1.keep hq2 B1.lt
        have d2 := B2.cell 0
        simp only[List.getElem?_cons_zero]at d2
        clear hq2 hQ1 B1
        go_wp2_with fail
        refine(HM.out _ (hEr.q hQ2)).mono ?_
        rintro e w3⟨rfl, hq3⟩
        have hQ3 := Q.trans hQ2 hq3
        clear hq3 hQ2 B2 d2
        go_wp2_with fail
        refine(HADD.out _ (hEr.q hQ3) (hgr.keep hQ3)).mono ?_
        rintro e w4⟨rfl, hB4, hg4⟩
        have hB5 : Below G w w4 := hB.trans ((hQ3.mono lGr).trans hB4)
        go_wp2
        go_roundw
        case rel => exact⟨k + 1, HL.out, by go_num, hB5, by rw[HT.out];exact hg4⟩
        case measure => simp[intOf];omega
      · have hro : (za r == [49]) = false := by
          rw[beq_eq_false_iff_ne, ← zaM];exact fun h => hr1 (zav h)
        have hN : ∀ w, Env w → Calls Tryz.prog 138 #[.string ⟨(za r).toArray⟩] w fun e w' => e = .returned (.tuple #[.string ⟨(za (aOf r)).toArray⟩, .string ⟨(Lib.itoa (leftOf r : Int)).toArray⟩, .int .i64 0]) ∧ Q w w' := fun w hw => zei r (br.root90 (by decide)) hp w hw
        have HN := LH hN
        clear hc0 bc hp br hcb hcs0 bl ba hL hr1 hcs' hN
        generalize zbA cs (c * aOf r, leftOf r) = cs' at *
        generalize za (c * aOf r) = P at *
        generalize za (aOf r) = A at *
        generalize Lib.itoa (leftOf r : Int) = LL at *
        generalize za c = C at *
        generalize za r = R at *
        go_wp2_with fail
        have BT := Blk.new wr [.string ⟨C.toArray⟩, .string ⟨R.toArray⟩] 84
        have t0 := BT.cell 0
        have t1 := BT.cell 1
        simp only[zs4,zs5]at t0 t1
        have hq0 : Q wr (wr.alloc (Obj.cells [.string ⟨C.toArray⟩, .string ⟨R.toArray⟩].toArray 84)) := (Below.refl _ wr).alloc (Nat.le_refl _) _
        go_quiet (fail)
        go_wp2_with fail
        have hqn := Below.drewN hq0 nq
        refine(HN.out _ (hEr.q hqn)).mono ?_
        rintro e w1⟨rfl, hq1⟩
        have hQ1 := Q.trans hqn hq1
        have B1 := (BT.drewN nq).keep hq1 (by simp)
        clear hq1 hqn hq0 BT t0 t1 d0 d1
        go_wp2_with fail
        refine(HLG.out _ (hEr.q hQ1)).mono ?_
        rintro e w2⟨rfl, hq2⟩
        have hQ2 := Q.trans hQ1 hq2
        have B2 := B1.keep hq2 B1.lt
        have d2 := B2.cell 0
        simp only[List.getElem?_cons_zero]at d2
        clear hq2 hQ1 B1
        go_wp2_with fail
        refine(HM.out _ (hEr.q hQ2)).mono ?_
        rintro e w3⟨rfl, hq3⟩
        have hQ3 := Q.trans hQ2 hq3
        clear hq3 hQ2 B2 d2
        go_wp2_with fail
        refine(HADD.out _ (hEr.q hQ3) (hgr.keep hQ3)).mono ?_
        rintro e w4⟨rfl, hB4, hg4⟩
        have hB5 : Below G w w4 := hB.trans ((hQ3.mono lGr).trans hB4)
        go_wp2
        go_roundw
        case rel => exact⟨k + 1, HL.out, by go_num, hB5, by rw[HT.out];exact hg4⟩
        case measure => simp[intOf];omega
    · obtain rfl : k = ts.length := by omega
      rw[List.take_length]at hgr
      go_wp2
      go_ret
      exact⟨rfl, hB, hgr⟩
end
end Go.Proofs.YtbpghkdadajomaaGreatDoor
