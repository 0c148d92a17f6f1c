/-
  RA RM RO RP RR RB RD RC, one behind the other.
-/
import Derived.Test.YtbpghkdadajomaaGreatDoorSQ
set_option maxRecDepth 100000
set_option maxHeartbeats 4000000
namespace Go.Proofs.YtbpghkdadajomaaGreatDoor
section
open Go.RowKit Kp
open Go.Lib (decDigits)
theorem zeH(x y:Rat)(hx:zF x)(hy:zF y)(w:World) :
  Calls Tryz.prog 57 #[.string ⟨(ze x).toArray⟩,.string ⟨(ze y).toArray⟩] w fun e w'=>e=.returned (.tuple #[.int .i64 (Lib.compareInt (x.num*y.den) (y.num*x.den)),.int .i64 0])∧Q w w':=by
 have l1:=zbo (zF.root90 hx).zav
 have l2:=zbo (zF.root90 hy).zav
 have N1:=LH (fun w=>zB (ze x) (by omega) w)
 have N2:=LH (fun w=>zB (ze y) (by omega) w)
 rw[zaM hx]at N1
 rw[zaM hy]at N2
 have b1:=hx.1
 have b2:=hx.2
 have b3:=hy.1
 have b4:=hy.2
 have hd1:(0:Int)<x.den:=by have:=x.den_pos;omega
 have hd2:(0:Int)<y.den:=by have:=y.den_pos;omega
 have p1:(x.num*(y.den:Int)).natAbs<10000000000000000:=by
  rw[Int.natAbs_mul,Int.natAbs_natCast]
  have:=Nat.mul_lt_mul'' b1 b4
  omega
 have p2:(y.num*(x.den:Int)).natAbs<10000000000000000:=by
  rw[Int.natAbs_mul,Int.natAbs_natCast]
  have:=Nat.mul_lt_mul'' b3 b2
  omega
 generalize (x.den:Int)=xd at *
 generalize (y.den:Int)=yd at *
 generalize x.num=xn at *
 generalize y.num=yn at *
 generalize ze x=X at *
 generalize ze y=Y at *
 have q1:-10000000000000000<xn*yd:=by omega
 have q2:xn*yd<10000000000000000:=by omega
 have q3:-10000000000000000<yn*xd:=by omega
 have q4:yn*xd<10000000000000000:=by omega
 clear p1 p2 b1 b2 b3 b4 hx hy l1 l2
 go_enter Tryz.func57,Tryz.ntmps57
 go_wp2_with fail
 refine(N1.out _).mono ?_
 rintro e w1⟨rfl,hq1⟩
 go_wp2_with fail
 refine(N2.out _).mono ?_
 rintro e w2⟨rfl,hq2⟩
 have hQ2:Q w w2:=Q.trans hq1 (Q.trans ((Below.refl _ w1).alloc (Nat.le_refl _) _) hq2)
 have B1:=(Blk.new w1 [.int .i64 xn,.int .i64 xd] 103).keep hq2 (by simp)
 have l1:=B1.lt
 have c0:=B1.cell 0
 have c1:=B1.cell 1
 simp only[zs4,zs5]at c0 c1
 go_wp2_with fail
 refine(Tryz.cmp_Compare_int _ _ _).mono ?_
 rintro e w3⟨rfl,rfl⟩
 go_wp2
 go_ret2
 exact⟨rfl,hQ2.alloc hQ2.size _⟩
theorem zeZ(x y:Rat)(hx:zav x=false)(hy:zav y=false)(hs:¬ (zF x∧zF y))(h1:lim (x.num*y.den)=false)(h2:lim (y.num*(x.den:Int))=false)(w:World)(hE:Env w) :
  Calls Tryz.prog 57 #[.string ⟨(ze x).toArray⟩,.string ⟨(ze y).toArray⟩] w fun e w'=>e=.returned (.tuple #[.int .i64 (Lib.compareInt (x.num*y.den) (y.num*x.den)),.int .i64 0])∧Q w w':=by
 have l1:=zbo hx
 have l2:=zbo hy
 have hor:=zcr hs
 have N1:=LH (fun w=>zB (ze x) (by omega) w)
 have N2:=LH (fun w=>zB (ze y) (by omega) w)
 have R1:=LH (fun w hw=>zak x hx w hw)
 have R2:=LH (fun w hw=>zak y hy w hw)
 have C:=LH (fun w hw=>zb7 x.num (x.den:Int) y.num (y.den:Int) (zA hx).1 (zA hx).2 (zA hy).1 (zA hy).2 h1 h2 w hw)
 have K:=LH (fun w=>za2 (x.num*y.den) (y.num*(x.den:Int)) h1 h2 w)
 clear hx hy hs h1 h2 l1 l2
 generalize Lib.compareInt (x.num*y.den) (y.num*(x.den:Int))=ans at *
 cases hn:zcC (ze x)with
 | none =>
  rw[zds hn]at N1
  clear hn hor N2
  generalize Lib.itoa x.num=XN at *
  generalize Lib.itoa (x.den:Int)=XD at *
  generalize Lib.itoa y.num=YN at *
  generalize Lib.itoa (y.den:Int)=YD at *
  go_enter Tryz.func57,Tryz.ntmps57
  go_wp2_with fail
  refine(N1.out _).mono ?_
  rintro e w1⟨rfl,hq1⟩
  have hQ1:=hq1.alloc hq1.size (.cells #[.int .i64 0,.int .i64 0] 103)
  go_wp2_with fail
  refine(R1.out _ (hE.q hQ1)).mono ?_
  rintro e w2⟨rfl,hq2⟩
  have hQ2:=Q.trans hQ1 hq2
  have hQ2':=hQ2.alloc hQ2.size (.cells #[.string ⟨XN.toArray⟩,.string ⟨XD.toArray⟩] 110)
  have X0:=Blk.new w2 [.string ⟨XN.toArray⟩,.string ⟨XD.toArray⟩] 110
  go_wp2_with fail
  refine(R2.out _ (hE.q hQ2')).mono ?_
  rintro e w3⟨rfl,hq3⟩
  have hQ3:=Q.trans hQ2' hq3
  have hQ3':=hQ3.alloc hQ3.size (.cells #[.string ⟨YN.toArray⟩,.string ⟨YD.toArray⟩] 110)
  have X1:=X0.keep hq3 X0.lt
  have c0:=X1.cell 0
  have c1:=X1.cell 1
  have lx:=X1.lt
  simp only[zs4,zs5]at c0 c1
  go_wp2_with fail
  refine(C.out _ (hE.q hQ3')).mono ?_
  rintro e w4⟨rfl,hq4⟩
  have hQ4:=Q.trans hQ3' hq4
  clear c0 c1 lx X0 X1
  go_wp2_with fail
  refine(K.out _).mono ?_
  rintro e w5⟨rfl,hq5⟩
  have hQ5:=Q.trans hQ4 hq5
  go_wp2
  go_ret2
  exact⟨rfl,hQ5⟩
 | some nd =>
  obtain⟨n,d⟩:=nd
  rw[zeq hn]at N1
  have hy2:zcC (ze y)=none:=by
   rcases hor with h | h
   ·rw[h]at hn;cases hn
   ·exact h
  rw[zds hy2]at N2
  clear hn hor hy2
  generalize Lib.itoa x.num=XN at *
  generalize Lib.itoa (x.den:Int)=XD at *
  generalize Lib.itoa y.num=YN at *
  generalize Lib.itoa (y.den:Int)=YD at *
  go_enter Tryz.func57,Tryz.ntmps57
  go_wp2_with fail
  refine(N1.out _).mono ?_
  rintro e w1⟨rfl,hq1⟩
  have hQ1:=hq1.alloc hq1.size (.cells #[.int .i64 n,.int .i64 d] 103)
  go_wp2_with fail
  refine(N2.out _).mono ?_
  rintro e w2⟨rfl,hq2⟩
  have hQ2:=Q.trans hQ1 hq2
  have hQ2':=hQ2.alloc hQ2.size (.cells #[.int .i64 0,.int .i64 0] 103)
  go_wp2_with fail
  refine(R1.out _ (hE.q hQ2')).mono ?_
  rintro e w3⟨rfl,hq3⟩
  have hQ3:=Q.trans hQ2' hq3
  have hQ3':=hQ3.alloc hQ3.size (.cells #[.string ⟨XN.toArray⟩,.string ⟨XD.toArray⟩] 110)
  have X0:=Blk.new w3 [.string ⟨XN.toArray⟩,.string ⟨XD.toArray⟩] 110
  go_wp2_with fail
  refine(R2.out _ (hE.q hQ3')).mono ?_
  rintro e w4⟨rfl,hq4⟩
  have hQ4:=Q.trans hQ3' hq4
  have hQ4':=hQ4.alloc hQ4.size (.cells #[.string ⟨YN.toArray⟩,.string ⟨YD.toArray⟩] 110)
  have X1:=X0.keep hq4 X0.lt
  have c0:=X1.cell 0
  have c1:=X1.cell 1
  have lx:=X1.lt
  simp only[zs4,zs5]at c0 c1
  go_wp2_with fail
  refine(C.out _ (hE.q hQ4')).mono ?_
  rintro e w5⟨rfl,hq5⟩
  have hQ5:=Q.trans hQ4' hq5
  clear c0 c1 lx X0 X1
  go_wp2_with fail
  refine(K.out _).mono ?_
  rintro e w6⟨rfl,hq6⟩
  have hQ6:=Q.trans hQ5 hq6
  go_wp2
  go_ret2
  exact⟨rfl,hQ6⟩
theorem zeB(x y:Rat)(hx:zav x=false)(hy:zav y=false)(h1:lim (x.num*y.den)=false)(h2:lim (y.num*(x.den:Int))=false)(w:World)(hE:Env w) :
  Calls Tryz.prog 57 #[.string ⟨(ze x).toArray⟩,.string ⟨(ze y).toArray⟩] w fun e w'=>e=.returned (.tuple #[.int .i64 (Lib.compareInt (x.num*y.den) (y.num*x.den)),.int .i64 0])∧Q w w':=by
 by_cases hs:zF x∧zF y
 ·exact zeH x y hs.1 hs.2 w
 ·exact zeZ x y hx hy hs h1 h2 w hE
theorem zc6(l m:Nat)(hl:lim (l:Int)=false)(hm:lim (m:Int)=false)(w:World)(hE:Env w) :
  Calls Tryz.prog 57 #[.string ⟨(Lib.itoa (l:Int)).toArray⟩,.string ⟨(Lib.itoa (m:Int)).toArray⟩] w fun e w'=>e=.returned (.tuple #[.int .i64 (Lib.compareInt l m),.int .i64 0])∧Q w w':=by
 have hr:∀ n:Nat,lim (n:Int)=false→zav (n:Rat)=false:=fun n hn=>by unfold zav;rw[Rat.num_natCast,Rat.den_natCast,hn];exact zer
 have h:=zeB (l:Rat) (m:Rat) (hr l hl) (hr m hm) (by rw[Rat.num_natCast,Rat.den_natCast];simpa using hl) (by rw[Rat.num_natCast,Rat.den_natCast];simpa using hm) w hE
 rw[zaO,zaO,Rat.num_natCast,Rat.num_natCast,Rat.den_natCast,Rat.den_natCast,show ((1:Nat):Int)=1 from rfl,Int.mul_one,Int.mul_one]at h
 exact h
def zhZ(q:Rat):Bool:=decide (zn q.num.toNat*zn q.num.toNat=q.num.toNat) && decide (zn q.den*zn q.den=q.den)
def sqR(q:Rat):Rat:=Rat.divInt (zn q.num.toNat:Int) (zn q.den:Int)
theorem zmd{n:Nat}(h:0<n):0<zn n:=by
 have:=(zcj n).2
 rcases Nat.eq_zero_or_pos (zn n)with h0 | h0
 ·rw[h0]at this;omega
 ·exact h0
theorem zi8{n:Nat}(h:lim (n:Int)=false):lim (zn n:Int)=false:=zc7 h (by have:=zgR n;omega)
theorem zmI(q:Rat)(h:zav q=false)(hp:0≤q.num)(w:World)(hE:Env w) :
  Calls Tryz.prog 152 #[.agg #[.string ⟨(Lib.itoa q.num).toArray⟩,.string ⟨(Lib.itoa (q.den:Int)).toArray⟩]] w fun e w'=>e=.returned (.tuple #[.string ⟨(if zhZ q then ze (sqR q)else []).toArray⟩,.bool (zhZ q)])∧Q w w':=by
 have hn:q.num=(q.num.toNat:Int):=by omega
 have l1:=(zA h).1
 have l2:=(zA h).2
 rw[hn]at l1
 have E1:=LH (fun w hw=>zhk q.num.toNat l1 w hw)
 have E2:=LH (fun w hw=>zhk q.den l2 w hw)
 have F:=LH (fun w hw=>zek (zn q.num.toNat:Int) (zn q.den:Int) (zi8 l1) (zi8 l2) (by have:=zmd q.den_pos;omega) w hw)
 unfold zhZ sqR
 rw[hn,Int.toNat_natCast]
 generalize ze (Rat.divInt (zn q.num.toNat:Int) (zn q.den:Int))=R at *
 generalize decide (zn q.num.toNat*zn q.num.toNat=q.num.toNat)=b1 at *
 generalize decide (zn q.den*zn q.den=q.den)=b2 at *
 generalize Lib.itoa (zn q.num.toNat:Int)=S1 at *
 generalize Lib.itoa (zn q.den:Int)=S2 at *
 generalize Lib.itoa (q.num.toNat:Int)=N at *
 generalize Lib.itoa (q.den:Int)=D at *
 clear hn l1 l2 h hp
 go_enter Tryz.func152,Tryz.ntmps152
 have T:=Blk.new w [.string ⟨N.toArray⟩,.string ⟨D.toArray⟩] 221
 have hQ0:Q w (w.alloc (.cells [.string ⟨N.toArray⟩,.string ⟨D.toArray⟩].toArray 221)):=(Below.refl _ w).alloc (Nat.le_refl _) _
 go_wp2_with fail
 refine(E1.out _ (hE.q hQ0)).mono ?_
 rintro e w1⟨rfl,hq1⟩
 have hQ1:=Q.trans hQ0 hq1
 have T1:=T.keep hq1 T.lt
 have c1:=T1.cell 1
 simp only[zs4,zs5]at c1
 go_wp2_with fail
 clear c1 T T1
 refine(E2.out _ (hE.q hQ1)).mono ?_
 rintro e w2⟨rfl,hq2⟩
 have hQ2:=Q.trans hQ1 hq2
 cases b1 with
 | false =>
  go_wp2
  go_ret2
  exact⟨rfl,hQ2⟩
 | true =>
  cases b2 with
  | false =>
   go_wp2
   go_ret2
   exact⟨rfl,hQ2⟩
  | true =>
   go_wp2_with fail
   refine(F.out _ (hE.q hQ2)).mono ?_
   rintro e w3⟨rfl,hq3⟩
   have hQ3:=Q.trans hQ2 hq3
   go_wp2
   go_ret2
   exact⟨rfl,hQ3⟩
end
section
open Go.RowKit Kp
open Go.Lib (decDigits)
def zH(x:Rat)(l P:Nat):Nat:=x.num.natAbs*x.num.natAbs*l*10 ^ (2*P)
def zcZ(x:Rat)(l P:Nat):Nat :=
 if zn (zH x l P)*zn (zH x l P)=zH x l P∧zn (zH x l P) % x.den=0 then zn (zH x l P) / x.den else zn (zH x l P) / x.den+1
def zc0(x:Rat)(l P:Nat):Int:=if 0≤x.num then((zn (zH x l P) / x.den:Nat):Int)else -((zcZ x l P:Nat):Int)
theorem zkI(q:Rat):(-q).num = -q.num:=rfl
theorem zns(q:Rat):(-q).den=q.den:=rfl
theorem zhK{x:Rat}(h:0≤x.num)(l P:Nat):zc0 x l P=((zn (zH x l P) / x.den:Nat):Int):=if_pos h
theorem zhL{x:Rat}(h:x.num<0)(l P:Nat):zc0 x l P = -((zcZ x l P:Nat):Int):=if_neg (by omega)
theorem zoZ{a b:Nat}:a*a≤b*b ↔ a≤b:=Nat.mul_self_le_mul_self_iff
theorem zgn{a b:Nat}:a*a<b*b ↔ a<b:=Nat.mul_self_lt_mul_self_iff
theorem zqO(x:Rat)(l P:Nat)(hS:0<zH x l P):zH x l P≤(zcZ x l P*x.den)*(zcZ x l P*x.den)∧0<zcZ x l P∧((zcZ x l P - 1)*x.den)*((zcZ x l P - 1)*x.den)<zH x l P:=by
 unfold zcZ
 obtain⟨h1,h2⟩:=zcj (zH x l P)
 have hd:=x.den_pos
 generalize zH x l P=S at *
 generalize zn S=r at *
 have h5:=Nat.div_add_mod r x.den
 have h6:=Nat.mod_lt r hd
 have hr:0<r:=by
  rcases Nat.eq_zero_or_pos r with h0 | h0
  ·subst h0;omega
  ·exact h0
 generalize r / x.den=q at *
 generalize x.den=d at *
 rw[Nat.mul_comm d q]at h5
 split
 ·next h =>
  have he:r=q*d:=by omega
  have hq:0<q:=by
   rcases Nat.eq_zero_or_pos q with h0 | h0
   ·subst h0;omega
   ·exact h0
  refine⟨by rw[← he];omega,hq,?_⟩
  have:(q - 1)*d<r:=by
   rw[he];exact Nat.mul_lt_mul_of_pos_right (by omega) hd
  have:=zgn.2 this
  omega
 ·next h =>
  have h4:r+1≤(q+1)*d:=by rw[Nat.add_mul,Nat.one_mul];omega
  refine⟨by have:=zoZ.2 h4;omega,by omega,?_⟩
  rw[Nat.add_sub_cancel]
  by_cases hm:r % d=0
  ·have he:r=q*d:=by omega
   rw[← he]
   have:r*r≠S:=fun e=>h ⟨e,hm⟩
   omega
  ·have:=zgn.2 (show q*d<r by omega)
   omega
def zbP:List (Rat × Nat)→Nat→Int
 | [],_=>0
 | t::r,P=>zc0 t.1 t.2 P+zbP r P
def zcx(n:Nat)(F:Int)(last:Bool):Option Int:=if 0<F then some 1 else if F+n<0∨(F+n=0∧last=true)then some (-1)else none
def zsg(a b c:Option Int):Option Int:=match a with
 | some k=>some k
 | none=>match b with
  | some k=>some k
  | none=>c
def zkC(ts:List (Rat × Nat)):Option Int :=
 if ts=[]then some 0 else zsg (zcx ts.length (zbP ts 4) false) (zcx ts.length (zbP ts 16) false) (zcx ts.length (zbP ts 64) true)
theorem znr{ts:List (Rat × Nat)}{σ:Int}(hne:ts≠[])(h1:∀ P b,P=4∨P=16∨P=64→zcx ts.length (zbP ts P) b=none∨zcx ts.length (zbP ts P) b=some σ)(h2:zcx ts.length (zbP ts 64) true=some σ):zkC ts=some σ:=by
 unfold zkC
 rw[if_neg hne]
 rcases h1 4 false (.inl rfl)with h | h
 ·rw[h]
  rcases h1 16 false (.inr (.inl rfl))with h | h
  ·rw[h];exact h2
  ·rw[h];rfl
 ·rw[h];rfl
theorem zoC{x:Rat}{l P:Nat}(hx:x.num≠0)(hl:0<l):0<zH x l P:=by
 unfold zH
 exact Nat.mul_pos (Nat.mul_pos (Nat.mul_pos (by omega) (by omega)) hl) (Nat.pow_pos (by decide))
theorem zpS{x:Rat}{l P:Nat}(hx:x.num≠0)(hl:0<l):10 ^ P≤zn (zH x l P):=by
 have h2:=(zcj (zH x l P)).2
 have h3:10 ^ P*10 ^ P≤zH x l P:=by
  unfold zH
  rw[show 2*P=P+P by omega,Nat.pow_add]
  have:1*(10 ^ P*10 ^ P)≤x.num.natAbs*x.num.natAbs*l*(10 ^ P*10 ^ P):=Nat.mul_le_mul_right _ (Nat.mul_pos (Nat.mul_pos (by omega) (by omega)) hl)
  omega
 have:=zgn.1 (Nat.lt_of_le_of_lt h3 h2)
 omega
theorem sign_one{x:Rat}{l:Nat}(hx:x.num≠0)(hl:0<l)(hd:x.den<10 ^ 60):zkC [(x,l)]=some (if 0<x.num then 1 else -1):=by
 have hs:∀ P,zbP [(x,l)] P=zc0 x l P:=fun P=>by simp[zbP]
 have h64:10000≤zn (zH x l 64) / x.den:=by
  have h1:=zpS (P:=64) hx hl
  rw[Nat.le_div_iff_mul_le x.den_pos]
  have:10000*x.den≤10 ^ 64:=by
   have:=Nat.mul_le_mul_left 10000 (Nat.le_of_lt hd)
   exact Nat.le_trans this (by decide)
  omega
 have hU:∀ P,0<zcZ x l P:=fun P=>(zqO x l P (zoC hx hl)).2.1
 have hUge:zn (zH x l 64) / x.den≤zcZ x l 64:=by unfold zcZ;split <;> omega
 by_cases h:0<x.num
 ·rw[if_pos h]
  refine znr (by simp) (fun P b _=>?_) ?_
  ·rw[hs,zhK (by omega)]
   unfold zcx
   generalize zn (zH x l P) / x.den=f
   by_cases h0:(0:Int)<f
   ·rw[if_pos h0];exact .inr rfl
   ·rw[if_neg h0,if_neg (by simp;omega)];exact .inl rfl
  ·rw[hs,zhK (by omega)]
   unfold zcx
   rw[if_pos (by omega)]
 ·rw[if_neg h]
  refine znr (by simp) (fun P b _=>?_) ?_
  ·rw[hs,zhL (by omega)]
   have:=hU P
   unfold zcx
   rw[if_neg (by omega)]
   split
   ·exact .inr rfl
   ·exact .inl rfl
  ·rw[hs,zhL (by omega)]
   unfold zcx
   rw[if_neg (by omega),if_pos (.inl (by simp only[List.length_singleton];omega))]
end
section
open Go.RowKit Kp
open Go.Lib (decDigits)
end
section
open Go.RowKit Kp
open Go.Lib (decDigits)
def zd3(low high:Rat × Nat):Rat × Nat:=(low.1+high.1*sqR ((high.2:Rat) / (low.2:Rat)),low.2)
def zdz:List (Rat × Nat)→Rat × Nat→List (Rat × Nat)
 | [],t=>[t]
 | c::r,t=>if zhZ ((t.2:Rat) / (c.2:Rat))then(if t.2<c.2 then zd3 t c else zd3 c t)::r else c::zdz r t
def zeK(cs:List (Rat × Nat)):List (Rat × Nat):=cs.filter fun c=>decide (c.1≠0)
def zly:List (Rat × Nat)→List (Rat × Nat)
 | [a,b]=>if b.2<a.2 then [b,a]else [a,b]
 | l=>l
theorem zn7{l m:Nat}(hl:0<l)(hm:0<m):0<((m:Rat) / (l:Rat)).num∧(l:Rat) / (m:Rat)=1 / ((m:Rat) / (l:Rat)):=by
 constructor
 ·rw[← Rat.div_is,Rat.num_natCast,Rat.num_natCast,Rat.den_natCast,Rat.den_natCast]
  have:=zby (z:=(m:Int)) (k:=l) (by omega) hl
  simpa using this
 ·have h1:=nat_ne hl
  have h2:=nat_ne hm
  generalize (l:Rat)=a at *
  generalize (m:Rat)=b at *
  grind
theorem zqI{l m:Nat}(hl:0<l)(hm:0<m)(h:zhZ ((m:Rat) / (l:Rat))=true):zhZ ((l:Rat) / (m:Rat))=true:=by
 obtain⟨h1,h2⟩:=zn7 hl hm
 rw[h2]
 generalize (m:Rat) / (l:Rat)=q at *
 obtain⟨e1,e2⟩:=zi9 q h1
 unfold zhZ at h ⊢
 rw[e1,e2,Int.toNat_natCast,Bool.and_comm]
 exact h
theorem zpD:zn 1=1:=zf6 (by decide)
theorem zq5:zhZ 1=true∧sqR 1=1:=by
 unfold zhZ sqR
 rw[show ((1:Rat)).num.toNat=1 from rfl,show ((1:Rat)).den=1 from rfl,zpD]
 exact⟨rfl,rfl⟩
theorem ziu{n b:Nat}(h:n<b*b):zn n<b:=by
 have:=(zcj n).1
 exact zgn.1 (by omega)
theorem zrw{l m n:Nat}(hl:0<l)(hl1:l<10 ^ n)(hm:m<10 ^ n):Bd n ((m:Rat) / (l:Rat)):=by
 rw[← Rat.div_is,Rat.num_natCast,Rat.num_natCast,Rat.den_natCast,Rat.den_natCast,show (m:Int)*((1:Nat):Int)=m by simp,show (l:Int)*((1:Nat):Int)=l by simp]
 exact zb5 hl (by rw[Int.natAbs_natCast];exact hm) hl1
theorem zsa{q:Rat}{n:Nat}(h:Bd (n+n) q):Bd n (sqR q):=by
 unfold sqR
 have h1:=h.1
 have h2:=h.2
 rw[Nat.pow_add]at h1 h2
 exact zb5 (zmd q.den_pos) (by rw[Int.natAbs_natCast];exact ziu (by omega)) (ziu h2)
end
section
open Go.RowKit Kp
open Go.Lib (decDigits)
def zcd(l:List (Str × Str)):List Value:=l.flatMap fun p=>[.string ⟨p.1.toArray⟩,.string ⟨p.2.toArray⟩]
theorem zqf:zcd []=[]:=rfl
theorem zdn(p:Str × Str)(l:List (Str × Str)):zcd (p::l)=.string ⟨p.1.toArray⟩::.string ⟨p.2.toArray⟩::zcd l:=rfl
theorem zgu(l:List (Str × Str)):(zcd l).length=l.length*2:=by
 induction l with
 | nil=>rfl
 | cons p l ih=>rw[zdn];simp only[List.length_cons,ih];omega
theorem ziq(a b:List (Str × Str)):zcd (a++b)=zcd a++zcd b:=by unfold zcd;rw[List.flatMap_append]
theorem zgv:∀ (l:List (Str × Str)) (i:Nat),i<l.length→(zcd l)[i*2]? = some (.string ⟨(l.getD i ([],[])).1.toArray⟩)∧(zcd l)[i*2+1]? = some (.string ⟨(l.getD i ([],[])).2.toArray⟩)
 | [],i,h=>absurd h (by simp)
 | p::l,0,_=>⟨rfl,rfl⟩
 | p::l,i+1,h=>by
  have:=zgv l i (by simpa using h)
  rw[zdn,show (i+1)*2=i*2+2 by omega,show i*2+2+1=i*2+1+2 by omega]
  simpa using this
theorem zkF:∀ (l:List (Str × Str)) (i:Nat) (p:Str × Str),((zcd l).set (i*2) (.string ⟨p.1.toArray⟩)).set (i*2+1) (.string ⟨p.2.toArray⟩)=zcd (l.set i p)
 | [],i,p=>by simp[zqf]
 | q::l,0,p=>by rw[List.set_cons_zero,zdn,zdn];rfl
 | q::l,i+1,p=>by
  have:=zkF l i p
  rw[List.set_cons_succ,zdn,zdn,show (i+1)*2=i*2+2 by omega,show i*2+2+1=i*2+1+2 by omega,← this]
  rfl
theorem zgt:∀ (l:List (Str × Str)),∀ u∈zcd l,u.oneCell'=true
 | [],u,h=>by cases h
 | p::l,u,h=>by
  rw[zdn,List.mem_cons,List.mem_cons]at h
  rcases h with rfl | rfl | h
  ·rfl
  ·rfl
  ·exact zgt l u h
def TSl(w:World)(B:Nat)(v:Value)(l:List (Str × Str)):Prop :=
 ∃ a cap,v=.slice a l.length cap∧B≤w.heap.size∧∀ i,i<l.length→∃ b o,a=some ⟨b,o,none⟩∧b<B ∧
  w.cell? ⟨b,o+i*2,none⟩=some (.string ⟨(l.getD i ([],[])).1.toArray⟩)∧w.cell? ⟨b,o+i*2+1,none⟩=some (.string ⟨(l.getD i ([],[])).2.toArray⟩)
theorem TSl.keep{w w':World}{B B':Nat}{v:Value}{l:List (Str × Str)}(h:TSl w B v l)(hb:Below B' w w')(hB:B≤B'):TSl w' B v l:=by
 obtain⟨a,cap,rfl,hs,hc⟩:=h
 refine⟨a,cap,rfl,Nat.le_trans hs hb.size,fun i hi=>?_⟩
 obtain⟨b,o,ha,hbb,c0,c1⟩:=hc i hi
 exact⟨b,o,ha,hbb,(hb.cell (p:=⟨b,o+i*2,none⟩) (show b<B' by omega)).trans c0,(hb.cell (p:=⟨b,o+i*2+1,none⟩) (show b<B' by omega)).trans c1⟩
theorem TSl.of_row{w:World}{base:Nat}{t:TypeId}{v:Value}{l:List (Str × Str)}(h:w.ownsRow base t 2 v l.length (zcd l)):TSl w w.heap.size v l:=by
 rcases Nat.eq_zero_or_pos l.length with h0 | h0
 ·rcases h.2 with⟨hv,_⟩|⟨g,cap,cur,hv,_,hg,_⟩
  ·exact⟨none,0,by rw[hv,h0],Nat.le_refl _,fun i hi=>by omega⟩
  ·exact⟨some ⟨g,0,none⟩,cap,hv,Nat.le_refl _,fun i hi=>by omega⟩
 ·obtain⟨g,cap,rfl,hb,hg⟩:=h.form h0
  refine⟨_,cap,rfl,Nat.le_refl _,fun i hi=>⟨g,0,rfl,hg,?_,?_⟩⟩
  ·rw[h.cellAt _ (by omega),Nat.zero_add];exact(zgv l i hi).1
  ·rw[h.cellAt _ (by omega),Nat.zero_add];exact(zgv l i hi).2
def ofT(t:Rat × Rat):Str × Str:=(ze t.1,ze t.2)
def ofC(c:Rat × Nat):Str × Str:=(ze c.1,Lib.itoa (c.2:Int))
def znm(w:World)(G:Nat)(cs:List (Rat × Nat)):Prop :=
 ∃ v,Blk w G [v] 144∧(cs=[]→v=.slice none 0 0)∧w.ownsRow (G+1) 148 2 v (cs.map ofC).length (zcd (cs.map ofC))
theorem znm.keep{w w':World}{G:Nat}{cs:List (Rat × Nat)}(h:znm w G cs)(hq:Q w w'):znm w' G cs:=by
 obtain⟨v,h1,h2,h3⟩:=h
 exact⟨v,h1.keep hq h1.lt,h2,zi h3 hq⟩
theorem znm.start{w:World}{G:Nat}(h:Blk w G [.slice none 0 0] 144):znm w G []:=⟨_,h,fun _=>rfl,World.ownsRow_nil _ _ _ _⟩
def CB(c:Rat × Nat):Prop:=Bd 80 c.1∧0<c.2∧c.2<10 ^ 80
theorem CB.root{c:Rat × Nat}(h:CB c):Bd 80 (c.2:Rat):=⟨by rw[Rat.num_natCast,Int.natAbs_natCast];exact h.2.2,by rw[Rat.den_natCast];exact by decide⟩
end
section
open Go.RowKit Kp
open Go.Lib (decDigits)
theorem zdh.two{w:World}{b:Nat}{s1 s2:Str}{t:TypeId}(h:Blk w b [.string ⟨s1.toArray⟩,.string ⟨s2.toArray⟩] t):zdh w (.slice (some ⟨b,0,none⟩) 2 2) [s1,s2]:=by
 refine⟨b,0,2,rfl,h.lt,?_⟩
 intro i hi
 rcases(show i=0∨i=1 by simp at hi;omega)with rfl | rfl
 ·exact h.cell 0
 ·exact h.cell 1
theorem zpj{p q:Rat}(pq:0<q.num):p / q=Rat.divInt (p.num*q.den) ((q.num.toNat*p.den:Nat):Int):=by
 rw[← Rat.div_is,Int.natCast_mul,Int.toNat_of_nonneg (by omega)]
theorem zmP{p q:Rat}(pp:0≤p.num)(pq:0<q.num):0≤(p / q).num:=by
 rw[zpj pq]
 obtain⟨e1,-⟩:=zdj (p.num*q.den) (q.num.toNat*p.den) (Nat.mul_pos (by omega) p.den_pos)
 rw[e1]
 have h0:0≤p.num*(q.den:Int):=Int.mul_nonneg pp (by omega)
 rw[Int.tdiv_eq_ediv_of_nonneg h0]
 exact Int.ediv_nonneg h0 (Int.natCast_nonneg _)
theorem Bd.quot{m n:Nat}{p q:Rat}(hp:Bd m p)(hq:Bd n q)(pq:0<q.num):Bd (m+n) (p / q):=by
 rw[zpj pq]
 refine zb5 (Nat.mul_pos (by omega) p.den_pos) (zcw hp hq) ?_
 have h1:q.num.toNat<10 ^ n:=by have:=hq.1;omega
 have:=Nat.mul_lt_mul'' h1 hp.2
 rw[Nat.add_comm,Nat.pow_add];exact this
theorem zn1(p q:Rat)(hp:Bd 80 p)(hq:Bd 80 q)(pp:0≤p.num)(pq:0<q.num)(w:World)(hE:Env w) :
  Calls Tryz.prog 94 #[.string ⟨(ze p).toArray⟩,.string ⟨(ze q).toArray⟩] w fun e w'=>e=.returned (.tuple #[.string ⟨(if zhZ (p / q)then ze (sqR (p / q))else []).toArray⟩,.bool (zhZ (p / q)),.int .i64 0])∧Q w w':=by
 have hz:(ze q == [48])=false:=by
  rw[beq_eq_false_iff_ne,← zah];exact fun h=>by have:=zaJ h;subst this;exact absurd pq (by decide)
 have bq:=hp.quot hq pq
 have hlq:zav (p / q)=false:=bq.zav (by decide)
 have HC:=fun v1 v2 w hw h1 h2=>zhl [p,q] [p,q] (by intro x hx;rw[List.mem_cons,List.mem_singleton]at hx;rcases hx with rfl | rfl;exact hp.root90 (by decide);exact hq.root90 (by decide)) v1 v2 w hw h1 h2 (by simp) (by simp)
 rw[if_pos (by intro x hx;rw[List.mem_cons,List.mem_singleton]at hx;rcases hx with rfl | rfl <;> omega)]at HC
 have HC:=LH HC
 have HD:=LH (fun w hw=>zdq p q hp hq (by omega) (by decide) w hw)
 have HO:=LH (fun w hw=>zkH (p / q) hlq w hw)
 have HR:=LH (fun w hw=>zmI (p / q) hlq (zmP pp pq) w hw)
 generalize (⟨(if zhZ (p / q)then ze (sqR (p / q))else []).toArray⟩:ByteArray)=A at *
 generalize zhZ (p / q)=b at *
 generalize ze (p / q)=PQ at *
 generalize Lib.itoa (p / q).num=N at *
 generalize Lib.itoa ((p / q).den:Int)=D at *
 clear hp hq pp pq bq hlq
 generalize hsp:ze p=P at *
 generalize hsq:ze q=S at *
 go_enter Tryz.func94,Tryz.ntmps94
 go_wp2_with fail
 have B1:=((Blk.new w [.string ⟨P.toArray⟩,.string ⟨S.toArray⟩] 30).alloc (.cells #[.string ⟨P.toArray⟩,.string ⟨S.toArray⟩] 30))
 have B2:=Blk.new (w.alloc (.cells #[.string ⟨P.toArray⟩,.string ⟨S.toArray⟩] 30)) [.string ⟨P.toArray⟩,.string ⟨S.toArray⟩] 30
 have S1:=zdh.two B1
 have S2:=zdh.two B2
 have e2:(w.alloc (.cells #[.string ⟨P.toArray⟩,.string ⟨S.toArray⟩] 30)).heap.size=w.heap.size+1:=by simp
 rw[e2]at S2
 clear e2 B2 B1
 simp only[List.map_cons,List.map_nil,hsp,hsq]at HC
 refine(HC.out _ _ _ (hE.q bt) S1 S2).mono ?_
 clear S1 S2
 rintro e w1⟨rfl,hq1⟩
 have hQ1:Q w w1:=Q.trans (show Below w.heap.size w _ from bt) hq1
 clear hq1
 go_wp2_with fail
 refine(HD.out _ (hE.q hQ1)).mono ?_
 rintro e w2⟨rfl,hq2⟩
 have hQ2:=Q.trans hQ1 hq2
 go_wp2_with fail
 refine(HO.out _ (hE.q hQ2)).mono ?_
 rintro e w3⟨rfl,hq3⟩
 have hQ3:=Q.trans hQ2 hq3
 go_wp2_with fail
 refine(HR.out _ (hE.q hQ3)).mono ?_
 rintro e w4⟨rfl,hq4⟩
 have hQ4:=Q.trans hQ3 hq4
 go_wp2
 go_ret3
 exact⟨rfl,hQ4⟩
theorem zfF(l m:Nat)(hl:0<l)(hl1:l<10 ^ 80)(hm:0<m)(hm1:m<10 ^ 80)(w:World)(hE:Env w) :
  Calls Tryz.prog 94 #[.string ⟨(Lib.itoa (m:Int)).toArray⟩,.string ⟨(Lib.itoa (l:Int)).toArray⟩] w fun e w'=>e=.returned (.tuple #[.string ⟨(if zhZ ((m:Rat) / (l:Rat))then ze (sqR ((m:Rat) / (l:Rat)))else []).toArray⟩,.bool (zhZ ((m:Rat) / (l:Rat))),.int .i64 0])∧Q w w':=by
 have hb:∀ n:Nat,n<10 ^ 80→Bd 80 (n:Rat):=fun n hn=>⟨by rw[Rat.num_natCast,Int.natAbs_natCast];exact hn,by rw[Rat.den_natCast];exact by decide⟩
 have h:=zn1 (m:Rat) (l:Rat) (hb m hm1) (hb l hl1) (by rw[Rat.num_natCast];omega) (by rw[Rat.num_natCast];omega) w hE
 rw[zaO,zaO]at h
 exact h
theorem znS{l m:Nat}(hl:0<l)(hl1:l<10 ^ 80)(hm1:m<10 ^ 80):Bd 40 (sqR ((m:Rat) / (l:Rat))):=zsa (n:=40) (zrw hl hl1 hm1)
theorem zqi(tmps:Array Value)(W:World)(b:Nat)(x y u:Value)(hp:tmps.getD 4 undef=.pointer (some ⟨b,0,none⟩))(hu:tmps.getD 5 undef=u)
  (c0:W.cell? ⟨b,0,none⟩=some x)(c1:W.cell? ⟨b,1,none⟩=some y) :
  (results Tryz.f139 tmps).run Tryz.prog W=.ok (.tuple #[.agg #[x,y],u]) W:=by
 simp only[Array.getD_eq_getD_getElem?]at hp hu
 simp[results,Tryz.results139,go_sem,hp,hu,c0,c1]
theorem zkl(c h:Rat × Nat)(hc:CB c)(hh:CB h)(hq:zhZ ((h.2:Rat) / (c.2:Rat))=true)(w:World)(hE:Env w) :
  Calls Tryz.prog 139 #[.agg #[.string ⟨(ze c.1).toArray⟩,.string ⟨(Lib.itoa (c.2:Int)).toArray⟩],.agg #[.string ⟨(ze h.1).toArray⟩,.string ⟨(Lib.itoa (h.2:Int)).toArray⟩]] w fun e w'=>e=.returned (.tuple #[.agg #[.string ⟨(ze (zd3 c h).1).toArray⟩,.string ⟨(Lib.itoa ((zd3 c h).2:Int)).toArray⟩],.int .i64 0])∧Q w w':=by
 obtain⟨y,m⟩:=h
 obtain⟨x,l⟩:=c
 obtain⟨bx,hl,hl1⟩:=hc
 obtain⟨bY,hm,hm1⟩:=hh
 simp only at *
 have bk:=znS hl hl1 hm1
 have hr:=fun w hw=>zfF l m hl hl1 hm hm1 w hw
 rw[hq]at hr
 have HR:=LH hr
 unfold zd3
 simp only
 generalize sqR ((m:Rat) / (l:Rat))=k at *
 have HM:=LH (fun w hw=>zai y k bY bk (by decide) w hw)
 have HA:=LH (fun w hw=>ze0 x (y*k) bx (bY.mul bk) (by decide) w hw)
 clear hr hq
 generalize ze (x+y*k)=R at *
 generalize ze (y*k)=YK at *
 generalize hsk:ze k=K at *
 generalize ze x=X at *
 generalize ze y=Y at *
 generalize Lib.itoa (l:Int)=L at *
 generalize Lib.itoa (m:Int)=M at *
 simp only[if_true]at HR
 clear bx bY bk hl hl1 hm hm1
 obtain⟨W0,hW0⟩:∃ W0,((w.alloc (.cells [.string ⟨X.toArray⟩,.string ⟨L.toArray⟩].toArray 148)).alloc (.cells [.string ⟨Y.toArray⟩,.string ⟨M.toArray⟩].toArray 148)).alloc (.cells [.string ⟨#[]⟩,.string ⟨#[]⟩].toArray 148)=W0:=⟨_,rfl⟩
 have hQ0:Q w W0:=by rw[← hW0];exact(((Below.refl _ w).alloc (Nat.le_refl _) _).alloc (by simp) _).alloc (by simp;omega) _
 have C1:Blk W0 w.heap.size [.string ⟨X.toArray⟩,.string ⟨L.toArray⟩] 148:=by rw[← hW0];exact((Blk.new w _ _).alloc _).alloc _
 have C2:Blk W0 (w.heap.size+1) [.string ⟨Y.toArray⟩,.string ⟨M.toArray⟩] 148:=by
  have:=(Blk.new (w.alloc (.cells [.string ⟨X.toArray⟩,.string ⟨L.toArray⟩].toArray 148)) [.string ⟨Y.toArray⟩,.string ⟨M.toArray⟩] 148).alloc (.cells [.string ⟨#[]⟩,.string ⟨#[]⟩].toArray 148)
  rw[World.size_alloc,hW0]at this;exact this
 have C3:Blk W0 (w.heap.size+2) [.string ⟨#[]⟩,.string ⟨#[]⟩] 148:=by
  have:=Blk.new ((w.alloc (.cells [.string ⟨X.toArray⟩,.string ⟨L.toArray⟩].toArray 148)).alloc (.cells [.string ⟨Y.toArray⟩,.string ⟨M.toArray⟩].toArray 148)) [.string ⟨#[]⟩,.string ⟨#[]⟩] 148
  rw[World.size_alloc,World.size_alloc,hW0]at this;exact this
 have a1:=C1.cell 1
 have b1:=C2.cell 1
 simp only[zs4,zs5]at a1 b1
 go_enter Tryz.func139,Tryz.ntmps139
 go_wp2_with fail
 refine(HR.out _ (hE.q hQ0)).mono ?_
 clear a1 b1 hW0
 rintro e w1⟨rfl,hq1⟩
 have hQ1:=Q.trans hQ0 hq1
 have D1:=C1.keep hq1 C1.lt
 have D2:=C2.keep hq1 C2.lt
 have D3:=C3.keep hq1 C3.lt
 have b0:=D2.cell 0
 simp only[List.getElem?_cons_zero]at b0
 go_wp2_with fail
 refine(HM.out _ (hE.q hQ1)).mono ?_
 clear b0 C1 C2 C3
 rintro e w2⟨rfl,hq2⟩
 have hQ2:=Q.trans hQ1 hq2
 have C1:=D1.keep hq2 D1.lt
 have C3:=D3.keep hq2 D3.lt
 have a0:=C1.cell 0
 simp only[List.getElem?_cons_zero]at a0
 go_wp2_with fail
 refine(HA.out _ (hE.q hQ2)).mono ?_
 clear a0 D1 D2 D3
 rintro e w3⟨rfl,hq3⟩
 have hQ3:=Q.trans hQ2 hq3
 have D1:=C1.keep hq3 C1.lt
 have D3:=C3.keep hq3 C3.lt
 have a1:=D1.cell 1
 have c0:=D3.cell 0
 have c1:=D3.cell 1
 have f0:=D3.frozen 0
 have f1:=D3.frozen 1
 have l3:=D3.lt
 simp only[zs4,zs5]at a1 c0 c1
 go_wp2
 refine bodyPost_ret (v:=.tuple #[.agg #[.string ⟨R.toArray⟩,.string ⟨L.toArray⟩],.int .i64 0])
  (zqi _ _ (w.heap.size+2) _ _ _ rfl rfl (((D3.set 0 _).set 1 _).cell 0) (((D3.set 0 _).set 1 _).cell 1)) rfl ⟨rfl,?_⟩
 exact(hQ3.setCell (p:=⟨w.heap.size+2,0,none⟩) (by simp) _).setCell (p:=⟨w.heap.size+2,1,none⟩) (by simp) _
end
section
open Go.RowKit Kp
open Go.Lib (decDigits)
theorem zp4:∀ (cs:List (Rat × Nat)) (t:Rat × Nat) (k:Nat) (hk:k<cs.length),(∀ j (hj:j<k),zhZ ((t.2:Rat) / ((cs[j]'(by omega)).2:Rat))=false)→zhZ ((t.2:Rat) / ((cs[k]).2:Rat))=true →
  zdz cs t=cs.set k (if t.2<(cs[k]).2 then zd3 t cs[k]else zd3 cs[k] t)
 | [],_,_,hk,_,_=>absurd hk (by simp)
 | c::r,t,0,_,_,h=>by
  unfold zdz
  exact if_pos (show zhZ ((t.2:Rat) / (c.2:Rat))=true from h)
 | c::r,t,k+1,hk,h1,h=>by
  have h0:=h1 0 (by omega)
  simp only[List.getElem_cons_zero]at h0
  unfold zdz
  rw[if_neg (by rw[h0];decide),zp4 r t k (by simpa using hk) (fun j hj=>by have:=h1 (j+1) (by omega);simpa using this) (by simpa using h)]
  rfl
theorem znH:∀ (cs:List (Rat × Nat)) (t:Rat × Nat),(∀ j (hj:j<cs.length),zhZ ((t.2:Rat) / ((cs[j]).2:Rat))=false)→zdz cs t=cs++[t]
 | [],_,_=>rfl
 | c::r,t,h1=>by
  have h0:=h1 0 (by simp)
  simp only[List.getElem_cons_zero]at h0
  unfold zdz
  rw[if_neg (by rw[h0];decide),znH r t (fun j hj=>by have:=h1 (j+1) (by simp;omega);simpa using this)]
  rfl
theorem znG{w:World}{G g cap k:Nat}{cs rs:List (Rat × Nat)}{p:Str × Str}(hG:Blk w G [.slice (some ⟨g,0,none⟩) cs.length cap] 144)(hr:w.ownsRow (G+1) 148 2 (.slice (some ⟨g,0,none⟩) cs.length cap) cs.length (zcd (cs.map ofC)))
  (hs:zcd (rs.map ofC)=((zcd (cs.map ofC)).set (k*2) (.string ⟨p.1.toArray⟩)).set (k*2+1) (.string ⟨p.2.toArray⟩)∧rs.length=cs.length)(hne:rs≠[])(hgG:G≠g) :
  znm ((w.setCell ⟨g,k*2,none⟩ (.string ⟨p.1.toArray⟩)).setCell ⟨g,k*2+1,none⟩ (.string ⟨p.2.toArray⟩)) G rs:=by
 refine⟨_,(hG.setOther (Ne.symm hgG) _ _).setOther (Ne.symm hgG) _ _,fun e=>absurd e hne,?_⟩
 rw[hs.1,List.length_map,hs.2]
 exact((hr.stored (k*2) _).1.stored (k*2+1) _).1
theorem zna{w w1:World}{G T g n cap:Nat}{o x y:Value}(hg:w.grownBy w1 (Value.slice (some ⟨g,0,none⟩) n cap).ownBlock)(hG:G<w.heap.size)(hT:T<w.heap.size)(hne:G≠T)(hGg:G≠g)(hTg:T≠g)(c:w.cell? ⟨G,0,none⟩=some o)
  (d0:w.cell? ⟨T,0,none⟩=some x)(d1:w.cell? ⟨T,1,none⟩=some y)(kf:w.frozen? ⟨G,0,none⟩=false) :
  w1.cell? ⟨G,0,none⟩=some o∧∀ v,(w1.setCell ⟨G,0,none⟩ v).cell? ⟨T,0,none⟩=some x∧(w1.setCell ⟨G,0,none⟩ v).cell? ⟨T,1,none⟩=some y∧(w1.setCell ⟨G,0,none⟩ v).frozen? ⟨G,0,none⟩=false:=by
 have n1:some G≠(Value.slice (some ⟨g,0,none⟩) n cap).ownBlock:=fun e=>hGg (Option.some.inj e)
 have n2:some T≠(Value.slice (some ⟨g,0,none⟩) n cap).ownBlock:=fun e=>hTg (Option.some.inj e)
 refine⟨(hg.cell_far ⟨G,0,none⟩ hG n1).trans c,fun v=>⟨?_,?_,?_⟩⟩
 ·exact(World.cell?_setCell_other w1 ⟨G,0,none⟩ ⟨T,0,none⟩ v (by intro h;exact hne (congrArg Addr.block h))).trans ((hg.cell_far ⟨T,0,none⟩ hT n2).trans d0)
 ·exact(World.cell?_setCell_other w1 ⟨G,0,none⟩ ⟨T,1,none⟩ v (by simp)).trans ((hg.cell_far ⟨T,1,none⟩ hT n2).trans d1)
 ·rw[World.frozen?_setCell];exact(hg.frozen_far ⟨G,0,none⟩ hG n1).trans kf
theorem zoM{w W w1:World}{G g n cap g4 cap4:Nat}{s1 s2:Str}{xs:List Value}{rs:List (Rat × Nat)}(hG:Blk W G [.slice (some ⟨g,0,none⟩) n cap] 144)(hgrow:W.drew.grownBy w1 (Value.slice (some ⟨g,0,none⟩) n cap).ownBlock)
  (hown:w1.ownsRow (G+1) 148 2 (.slice (some ⟨g4,0,none⟩) (n+1) cap4) (n+1) (xs++[.string ⟨s1.toArray⟩,.string ⟨s2.toArray⟩]))(hB:Below G w W.drew)(hl:G<W.drew.heap.size)(hGg:G<g)
  (hr:zcd (rs.map ofC)=xs++[.string ⟨s1.toArray⟩,.string ⟨s2.toArray⟩]∧rs.length=n+1)(hne:rs≠[]) :
  Below G w (w1.setCell ⟨G,0,none⟩ (.slice (some ⟨g4,0,none⟩) (n+1) cap4))∧znm (w1.setCell ⟨G,0,none⟩ (.slice (some ⟨g4,0,none⟩) (n+1) cap4)) G rs:=by
 have n1:some G≠(Value.slice (some ⟨g,0,none⟩) n cap).ownBlock:=fun e=>by
  have:=Option.some.inj e
  simp only at this;omega
 have bG:Blk w1 G [.slice (some ⟨g,0,none⟩) n cap] 144:=(hgrow.block G hl n1).trans hG
 have hb2:Below G w w1:=hB.grown hgrow (Nat.le_of_lt hl) (fun k hk=>by cases hk;exact Nat.le_of_lt hGg)
 refine⟨hb2.setCell (p:=⟨G,0,none⟩) (Nat.le_refl _) _,_,bG.set 0 _,fun e=>absurd e hne,?_⟩
 rw[hr.1,List.length_map,hr.2]
 exact ownsRow_setCell_below hown (by simp) _
theorem zgN{n:Nat}(h:n<10 ^ 80):lim (n:Int)=false:=zbc (n:=80) (by rw[Int.natAbs_natCast];exact h) (by decide)
theorem zhI(cs:List (Rat × Nat))(t:Rat × Nat)(hcs:∀ c∈cs,CB c)(ht:CB t)(hne:cs≠[])(hlen:cs.length≤1000)(G:Nat)(w:World)(hE:Env w)(_hng:ng≤G)(hg:znm w G cs) :
  Calls Tryz.prog 83 #[.pointer (some ⟨G,0,none⟩),.agg #[.string ⟨(ze t.1).toArray⟩,.string ⟨(Lib.itoa (t.2:Int)).toArray⟩]] w fun e w'=>e=.returned (.int .i64 0)∧Below G w w'∧znm w' G (zdz cs t):=by
 obtain⟨v,hG,-,hrow⟩:=hg
 have hl:(cs.map ofC).length=cs.length:=List.length_map _
 have hpos:0<cs.length:=List.length_pos_iff.2 hne
 obtain⟨g,cap,rfl,hg1,hg2⟩:=hrow.form (by omega)
 have HROW:=LH hrow
 have lG:=hG.lt
 rw[hl]at hrow hG
 obtain⟨x,l⟩:=t
 obtain⟨W1,hW1⟩:∃ W1,w.alloc (.cells [.string ⟨(ze x).toArray⟩,.string ⟨(Lib.itoa (l:Int)).toArray⟩].toArray 84)=W1:=⟨_,rfl⟩
 have T1:Blk W1 w.heap.size [.string ⟨(ze x).toArray⟩,.string ⟨(Lib.itoa (l:Int)).toArray⟩] 84:=by rw[← hW1];exact Blk.new w _ _
 have hQ1:Q w W1:=by rw[← hW1];exact(Below.refl _ w).alloc (Nat.le_refl _) _
 have hG1:=hG.keep hQ1 lG
 have g0:=hG1.cell 0
 have lG1:=hG1.lt
 simp only[List.getElem?_cons_zero]at g0
 simp only at ht ⊢
 have hn:(cs.length:Int)≤1000:=by omega
 have HCS:=LH hcs
 clear hcs hne HROW hl
 go_enter Tryz.func83,Tryz.ntmps83
 go_wp2
 clear hW1
 go_loopw [19] (fun i wr=>∃ k:Nat,k≤cs.length∧i=.int .i64 k∧Q W1 wr∧Hid (∀ j (hj:j<cs.length),j<k→zhZ ((l:Rat) / ((cs[j]).2:Rat))=false)) (fun i _=>cs.length - (intOf i).toNat)
 case atStart=>exact⟨0,by omega,rfl,Q.refl _,LH (fun j _ h=>absurd h (by omega))⟩
 case round =>
  obtain⟨k,hk,rfl,hQ,HNO⟩:=hrel
  by_cases hlt:k<cs.length
  ·have hrr:=zi (zi hrow hQ1) hQ
   have hQw:=Q.trans hQ1 hQ
   have e0:=hrr.cellAt (k*2) (by omega)
   have e1:=hrr.cellAt (k*2+1) (by omega)
   have hk2:k<(cs.map ofC).length:=by rw[List.length_map];exact hlt
   have GET:=LH (zgv (cs.map ofC) k hk2)
   rw[(GET.out).1]at e0
   rw[(GET.out).2]at e1
   have hget:(cs.map ofC).getD k ([],[])=ofC cs[k]:=by rw[List.getD_eq_getElem?_getD,List.getElem?_map,List.getElem?_eq_getElem hlt];rfl
   rw[hget]at e0 e1 GET
   have hcb:=HCS.out cs[k] (List.getElem_mem hlt)
   have HAT:Hid (zhZ ((l:Rat) / ((cs[k]).2:Rat))=true→zdz cs (x,l)=cs.set k (if l<(cs[k]).2 then zd3 (x,l) cs[k]else zd3 cs[k] (x,l))):=LH (fun h=>zp4 cs (x,l) k hlt (fun j hj=>HNO.out j (by omega) hj) h)
   have HNO2:Hid (zhZ ((l:Rat) / ((cs[k]).2:Rat))=false→∀ j (hj:j<cs.length),j<k+1→zhZ ((l:Rat) / ((cs[j]).2:Rat))=false):=LH (fun h j hj hjk=>by
    rcases Nat.lt_or_ge j k with h1 | h1
    ·exact HNO.out j hj h1
    ·obtain rfl:j=k:=by omega
     exact h)
   have HRW:Hid (w.ownsRow (G+1) 148 2 (.slice (some ⟨g,0,none⟩) cs.length cap) cs.length (zcd (cs.map ofC))):=LH hrow
   have HK:Hid (k+1≤cs.length):=LH hlt
   clear hget hrr HNO hk2
   generalize cs[k]=c at *
   obtain⟨y,m⟩:=c
   simp only[ofC]at e0 e1 GET HAT HNO2
   have hcbm:=hcb
   have htl:=ht
   obtain⟨-,hm0,hm1⟩:=hcb
   obtain⟨-,hl0,hl1⟩:=ht
   simp only at hm0 hm1 hl0 hl1
   have hra:=fun w hw=>zfF m l hm0 hm1 hl0 hl1 w hw
   have HCMP:=LH (fun w hw=>zc6 l m (zgN hl1) (zgN hm1) w hw)
   have L0:=Blk.new wr [.string ⟨(ze y).toArray⟩,.string ⟨(Lib.itoa (m:Int)).toArray⟩] 148
   have hqa:=hQ.alloc hQ.size (Obj.cells [.string ⟨(ze y).toArray⟩,.string ⟨(Lib.itoa (m:Int)).toArray⟩].toArray 148)
   have hqb:=Q.trans hQ1 hqa
   have t1:=(T1.keep hQ T1.lt).cell 1
   have lTr:=(T1.keep hQ T1.lt).lt
   simp only[zs4,zs5]at t1
   cases hsq:zhZ ((l:Rat) / (m:Rat))with
   | false =>
    have HX:=LH (HNO2.out hsq)
    rw[hsq]at hra
    have HRA:=LH hra
    clear hra hsq HNO2 HAT HCMP
    go_wp2_with fail
    refine(HRA.out _ (hE.q hqb)).mono ?_
    rintro e w2⟨rfl,hq2⟩
    have hQ2:=Q.trans hqa hq2
    clear e0 e1 t1
    go_wp2
    go_roundw
    case rel=>exact⟨k+1,HK.out,by go_num,hQ2,LH HX.out⟩
    case measure=>simp[intOf];omega
   | true =>
    have HADD:=LH (HAT.out hsq)
    have hinv:=zqI hm0 hl0 hsq
    rw[hsq]at hra
    have HRA:=LH hra
    have HPL1:=LH (fun w hw=>zkl (x,l) (y,m) htl hcbm hinv w hw)
    have HPL2:=LH (fun w hw=>zkl (y,m) (x,l) hcbm htl hsq w hw)
    clear hra hsq HNO2 HAT hinv hcbm htl
    by_cases hlm:l<m
    ·have hc1:Lib.compareInt (l:Int) (m:Int) = -1:=by unfold Lib.compareInt;rw[if_pos (by omega)]
     rw[hc1]at HCMP
     have SETS:Hid (zcd ((zdz cs (x,l)).map ofC)=((zcd (cs.map ofC)).set (k*2) (.string ⟨(ze (zd3 (x,l) (y,m)).1).toArray⟩)).set (k*2+1) (.string ⟨(Lib.itoa ((zd3 (x,l) (y,m)).2:Int)).toArray⟩)∧(zdz cs (x,l)).length=cs.length):=LH (by
      rw[HADD.out,if_pos hlm,List.map_set,← zkF _ k (ofC (zd3 (x,l) (y,m))),List.length_set];exact⟨rfl,rfl⟩)
     clear hc1 hlm HPL2 HADD hl0 hl1 hm0 hm1
     generalize ze (zd3 (x,l) (y,m)).1=PR at *
     generalize Lib.itoa ((zd3 (x,l) (y,m)).2:Int)=PM at *
     generalize Lib.itoa (l:Int)=L at *
     generalize Lib.itoa (m:Int)=M at *
     generalize ze x=X at *
     generalize ze y=Y at *
     go_wp2_with fail
     refine(HRA.out _ (hE.q hqb)).mono ?_
     rintro e w2⟨rfl,hq2⟩
     have hQ2:=Q.trans hqa hq2
     have T2:=(T1.keep hQ2 T1.lt)
     have L2:=L0.keep hq2 L0.lt
     clear e0 e1 t1
     have t0:=T2.cell 0
     have t1:=T2.cell 1
     have lT2:=T2.lt
     have lL2:=L2.lt
     have d1:=L2.cell 1
     simp only[zs4,zs5]at t0 t1 d1
     have H0:=Blk.new w2 [.string ⟨X.toArray⟩,.string ⟨L.toArray⟩] 148
     have hqh:=hQ2.alloc hQ2.size (Obj.cells [.string ⟨X.toArray⟩,.string ⟨L.toArray⟩].toArray 148)
     go_wp2_with fail
     refine(HCMP.out _ (hE.q (Q.trans hQ1 hqh))).mono ?_
     rintro e w3⟨rfl,hq3⟩
     have hQ3:Q w w3:=Q.trans hQ1 (Q.trans hqh hq3)
     have L3:=(L2.alloc (Obj.cells [.string ⟨X.toArray⟩,.string ⟨L.toArray⟩].toArray 148)).keep hq3 (by simp;omega)
     have H3:=H0.keep hq3 H0.lt
     clear t0 t1 d1 T2 L2
     have a0:=L3.cell 0
     have a1:=L3.cell 1
     have b0:=H3.cell 0
     have b1:=H3.cell 1
     have fa0:=L3.frozen 0
     have fa1:=L3.frozen 1
     have fb0:=H3.frozen 0
     have fb1:=H3.frozen 1
     have lL3:=L3.lt
     have lH3:=H3.lt
     have hne1:wr.heap.size≠w2.heap.size:=by omega
     simp only[zs4,zs5]at a0 a1 b0 b1
     have hsw:w.heap.size≤wr.heap.size:=hQw.size
     have hsw2:w.heap.size≤w2.heap.size:=by omega
     have hQ3':Q w ((((w3.setCell ⟨wr.heap.size,0,none⟩ (.string ⟨X.toArray⟩)).setCell ⟨wr.heap.size,1,none⟩ (.string ⟨L.toArray⟩)).setCell ⟨w2.heap.size,0,none⟩ (.string ⟨Y.toArray⟩)).setCell ⟨w2.heap.size,1,none⟩ (.string ⟨M.toArray⟩)) :=
      (((hQ3.setCell (p:=⟨wr.heap.size,0,none⟩) hsw _).setCell (p:=⟨wr.heap.size,1,none⟩) hsw _).setCell (p:=⟨w2.heap.size,0,none⟩) hsw2 _).setCell (p:=⟨w2.heap.size,1,none⟩) hsw2 _
     go_wp2_with fail
     refine(HPL1.out _ (hE.q hQ3')).mono ?_
     rintro e w4⟨rfl,hq4⟩
     have hQ4:=Q.trans hQ3' hq4
     have S0:=Blk.new w4 [.string ⟨PR.toArray⟩,.string ⟨PM.toArray⟩] 148
     have hQ5:Q w (w4.alloc (.cells [.string ⟨PR.toArray⟩,.string ⟨PM.toArray⟩].toArray 148)):=hQ4.alloc hQ4.size _
     have s0:=S0.drew.cell 0
     have s1:=S0.drew.cell 1
     have G5:=(hG.keep hQ5 lG).drew
     have g5:=G5.cell 0
     have lS:=S0.lt
     have lG5:=G5.lt
     simp only[zs4,zs5]at s0 s1 g5
     go_wp2_with fail
     refine zm 7 rfl (by kernel_rfl) rfl ?_
     refine svp 0 ?_
     refine svp 1 ?_
     refine svp 2 ?_
     refine svq 3 rfl (by intro w' hq;have hc0:=za hq g5;go_simp;try with_reducible rfl) ?_
     refine svp 4 ?_
     refine svq 5 rfl (by intro w' hq;have hc0:=za hq s0;have hc1:=za hq s1;go_simp;try with_reducible rfl) ?_
     refine svp 6 ?_
     refine zh (by kernel_rfl) (fun w6 hq6=>?_)
     simp only[List.drop_succ_cons,List.drop_zero]
     have hQ6:Q w w6:=Below.trans (Below.drew hQ5) (hq6.mono hQ5.size)
     have hr6:=zi HRW.out hQ6
     have f0:=hr6.frozenAt (k*2)
     have f1:=hr6.frozenAt (k*2+1)
     have q0:=hr6.cellAt (k*2) (by omega)
     have q1:=hr6.cellAt (k*2+1) (by omega)
     rw[(GET.out).1]at q0
     rw[(GET.out).2]at q1
     have hG6:=hG.keep hQ6 lG
     have HDONE:=LH (znG (p:=(PR,PM)) (k:=k) hG6 hr6 SETS.out (fun e=>by have:=SETS.out.2;rw[e]at this;simp at this;omega) (by omega))
     have hB6:Below G w w6:=hQ6.mono (Nat.le_of_lt lG)
     have HB7:Hid (Below G w ((w6.setCell ⟨g,k*2,none⟩ (.string ⟨PR.toArray⟩)).setCell ⟨g,k*2+1,none⟩ (.string ⟨PM.toArray⟩))):=LH ((hB6.setCell (p:=⟨g,k*2,none⟩) (show G≤g by omega) _).setCell (p:=⟨g,k*2+1,none⟩) (show G≤g by omega) _)
     clear hr6 hG6 hB6 hQ6 hQ5 S0 G5 g5 s0 s1
     go_wp2
     go_ret
     exact⟨rfl,HB7.out,HDONE.out⟩
    ·have hc1:¬ Lib.compareInt (l:Int) (m:Int)<0:=by unfold Lib.compareInt;rw[if_neg (by omega)];split <;> decide
     have SETS:Hid (zcd ((zdz cs (x,l)).map ofC)=((zcd (cs.map ofC)).set (k*2) (.string ⟨(ze (zd3 (y,m) (x,l)).1).toArray⟩)).set (k*2+1) (.string ⟨(Lib.itoa ((zd3 (y,m) (x,l)).2:Int)).toArray⟩)∧(zdz cs (x,l)).length=cs.length):=LH (by
      rw[HADD.out,if_neg hlm,List.map_set,← zkF _ k (ofC (zd3 (y,m) (x,l))),List.length_set];exact⟨rfl,rfl⟩)
     clear hlm HPL1 HADD hl0 hl1 hm0 hm1
     generalize ze (zd3 (y,m) (x,l)).1=PR at *
     generalize Lib.itoa ((zd3 (y,m) (x,l)).2:Int)=PM at *
     generalize Lib.compareInt (l:Int) (m:Int)=cc at *
     generalize Lib.itoa (l:Int)=L at *
     generalize Lib.itoa (m:Int)=M at *
     generalize ze x=X at *
     generalize ze y=Y at *
     go_wp2_with fail
     refine(HRA.out _ (hE.q hqb)).mono ?_
     rintro e w2⟨rfl,hq2⟩
     have hQ2:=Q.trans hqa hq2
     have T2:=(T1.keep hQ2 T1.lt)
     have L2:=L0.keep hq2 L0.lt
     clear e0 e1 t1
     have t0:=T2.cell 0
     have t1:=T2.cell 1
     have lT2:=T2.lt
     have lL2:=L2.lt
     have d1:=L2.cell 1
     simp only[zs4,zs5]at t0 t1 d1
     have H0:=Blk.new w2 [.string ⟨X.toArray⟩,.string ⟨L.toArray⟩] 148
     have hqh:=hQ2.alloc hQ2.size (Obj.cells [.string ⟨X.toArray⟩,.string ⟨L.toArray⟩].toArray 148)
     go_wp2_with fail
     refine(HCMP.out _ (hE.q (Q.trans hQ1 hqh))).mono ?_
     rintro e w3⟨rfl,hq3⟩
     have hQ3':Q w w3:=Q.trans hQ1 (Q.trans hqh hq3)
     have L3:=(L2.alloc (Obj.cells [.string ⟨X.toArray⟩,.string ⟨L.toArray⟩].toArray 148)).keep hq3 (by simp;omega)
     have H3:=H0.keep hq3 H0.lt
     clear t0 t1 d1 T2 L2
     have a0:=L3.cell 0
     have a1:=L3.cell 1
     have b0:=H3.cell 0
     have b1:=H3.cell 1
     have lL3:=L3.lt
     have lH3:=H3.lt
     simp only[zs4,zs5]at a0 a1 b0 b1
     go_wp2_with fail
     refine(HPL2.out _ (hE.q hQ3')).mono ?_
     rintro e w4⟨rfl,hq4⟩
     have hQ4:=Q.trans hQ3' hq4
     have S0:=Blk.new w4 [.string ⟨PR.toArray⟩,.string ⟨PM.toArray⟩] 148
     have hQ5:Q w (w4.alloc (.cells [.string ⟨PR.toArray⟩,.string ⟨PM.toArray⟩].toArray 148)):=hQ4.alloc hQ4.size _
     have s0:=S0.drew.cell 0
     have s1:=S0.drew.cell 1
     have G5:=(hG.keep hQ5 lG).drew
     have g5:=G5.cell 0
     have lS:=S0.lt
     have lG5:=G5.lt
     simp only[zs4,zs5]at s0 s1 g5
     go_wp2_with fail
     refine zm 7 rfl (by kernel_rfl) rfl ?_
     refine svp 0 ?_
     refine svp 1 ?_
     refine svp 2 ?_
     refine svq 3 rfl (by intro w' hq;have hc0:=za hq g5;go_simp;try with_reducible rfl) ?_
     refine svp 4 ?_
     refine svq 5 rfl (by intro w' hq;have hc0:=za hq s0;have hc1:=za hq s1;go_simp;try with_reducible rfl) ?_
     refine svp 6 ?_
     refine zh (by kernel_rfl) (fun w6 hq6=>?_)
     simp only[List.drop_succ_cons,List.drop_zero]
     have hQ6:Q w w6:=Below.trans (Below.drew hQ5) (hq6.mono hQ5.size)
     have hr6:=zi HRW.out hQ6
     have f0:=hr6.frozenAt (k*2)
     have f1:=hr6.frozenAt (k*2+1)
     have q0:=hr6.cellAt (k*2) (by omega)
     have q1:=hr6.cellAt (k*2+1) (by omega)
     rw[(GET.out).1]at q0
     rw[(GET.out).2]at q1
     have hG6:=hG.keep hQ6 lG
     have HDONE:=LH (znG (p:=(PR,PM)) (k:=k) hG6 hr6 SETS.out (fun e=>by have:=SETS.out.2;rw[e]at this;simp at this;omega) (by omega))
     have hB6:Below G w w6:=hQ6.mono (Nat.le_of_lt lG)
     have HB7:Hid (Below G w ((w6.setCell ⟨g,k*2,none⟩ (.string ⟨PR.toArray⟩)).setCell ⟨g,k*2+1,none⟩ (.string ⟨PM.toArray⟩))):=LH ((hB6.setCell (p:=⟨g,k*2,none⟩) (show G≤g by omega) _).setCell (p:=⟨g,k*2+1,none⟩) (show G≤g by omega) _)
     clear hr6 hG6 hB6 hQ6 hQ5 S0 G5 g5 s0 s1
     go_wp2
     go_ret
     exact⟨rfl,HB7.out,HDONE.out⟩
  ·obtain rfl:k=cs.length:=by omega
   have HNEW:Hid (zdz cs (x,l)=cs++[(x,l)]):=LH (znH cs (x,l) (fun j hj=>HNO.out j hj hj))
   have hQw:=Q.trans hQ1 hQ
   have T2:=T1.keep hQ T1.lt
   have G2:=hG1.keep hQ hG1.lt
   have hrr:=zi (zi hrow hQ1) hQ
   have HRX:Hid (zcd ((zdz cs (x,l)).map ofC)=zcd (cs.map ofC)++[.string ⟨(ze x).toArray⟩,.string ⟨(Lib.itoa (l:Int)).toArray⟩]∧(zdz cs (x,l)).length=cs.length+1):=LH (by
    rw[HNEW.out,List.map_append,ziq,List.length_append];exact⟨rfl,rfl⟩)
   have HNE:Hid (zdz cs (x,l)≠[]):=LH (by rw[HNEW.out];simp)
   obtain⟨i0,hi,hz0,hz1,hz2⟩:=zbs zmi
   have HI:=LH hi
   have HZ:=LH hz0
   have HS:=LH hz1
   have HB:=LH hz2
   clear hi hz0 hz1 hz2 HNO HNEW ht HCS
   generalize zcd (cs.map ofC)=xs at *
   generalize Lib.itoa (l:Int)=L at *
   generalize ze x=X at *
   have g0r:=G2.cell 0
   have t0r:=T2.cell 0
   have t1r:=T2.cell 1
   have kf:=G2.frozen 0
   have lG2:=G2.lt
   have lT2:=T2.lt
   have hGT:G≠w.heap.size:=by omega
   have hGg:G≠g:=by omega
   have hTg:w.heap.size≠g:=by omega
   have hnew:=Blk.new wr [.string ⟨X.toArray⟩,.string ⟨L.toArray⟩] 148
   have G3:=G2.alloc (Obj.cells #[.string ⟨X.toArray⟩,.string ⟨L.toArray⟩] 148)
   have T3:=T2.alloc (Obj.cells #[.string ⟨X.toArray⟩,.string ⟨L.toArray⟩] 148)
   have k02:=G3.cell 0
   have d02:=T3.cell 0
   have d12:=T3.cell 1
   have kf2:=G3.frozen 0
   have hlG:G<(wr.alloc (Obj.cells #[.string ⟨X.toArray⟩,.string ⟨L.toArray⟩] 148)).drew.heap.size:=by simp;omega
   have hlT:w.heap.size<(wr.alloc (Obj.cells #[.string ⟨X.toArray⟩,.string ⟨L.toArray⟩] 148)).drew.heap.size:=by simp;omega
   have hown0:=(hrr.alloc (Obj.cells #[.string ⟨X.toArray⟩,.string ⟨L.toArray⟩] 148)).drew
   simp only[zs4,zs5]at g0r t0r t1r k02 d02 d12
   have hB2:Below G w (wr.alloc (Obj.cells #[.string ⟨X.toArray⟩,.string ⟨L.toArray⟩] 148)).drew:=((hQw.mono (Nat.le_of_lt lG)).alloc (by omega) _).drew
   have HG3:=LH G3
   have HGW:Hid (G+1≤wr.heap.size):=LH lG2
   clear G3 T3 G2 T2 hG hG1 hrow hrr hQ hQ1 T1 hE
   go_wp2_with fail
   go_region_law
    (first | (refine step_append_lies _ (by rfl) (.tmp 73) (.tmp 79) 142 (by rfl) (G+1) 148 i0 _ 2 32 Tryz.underlying142 HI.out HZ.out HS.out HB.out rfl (by decide) (.slice (some ⟨g,0,none⟩) cs.length cap) cs.length xs (by rfl) hown0 ⟨wr.heap.size,0,none⟩ 1 1 [.string ⟨X.toArray⟩,.string ⟨L.toArray⟩] (by rfl) (by rfl) (World.news_of_block (cs:=#[.string ⟨X.toArray⟩,.string ⟨L.toArray⟩]) (t:=148) (fr:=(0,0)) hnew) (by simp[Value.oneCell']) (by decide) (by unfold maxLen;omega) (by omega) (by simp;have:=HGW.out;omega) (wr.heap.size+1) (by simp) ?_;intro g4 cap4 w1 hown hgrow hat hlt4;have hh:=zna (w1:=w1) (T:=w.heap.size) (x:=.string ⟨X.toArray⟩) (y:=.string ⟨L.toArray⟩) hgrow hlG hlT hGT hGg hTg k02 d02 d12 kf2;have c1:=hh.1;have fz:=zpK hh.2))
   all_goals go_wp2
   all_goals go_ret
   all_goals exact⟨rfl,zoM HG3.out hgrow hown hB2 hlG (by omega) HRX.out HNE.out⟩
theorem zml(cs:List (Rat × Nat))(t:Rat × Nat)(hcs:∀ c∈cs,CB c)(ht:CB t)(hlen:cs.length≤1000)(G:Nat)(w:World)(hE:Env w)(hng:ng≤G)(hg:znm w G cs) :
  Calls Tryz.prog 83 #[.pointer (some ⟨G,0,none⟩),.agg #[.string ⟨(ze t.1).toArray⟩,.string ⟨(Lib.itoa (t.2:Int)).toArray⟩]] w fun e w'=>e=.returned (.int .i64 0)∧Below G w w'∧znm w' G (zdz cs t):=by
 by_cases h:cs=[]
 ·subst h
  obtain⟨v,hG,hv,-⟩:=hg
  obtain rfl:=hv rfl
  refine(zbE G _ _ w hG).mono ?_
  rintro e w'⟨he,hb,v,h1,h2⟩
  exact⟨he,hb,v,h1,(fun e=>by simp[zdz]at e),h2⟩
 ·exact zhI cs t hcs ht h hlen G w hE hng hg
end
section
open Go.RowKit Kp
open Go.Lib (decDigits)
def zh5(ts:List (Rat × Rat)):List (Rat × Nat):=ts.foldl (fun cs t=>zdz cs (t.1*aOf t.2,leftOf t.2)) []
theorem zms(ts:List (Rat × Rat))(t:Rat × Rat):zh5 (ts++[t])=zdz (zh5 ts) (t.1*aOf t.2,leftOf t.2):=by unfold zh5;rw[List.foldl_append];rfl
theorem zix:∀ (cs:List (Rat × Nat)) (t:Rat × Nat),(zdz cs t).length≤cs.length+1
 | [],_=>by simp[zdz]
 | c::r,t=>by
  unfold zdz
  have:=zix r t
  split <;> simp <;> omega
theorem znE(ts:List (Rat × Rat)):(zh5 ts).length≤ts.length:=by
 have key:∀ (ts:List (Rat × Rat)) (cs:List (Rat × Nat)),(ts.foldl (fun cs t=>zdz cs (t.1*aOf t.2,leftOf t.2)) cs).length≤cs.length+ts.length:=by
  intro ts
  induction ts with
  | nil=>intro cs;simp
  | cons t r ih =>
   intro cs
   have h1:=ih (zdz cs (t.1*aOf t.2,leftOf t.2))
   have h2:=zix cs (t.1*aOf t.2,leftOf t.2)
   simp only[List.foldl_cons,List.length_cons]
   omega
 have:=key ts []
 simpa[zh5]using this
structure VT (t:Rat × Rat):Prop where
 ne:t.1≠0
 c:Bd 80 t.1
 pos:0<t.2.num
 r:Bd 40 t.2
 cb:CB (t.1*aOf t.2,leftOf t.2)
theorem zot:leftOf 1=1:=by unfold leftOf;rw[show ((1:Rat)).num.toNat*((1:Rat)).den=1 from rfl,zd7]
theorem ziC(ts : List (Rat × Rat))(hts : ∀ t ∈ ts, VT t)(hcs : ∀ k, k ≤ ts.length → ∀ c ∈ zh5 (ts.take k), CB c)(hlen : ts.length ≤ 1000)(G : Nat)(v : Value)(w : World)(hE : Env w)(hng : ng ≤ G)(hsl : TSl w G v (ts.map ofT))(hg : znm w G []) :
    Calls Tryz.prog 82 #[v, .func (.func 83) #[.pointer (some ⟨G, 0, none⟩)] #[]] w fun e w' => e = .returned (.int .i64 0) ∧ Below G w w' ∧ znm w' G (zh5 ts) := by
  obtain⟨a, cap, rfl, hGs, hc⟩ := hsl
  rw[List.length_map]at hc
  rw[List.length_map]
  have lG : G < w.heap.size := by obtain⟨v, h, -⟩ := hg;exact h.lt
  go_enter Tryz.func82, Tryz.ntmps82
  go_wp2
  go_loopw [13] (fun i wr => ∃ k : Nat, k ≤ ts.length ∧ i = .int .i64 k ∧ Below G w wr ∧ znm wr G (zh5 (ts.take k))) (fun i _ => ts.length - (intOf i).toNat)
  case atStart => exact⟨0, by omega, rfl, Below.refl _ _, hg⟩
  case round =>
    obtain⟨k, hk, rfl, hB, hgr⟩ := hrel
    by_cases hlt : k < ts.length
    · obtain⟨b, o, ha, hbG, c0, c1⟩ := hc k hlt
      subst ha
      have d0 := (hB.cell (p := ⟨b, o + k * 2, none⟩) hbG).trans c0
      have d1 := (hB.cell (p := ⟨b, o + k * 2 + 1, none⟩) hbG).trans c1
      have hget : (ts.map ofT).getD k ([], []) = ofT ts[k] := by rw[List.getD_eq_getElem?_getD, List.getElem?_map, List.getElem?_eq_getElem hlt];rfl
      have hV := hts ts[k] (List.getElem_mem hlt)
      have htk : ts.take (k + 1) = ts.take k ++ [ts[k]] := List.take_succ_eq_append_getElem hlt
      have hcs' := hcs (k + 1) hlt
      have hcs0 := hcs k hk
      have HL : Hid (k + 1 ≤ ts.length) := LH hlt
      have clen : (zh5 (ts.take k)).length ≤ 1000 := by have := znE (ts.take k); have h2 : (ts.take k).length ≤ ts.length := by rw [List.length_take]; omega
                                                        omega
      rw[htk, zms]at hcs'
      rw[hget]at d0 d1
      have HT : Hid (zh5 (ts.take (k + 1)) = zdz (zh5 (ts.take k)) (ts[k].1 * aOf ts[k].2, leftOf ts[k].2)) := LH (by rw[htk];exact zms _ _)
      clear c0 c1 hget hc htk hcs hts
      generalize zh5 (ts.take k) = cs at *
      generalize ts[k] = t at *
      have hEr : Env wr := hE.below hng hB
      have lGr : G ≤ wr.heap.size := Nat.le_trans hGs hB.size
      obtain⟨c, r⟩ := t
      obtain⟨hc0, bc, hp, br, hcb⟩ := hV
      simp only[ofT]at *
      have hcz : (ze c == [48]) = false := by
        rw[beq_eq_false_iff_ne, ← zah];exact fun h => hc0 (zaJ h)
      have hrz : (ze r == [48]) = false := by
        rw[beq_eq_false_iff_ne, ← zah];exact fun h => by have := zaJ h;subst this;simp at hp
      have HADD := LH (fun w hw hg => zml cs (c * aOf r, leftOf r) hcs0 hcb (by have := clen;omega) G w hw hng hg)
      have bl : Bd 80 (leftOf r : Rat) := hcb.root
      have hV1 : za5 (leftOf r : Rat) ≤ 90 := by have := za7 bl (by decide);omega
      have hV0 := zV (leftOf r : Rat)
      have ba := zmw br hp
      have hL := fun w hw => zW (leftOf r : Rat) (bl.zav (by decide)) w hw
      rw[zaO]at hL
      have HLG := LH hL
      have HM := LH (fun w hw => zai c (aOf r) bc ba (by decide) w hw)
      generalize za5 (leftOf r : Rat) = lv at *
      have lbr := Nat.lt_of_lt_of_le hbG (Nat.le_trans hGs hB.size)
      by_cases hr1 : r = 1
      · have hro : (ze r == [49]) = true := by rw[hr1, zcJ];rfl
        have e1 : ze (aOf r) = [49] := by rw[hr1, zp6, zcJ]
        have e2 : Lib.itoa (leftOf r : Int) = ze r := by rw[hr1, zot, zcJ, show ((1 : Nat) : Int) = 1 from rfl, zaa]
        rw[e2]at HLG HADD
        rw[e1]at HM
        clear hc0 bc hp br hcb hcs0 bl ba hL e1 e2 hr1 hcs'
        generalize zdz cs (c * aOf r, leftOf r) = cs' at *
        generalize ze (c * aOf r) = P at *
        generalize ze c = C at *
        generalize ze r = R at *
        go_wp2_with fail
        have BT := Blk.new wr [.string ⟨C.toArray⟩, .string ⟨R.toArray⟩] 84
        have t0 := BT.cell 0
        have t1 := BT.cell 1
        simp only[zs4,zs5]at t0 t1
        have hq0 : Q wr (wr.alloc (Obj.cells [.string ⟨C.toArray⟩, .string ⟨R.toArray⟩].toArray 84)) := (Below.refl _ wr).alloc (Nat.le_refl _) _
        go_quiet (fail)
        go_wp2_with fail
        have hQ1 := Below.drewN hq0 nq
        have B1 := BT.drewN nq
        clear hq0 BT t0 t1 d0 d1
        refine(HLG.out _ (hEr.q hQ1)).mono ?_
        rintro e w2⟨rfl, hq2⟩
        have hQ2 := Q.trans hQ1 hq2
        have B2 := B1.keep hq2 B1.lt
        have d2 := B2.cell 0
        simp only[List.getElem?_cons_zero]at d2
        clear hq2 hQ1 B1
        go_wp2_with fail
        refine(HM.out _ (hEr.q hQ2)).mono ?_
        rintro e w3⟨rfl, hq3⟩
        have hQ3 := Q.trans hQ2 hq3
        clear hq3 hQ2 B2 d2
        go_wp2_with fail
        refine(HADD.out _ (hEr.q hQ3) (hgr.keep hQ3)).mono ?_
        rintro e w4⟨rfl, hB4, hg4⟩
        have hB5 : Below G w w4 := hB.trans ((hQ3.mono lGr).trans hB4)
        go_wp2
        go_roundw
        case rel => exact⟨k + 1, HL.out, by go_num, hB5, by rw[HT.out];exact hg4⟩
        case measure => simp[intOf];omega
      · have hro : (ze r == [49]) = false := by
          rw[beq_eq_false_iff_ne, ← zcJ];exact fun h => hr1 (zaJ h)
        have hN : ∀ w, Env w → Calls Tryz.prog 138 #[.string ⟨(ze r).toArray⟩] w fun e w' => e = .returned (.tuple #[.string ⟨(ze (aOf r)).toArray⟩, .string ⟨(Lib.itoa (leftOf r : Int)).toArray⟩, .int .i64 0]) ∧ Q w w' := fun w hw => zfR r (br.root90 (by decide)) hp w hw
        have HN := LH hN
        clear hc0 bc hp br hcb hcs0 bl ba hL hr1 hcs' hN
        generalize zdz cs (c * aOf r, leftOf r) = cs' at *
        generalize ze (c * aOf r) = P at *
        generalize ze (aOf r) = A at *
        generalize Lib.itoa (leftOf r : Int) = LL at *
        generalize ze c = C at *
        generalize ze r = R at *
        go_wp2_with fail
        have BT := Blk.new wr [.string ⟨C.toArray⟩, .string ⟨R.toArray⟩] 84
        have t0 := BT.cell 0
        have t1 := BT.cell 1
        simp only[zs4,zs5]at t0 t1
        have hq0 : Q wr (wr.alloc (Obj.cells [.string ⟨C.toArray⟩, .string ⟨R.toArray⟩].toArray 84)) := (Below.refl _ wr).alloc (Nat.le_refl _) _
        go_quiet (fail)
        go_wp2_with fail
        have hqn := Below.drewN hq0 nq
        refine(HN.out _ (hEr.q hqn)).mono ?_
        rintro e w1⟨rfl, hq1⟩
        have hQ1 := Q.trans hqn hq1
        have B1 := (BT.drewN nq).keep hq1 (by simp)
        clear hq1 hqn hq0 BT t0 t1 d0 d1
        go_wp2_with fail
        refine(HLG.out _ (hEr.q hQ1)).mono ?_
        rintro e w2⟨rfl, hq2⟩
        have hQ2 := Q.trans hQ1 hq2
        have B2 := B1.keep hq2 B1.lt
        have d2 := B2.cell 0
        simp only[List.getElem?_cons_zero]at d2
        clear hq2 hQ1 B1
        go_wp2_with fail
        refine(HM.out _ (hEr.q hQ2)).mono ?_
        rintro e w3⟨rfl, hq3⟩
        have hQ3 := Q.trans hQ2 hq3
        clear hq3 hQ2 B2 d2
        go_wp2_with fail
        refine(HADD.out _ (hEr.q hQ3) (hgr.keep hQ3)).mono ?_
        rintro e w4⟨rfl, hB4, hg4⟩
        have hB5 : Below G w w4 := hB.trans ((hQ3.mono lGr).trans hB4)
        go_wp2
        go_roundw
        case rel => exact⟨k + 1, HL.out, by go_num, hB5, by rw[HT.out];exact hg4⟩
        case measure => simp[intOf];omega
    · obtain rfl : k = ts.length := by omega
      rw[List.take_length]at hgr
      go_wp2
      go_ret
      exact⟨rfl, hB, hgr⟩
end
end Go.Proofs.YtbpghkdadajomaaGreatDoor
