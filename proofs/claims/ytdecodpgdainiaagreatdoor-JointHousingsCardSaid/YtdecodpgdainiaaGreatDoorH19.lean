/-
  Surds of no term: walks of package surd.; The law TruelengthSquares: its walk. Compare by the values; the law TruelengthRounds: its walk.; Sums of roots by their values: what a list of terms is worth along one class of roots. Mathematics.
-/
import Derived.Test.YtdecodpgdainiaaGreatDoorH09
import Derived.Test.YtdecodpgdainiaaGreatDoorH18
import Derived.BigRegion
set_option maxRecDepth 100000
set_option maxHeartbeats 4000000
namespace Go.Proofs.YtdecodpgdainiaaGreatDoor
section
open Go.RowKit Kp
open Go.Lib (decDigits)
theorem zhm(l1:List (Str × Str))(h1:0<l1.length)(n1:l1.length≤1000)(v1:Value)(a2:Option Addr)(cap2:Nat)(ha:(a2=none∧cap2=0)∨∃ g,a2=some ⟨g,0,none⟩)(b:Nat)(t:TypeId)(w:World)(hb:Blk w b [v1,.slice a2 0 cap2] t)(s1:TSl w w.heap.size v1 l1) :
  Calls Tryz.prog 78 #[.slice (some ⟨b,0,none⟩) 2 2] w fun e w'=>∃ v,e=.returned v∧Q w w'∧w'.ownsRow w.heap.size 40 2 v l1.length (zcx l1):=by
 have S1:=LH s1
 obtain⟨b1,o1,cap1,rfl,-,-,-⟩:=s1.open h1
 have hg:=fun w=>zjE l1.length (by omega) (by omega) w
 have HG:=LH hg
 clear s1 hg
 have HN1:=LH (fun(W:World) (hq:Q w W) (j:Nat) (u:Value) (hu:(zcx l1)[j]? = some u)=>by
  obtain⟨b',o',cap',hv,_,_,hc⟩:=(S1.out.keep hq (Nat.le_refl _)).open h1
  cases hv
  exact hc j u hu)
 have HL1:=LH (zgA l1)
 have HO1:=LH (zgz l1)
 generalize zcx l1=r1 at *
 generalize l1.length=m1 at *
 have lb:=hb.lt
 obtain⟨i0,hi,hz0,hz1,hz2⟩:=zb8 zew
 have HI:=LH hi
 have HZ:=LH hz0
 have HS:=LH hz1
 have HBy:=LH hz2
 clear hi hz0 hz1 hz2
 have c0:=hb.cell 0
 have c1:=hb.cell 1
 simp only[zs4,zs5]at c0 c1
 have w1i:=Go.IntWalk.i64_in (m1:Int) (by omega)
 have w1j:=Go.IntWalk.i64_in ((0:Int)+(m1:Int)) (by omega)
 go_enter Tryz.func78,Tryz.ntmps78
 go_wp2
 go_loop [3,11] (fun sz i=>(i=.int .i64 0∧sz=.int .i64 0)∨(i=.int .i64 1∧sz=.int .i64 m1)∨(i=.int .i64 2∧sz=.int .i64 m1)) (fun _ i=>2 - (intOf i).toNat)
 case atStart=>exact .inl ⟨rfl,rfl⟩
 case round =>
  rcases hrel with⟨rfl,rfl⟩|⟨rfl,rfl⟩|⟨rfl,rfl⟩
  ·go_wp2
   go_round
   case rel=>exact .inr (.inl ⟨rfl,by go_num⟩)
   case measure=>simp[intOf]
  ·go_wp2
   go_round
   case rel=>exact .inr (.inr ⟨rfl,by first | rfl | go_num⟩)
   case measure=>simp[intOf]
  ·go_wp2_with fail
   refine(HG.out _).mono ?_
   rintro e w1⟨v,rfl,hq1,hr1,g1,gc1,rfl⟩
   clear c0 c1
   have hb1:=hb.keep hq1 lb
   go_wp2
   go_loopw [6,27] (fun o i wr=>Q w wr∧((i=.int .i64 0∧o=.slice (some ⟨g1,0,none⟩) 0 gc1∧wr.ownsRow w.heap.size 40 2 o 0 [])∨(i=.int .i64 1∧wr.ownsRow w.heap.size 40 2 o m1 r1)∨(i=.int .i64 2∧wr.ownsRow w.heap.size 40 2 o m1 r1))) (fun _ i _=>2 - (intOf i).toNat)
   case atStart=>exact⟨hq1,.inl ⟨rfl,rfl,hr1⟩⟩
   case round =>
    obtain⟨hQ,⟨rfl,rfl,hrow⟩|⟨rfl,hrow⟩|⟨rfl,hrow⟩⟩:=hrel
    ·have hbr:=hb.keep hQ lb
     have c0:=hbr.cell 0
     simp only[List.getElem?_cons_zero]at c0
     have lbr:=hbr.lt
     go_wp2_with (at_builtin;refine wpList_append_lies _ (by rfl) (.tmp 31) (.tmp 32) 34 (by rfl) w.heap.size 40 i0 _ 2 32 Tryz.underlying34 HI.out HZ.out HS.out HBy.out rfl (by decide) (.slice (some ⟨g1,0,none⟩) 0 gc1) 0 [] (by rfl) hrow ⟨b1,o1,none⟩ m1 cap1 r1 (by rfl) HL1.out (HN1.out _ hQ) HO1.out h1 (by unfold maxLen;omega) (by omega) hQ.size _ (by rfl) ?_;intro g4 cap4 w4 hown4 hgrow4 hat4 hlt4)
     go_roundw
     case rel=>exact⟨hQ.grown hgrow4 hQ.size (fun k hk=>(hrow.lt k hk).1),.inr (.inl ⟨rfl,by rw[Nat.zero_add,List.nil_append]at hown4;simpa using hown4⟩)⟩
     case measure=>simp[intOf]
    ·rcases hrow.2 with⟨_,h0⟩|⟨g5,gc5,cur,rfl,-,-,hcap5,-⟩
     ·omega
     have hbr:=hb.keep hQ lb
     have c1:=hbr.cell 1
     simp only[zs4,zs5]at c1
     have lbr:=hbr.lt
     rcases ha with⟨rfl,rfl⟩|⟨g2,rfl⟩
     ·go_wp2
      try (go_quiet (fail);go_wp2)
      go_roundw
      case rel=>exact⟨hQ,.inr (.inr ⟨rfl,hrow⟩)⟩
      case measure=>simp[intOf]
     ·go_wp2
      try (go_quiet (fail);go_wp2)
      go_roundw
      case rel=>exact⟨hQ,.inr (.inr ⟨rfl,hrow⟩)⟩
      case measure=>simp[intOf]
    ·go_wp2
     go_ret
     exact⟨_,rfl,hQ,hrow⟩
theorem ztc(s:Rat)(hs:0<s.num):aOf s*aOf s*(leftOf s:Rat)=s:=by
 obtain⟨C,L,N,D,hN,hD,h,hsd,e1,e2,e3⟩:=zjM s hs
 rw[e1,e3]
 have:s=N / D:=by grind
 rw[this]
 grind
end
section
open Go.RowKit Kp
open Go.Lib (decDigits)
end
end Go.Proofs.YtdecodpgdainiaaGreatDoor
namespace Kp
theorem zkB(n:Nat):zm (n*n)=n:=zeu ⟨Nat.le_refl _,Nat.mul_lt_mul'' (Nat.lt_succ_self n) (Nat.lt_succ_self n)⟩
end Kp
namespace Go.Proofs.YtdecodpgdainiaaGreatDoor
section
open Go.RowKit Kp
open Go.Lib (decDigits)
theorem zfH(t:Rat):(t*t).num=t.num*t.num∧(t*t).den=t.den*t.den:=by
 have h1:t*(t.den:Rat)=(t.num:Rat):=zba t
 have h2:(t*t)*((t*t).den:Rat)=((t*t).num:Rat):=zba (t*t)
 have hc1:=t.reduced
 have hc2:=(t*t).reduced
 have hd:=t.den_nz
 have h3:(((t*t).num*((t.den:Int)*t.den):Int):Rat)=((t.num*t.num*((t*t).den:Int):Int):Rat):=by
  rw[Rat.intCast_mul,Rat.intCast_mul,Rat.intCast_mul,Rat.intCast_mul,Rat.intCast_natCast,Rat.intCast_natCast,← h2,← h1]
  grind
 have h4:(t*t).num*((t.den:Int)*t.den)=t.num*t.num*((t*t).den:Int):=by exact_mod_cast h3
 generalize (t*t).num=N at *
 generalize (t*t).den=D at *
 have h5:N.natAbs*(t.den*t.den)=t.num.natAbs*t.num.natAbs*D:=by
  have:=congrArg Int.natAbs h4
  simpa[Int.natAbs_mul]using this
 have c3:Nat.Coprime (t.num.natAbs*t.num.natAbs) (t.den*t.den):=Nat.Coprime.mul_left (Nat.Coprime.mul_right hc1 hc1) (Nat.Coprime.mul_right hc1 hc1)
 have e1:D ∣ t.den*t.den:=by
  have:D ∣ N.natAbs*(t.den*t.den):=⟨t.num.natAbs*t.num.natAbs,by rw[h5,Nat.mul_comm]⟩
  exact Nat.Coprime.dvd_of_dvd_mul_left (Nat.Coprime.symm hc2) this
 have e2:t.den*t.den ∣ D:=by
  have:t.den*t.den ∣ t.num.natAbs*t.num.natAbs*D:=⟨N.natAbs,by rw[← h5,Nat.mul_comm]⟩
  exact Nat.Coprime.dvd_of_dvd_mul_left (Nat.Coprime.symm c3) this
 have e3:D=t.den*t.den:=Nat.dvd_antisymm e1 e2
 refine⟨?_,e3⟩
 rw[e3,Int.natCast_mul]at h4
 have:((t.den:Int)*t.den)≠0:=Int.mul_ne_zero (by omega) (by omega)
 exact Int.eq_of_mul_eq_mul_right this h4
theorem zqM{t:Rat}(ht:0≤t.num):zc1 (t*t)=true∧sqR (t*t)=t:=by
 obtain⟨h1,h2⟩:=zfH t
 obtain⟨n,hn⟩:=Int.eq_ofNat_of_zero_le ht
 have e1:(t*t).num.toNat=n*n:=by rw[h1,hn,← Int.natCast_mul,Int.toNat_natCast]
 unfold zc1 sqR
 rw[e1,h2,zkB,zkB]
 refine⟨by simp,?_⟩
 rw[← hn]
 exact Rat.num_divInt_den t
theorem zpI(x y:Rat):(x*y).den≤x.den*y.den:=by
 have h:=Rat.mul_is x y
 rw[← Int.natCast_mul]at h
 rw[← h]
 exact zez (Nat.mul_pos x.den_pos y.den_pos)
def ztR(w:World)(B:Nat)(v:Value)(a:Rat):Prop:=(a=0∧v=.slice none 0 0)∨(a≠0∧zss w B v a 1)
theorem ztR.keep{w w':World}{B:Nat}{v:Value}{a:Rat}(h:ztR w B v a)(hq:Q w w'):ztR w' B v a :=
 h.elim .inl (fun h=>.inr ⟨h.1,zkm h.2 hq⟩)
end
section
open Go.RowKit Kp
def Sim(a b:Nat):Prop:=zc1 ((a:Rat) / (b:Rat))=true
theorem zux{a b:Nat}{t:Rat}(hb:0<b)(ht:0≤t.num)(h:(a:Rat)=(b:Rat)*(t*t)):zc1 ((a:Rat) / (b:Rat))=true∧sqR ((a:Rat) / (b:Rat))=t:=by
 have hb0:=nat_ne hb
 rw[show (a:Rat) / (b:Rat)=t*t by grind]
 exact zqM ht
theorem zqh{a b:Nat}(ha:0<a)(hb:0<b)(h:Sim a b):0<(sqR ((a:Rat) / (b:Rat))).num∧(a:Rat)=(b:Rat)*(sqR ((a:Rat) / (b:Rat))*sqR ((a:Rat) / (b:Rat))):=by
 have hp:=(zkp hb ha).1
 have hb0:=nat_ne hb
 refine⟨zs6 hp,?_⟩
 rw[zs7 h (by omega)]
 grind
theorem zoa{a b:Nat}(ha:0<a)(hb:0<b)(h:Sim a b):Sim b a:=zoi hb ha h
theorem zrE{a:Nat}(ha:0<a):Sim a a∧sqR ((a:Rat) / (a:Rat))=1:=zux ha (by decide) (by grind)
def cf(m:Nat)(c:Rat × Nat):Rat:=if zc1 ((c.2:Rat) / (m:Rat))then c.1*sqR ((c.2:Rat) / (m:Rat))else 0
def Apart(L:List (Rat × Nat)):Prop:=L.Pairwise fun a b=>¬ Sim b.2 a.2
theorem zsI{u:Rat}{r:Nat}{z:Int}(h:u*u*(r:Rat)=(z:Rat)):u.den*u.den ∣ r:=by
 have h1:u*(u.den:Rat)=(u.num:Rat):=zba u
 have h2:((u.num*u.num*(r:Int):Int):Rat)=((z*((u.den:Int)*u.den):Int):Rat):=by
  rw[Rat.intCast_mul,Rat.intCast_mul,Rat.intCast_mul,Rat.intCast_mul,Rat.intCast_natCast,Rat.intCast_natCast,← h,← h1]
  grind
 have h3:u.num*u.num*(r:Int)=z*((u.den:Int)*u.den):=by exact_mod_cast h2
 have h4:u.num.natAbs*u.num.natAbs*r=z.natAbs*(u.den*u.den):=by
  have:=congrArg Int.natAbs h3
  simpa[Int.natAbs_mul]using this
 have hc:=u.reduced
 have hc2:Nat.Coprime (u.den*u.den) (u.num.natAbs*u.num.natAbs):=Nat.Coprime.symm (Nat.Coprime.mul_left (Nat.Coprime.mul_right hc hc) (Nat.Coprime.mul_right hc hc))
 exact Nat.Coprime.dvd_of_dvd_mul_left hc2 ⟨z.natAbs,by rw[h4,Nat.mul_comm]⟩
theorem zsw{u:Rat}{r:Nat}(h:u.den*u.den ∣ r):∃ z:Int,u*u*(r:Rat)=(z:Rat):=by
 obtain⟨k,hk⟩:=h
 have h1:u*(u.den:Rat)=(u.num:Rat):=zba u
 refine⟨u.num*u.num*(k:Int),?_⟩
 rw[hk,Rat.natCast_mul,Rat.natCast_mul,Rat.intCast_mul,Rat.intCast_mul,Rat.intCast_natCast,← h1]
 grind
theorem znU(u v:Rat):(u+v).den ∣ Nat.lcm u.den v.den:=by
 have hu:=zba u
 have hv:=zba v
 obtain⟨a,ha⟩:=Nat.dvd_lcm_left u.den v.den
 obtain⟨b,hb⟩:=Nat.dvd_lcm_right u.den v.den
 generalize Nat.lcm u.den v.den=L at *
 have h:(u+v)*(L:Rat)=((u.num*(a:Int)+v.num*(b:Int):Int):Rat):=by
  rw[Rat.intCast_add,Rat.intCast_mul,Rat.intCast_mul,Rat.intCast_natCast,Rat.intCast_natCast,← hu,← hv,Rat.add_mul]
  have e1:(L:Rat)=(u.den:Rat)*(a:Rat):=by rw[ha,Rat.natCast_mul]
  have e2:(L:Rat)=(v.den:Rat)*(b:Rat):=by rw[hb,Rat.natCast_mul]
  have f1:u*(L:Rat)=u*(u.den:Rat)*(a:Rat):=by rw[e1];grind
  have f2:v*(L:Rat)=v*(v.den:Rat)*(b:Rat):=by rw[e2];grind
  rw[f1,f2]
 have hw:=zba (u+v)
 have hc:=(u+v).reduced
 generalize u+v=t at *
 generalize u.num*(a:Int)+v.num*(b:Int)=Z at *
 have h2:((t.num*(L:Int):Int):Rat)=((Z*(t.den:Int):Int):Rat):=by
  rw[Rat.intCast_mul,Rat.intCast_mul,Rat.intCast_natCast,Rat.intCast_natCast,← h,← hw];grind
 have h3:t.num*(L:Int)=Z*(t.den:Int):=by exact_mod_cast h2
 have h4:t.num.natAbs*L=Z.natAbs*t.den:=by
  have:=congrArg Int.natAbs h3
  simpa[Int.natAbs_mul]using this
 exact Nat.Coprime.dvd_of_dvd_mul_left (Nat.Coprime.symm hc) ⟨Z.natAbs,by rw[h4,Nat.mul_comm]⟩
theorem ziD{p q:Rat}(hq:0≤q)(h:p*p≤q*q):p≤q:=by
 rcases(Rat.le_total:p≤q∨q≤p)with h1 | h1
 ·exact h1
 ·have h2:=Rat.mul_le_mul_of_nonneg_left h1 hq
  have h3:=Rat.mul_le_mul_of_nonneg_right h1 (Rat.le_trans hq h1)
  have h4:q*q=p*p:=Rat.le_antisymm (Rat.le_trans h2 h3) h
  have h5:(p - q)*(p+q)=0:=by grind
  rcases Rat.mul_eq_zero.1 h5 with h6 | h6
  ·have:p=q:=by grind
   rw[this];exact Rat.le_refl
  ·have:p=0:=by
    have h7:p≤0:=by grind
    exact Rat.le_antisymm h7 (Rat.le_trans hq h1)
   rw[this];exact hq
structure GC (K:Nat) (c:Rat × Nat):Prop where
 norm:zeB c.2
 lt:c.2<10 ^ 6
 den:(4*c.1).den*(4*c.1).den ∣ c.2
 val:c.1*c.1*(c.2:Rat)≤(K:Rat)*(K:Rat)*48769
theorem GC.pos{K:Nat}{c:Rat × Nat}(h:GC K c):0<c.2:=h.norm.1
theorem zdd(n:Nat):(0:Rat)≤(n:Rat):=by exact_mod_cast Nat.zero_le n
theorem GC.mono{K J:Nat}{c:Rat × Nat}(h:GC K c)(hk:K≤J):GC J c:=⟨h.norm,h.lt,h.den,Rat.le_trans h.val (by
 have h1:((K*K*48769:Nat):Rat)≤((J*J*48769:Nat):Rat):=by exact_mod_cast Nat.mul_le_mul_right _ (Nat.mul_le_mul hk hk)
 rw[Rat.natCast_mul,Rat.natCast_mul,Rat.natCast_mul,Rat.natCast_mul]at h1
 exact h1)⟩
theorem GC.plus{K J:Nat}{lo hi:Rat × Nat}(h:GC K lo)(k:GC J hi)(hs:Sim hi.2 lo.2):GC (K+J) (zf1 lo hi):=by
 obtain⟨t0,ht⟩:=zqh k.pos h.pos hs
 obtain⟨z1,e1⟩:=zsw h.den
 obtain⟨z2,e2⟩:=zsw k.den
 have hv:=h.val
 have kv:=k.val
 have hp:=h.pos
 refine⟨h.norm,h.lt,?_,?_⟩
 ·show (4*(lo.1+hi.1*sqR ((hi.2:Rat) / (lo.2:Rat)))).den*(4*(lo.1+hi.1*sqR ((hi.2:Rat) / (lo.2:Rat)))).den ∣ lo.2
  generalize sqR ((hi.2:Rat) / (lo.2:Rat))=t at *
  rw[show 4*(lo.1+hi.1*t)=4*lo.1+4*(hi.1*t) by grind]
  have d2:(4*(hi.1*t)).den*(4*(hi.1*t)).den ∣ lo.2:=zsI (z:=z2) (by rw[← e2,ht];grind)
  have d1:=h.den
  have d3:=znU (4*lo.1) (4*(hi.1*t))
  have d4:Nat.lcm (4*lo.1).den (4*(hi.1*t)).den*Nat.lcm (4*lo.1).den (4*(hi.1*t)).den ∣ lo.2:=by
   have h2:=Nat.lcm_dvd d1 d2
   rw[← Nat.pow_two,← Nat.pow_two,Nat.pow_lcm_pow]at h2
   rw[← Nat.pow_two];exact h2
  exact Nat.dvd_trans (Nat.mul_dvd_mul d3 d3) d4
 ·show (lo.1+hi.1*sqR ((hi.2:Rat) / (lo.2:Rat)))*(lo.1+hi.1*sqR ((hi.2:Rat) / (lo.2:Rat)))*(lo.2:Rat)≤((K+J:Nat):Rat)*((K+J:Nat):Rat)*48769
  generalize sqR ((hi.2:Rat) / (lo.2:Rat))=t at *
  have kv2:(hi.1*t)*(hi.1*t)*(lo.2:Rat)≤(J:Rat)*(J:Rat)*48769:=by
   have:(hi.1*t)*(hi.1*t)*(lo.2:Rat)=hi.1*hi.1*(hi.2:Rat):=by rw[ht];grind
   rw[this];exact kv
  have r0:=zdd lo.2
  generalize hi.1*t=y at *
  generalize lo.1=x at *
  have a0:0≤x*x*(lo.2:Rat):=Rat.mul_nonneg (sq_nonneg x) r0
  have b0:0≤y*y*(lo.2:Rat):=Rat.mul_nonneg (sq_nonneg y) r0
  have c0:(0:Rat)≤(K:Rat)*(J:Rat)*48769:=Rat.mul_nonneg (Rat.mul_nonneg (zdd K) (zdd J)) (by decide)
  have m1:=Rat.mul_le_mul_of_nonneg_right hv b0
  have m2:=Rat.mul_le_mul_of_nonneg_left kv2 (Rat.le_trans a0 hv)
  have m3:=Rat.le_trans m1 m2
  have m4:(x*y*(lo.2:Rat))*(x*y*(lo.2:Rat))≤((K:Rat)*(J:Rat)*48769)*((K:Rat)*(J:Rat)*48769):=by
   have g1:(x*y*(lo.2:Rat))*(x*y*(lo.2:Rat))=x*x*(lo.2:Rat)*(y*y*(lo.2:Rat)):=by grind
   have g2:((K:Rat)*(J:Rat)*48769)*((K:Rat)*(J:Rat)*48769)=(K:Rat)*(K:Rat)*48769*((J:Rat)*(J:Rat)*48769):=by grind
   rw[g1,g2];exact m3
  have m5:=ziD c0 m4
  rw[Rat.natCast_add]
  have g3:(x+y)*(x+y)*(lo.2:Rat)=x*x*(lo.2:Rat)+y*y*(lo.2:Rat)+(x*y*(lo.2:Rat)+x*y*(lo.2:Rat)):=by grind
  have g4:((K:Rat)+(J:Rat))*((K:Rat)+(J:Rat))*48769=(K:Rat)*(K:Rat)*48769+(J:Rat)*(J:Rat)*48769+((K:Rat)*(J:Rat)*48769+(K:Rat)*(J:Rat)*48769):=by grind
  rw[g3,g4]
  generalize x*x*(lo.2:Rat)=A at *
  generalize y*y*(lo.2:Rat)=B at *
  generalize x*y*(lo.2:Rat)=C at *
  generalize (K:Rat)*(K:Rat)*48769=A' at *
  generalize (J:Rat)*(J:Rat)*48769=B' at *
  generalize (K:Rat)*(J:Rat)*48769=C' at *
  clear m1 m2 m3 m4 g3 g4
  grind
theorem GC.neg{K:Nat}{x:Rat}{l:Nat}(h:GC K (x,l)):GC K (-x,l):=by
 refine⟨h.norm,h.lt,?_,?_⟩
 ·show (4*-x).den*(4*-x).den ∣ l
  rw[show 4*-x = -(4*x) by grind,zgF];exact h.den
 ·show -x*-x*(l:Rat)≤_
  rw[show -x*-x*(l:Rat)=x*x*(l:Rat) by grind];exact h.val
theorem GC.zdb{K J:Nat}{t:Rat × Nat}(ht:GC J t):∀ {L:List (Rat × Nat)},(∀ c∈L,GC K c)→∀ d∈zdb L t,GC (K+J) d
 | [],_,d,hd=>by unfold Go.Proofs.YtdecodpgdainiaaGreatDoor.zdb at hd;rw[List.mem_singleton]at hd;subst hd;exact ht.mono (by omega)
 | c::r,h,d,hd=>by
  have hc:=h c (by simp)
  unfold Go.Proofs.YtdecodpgdainiaaGreatDoor.zdb at hd
  split at hd
  ·next hs =>
   rw[List.mem_cons]at hd
   rcases hd with rfl | hd
   ·split
    ·exact(ht.plus hc (zoa ht.pos hc.pos hs)).mono (by omega)
    ·exact hc.plus ht hs
   ·exact(h d (by simp[hd])).mono (by omega)
  ·rw[List.mem_cons]at hd
   rcases hd with rfl | hd
   ·exact hc.mono (by omega)
   ·exact GC.zdb ht (fun c hc=>h c (by simp[hc])) d hd
theorem GC.base{s:Rat}(bs:Bd 6 s)(sp:0<s.num){N:Nat}(hs:s=Rat.divInt (N:Int) ((4:Nat):Int))(hN:N≤195075):GC 1 (aOf s,leftOf s):=by
 have hr:=ztc s sp
 have e4:s*4=(N:Rat):=by
  rw[hs,Rat.divInt_eq_div,Rat.intCast_natCast,Rat.intCast_natCast,show ((4:Nat):Rat)=4 from rfl];grind
 have sd:s.den≤4:=by rw[hs];exact zez (by decide)
 refine⟨(zsW (bs.mono (by decide)) sp).norm,?_,?_,?_⟩
 ·have h1:s*(s.den:Rat)=(s.num:Rat):=zba s
  have h2:((s.num*4:Int):Rat)=(((N:Int)*(s.den:Int):Int):Rat):=by
   rw[Rat.intCast_mul,Rat.intCast_mul,Rat.intCast_natCast,Rat.intCast_natCast,← h1,← e4,show ((4:Int):Rat)=4 from rfl];grind
  have h3:s.num*4=(N:Int)*(s.den:Int):=by exact_mod_cast h2
  have hsn:((s.num.toNat:Nat):Int)=s.num:=Int.toNat_of_nonneg (by omega)
  have h4:s.num.toNat*4=N*s.den:=by rw[← hsn]at h3;exact_mod_cast h3
  have hc:Nat.Coprime s.num.toNat s.den:=by
   have:=s.reduced
   rwa[show s.num.natAbs=s.num.toNat by omega]at this
  have h5:s.num.toNat ∣ N:=Nat.Coprime.dvd_of_dvd_mul_right hc ⟨4,h4.symm⟩
  have hN0:0<N:=by
   rcases Nat.eq_zero_or_pos N with h | h
   ·rw[h]at h4;omega
   ·exact h
  have h6:=Nat.le_of_dvd hN0 h5
  have h7:s.num.toNat*s.den≤195075*4:=Nat.mul_le_mul (Nat.le_trans h6 hN) sd
  have h8:=zlr (m:=s.num.toNat*s.den) (Nat.mul_pos (by omega) s.den_pos)
  show leftOf s<10 ^ 6
  unfold leftOf
  omega
 ·exact zsI (z:=((4*N:Nat):Int)) (by
   show 4*aOf s*(4*aOf s)*(leftOf s:Rat)=_
   rw[Rat.intCast_natCast,Rat.natCast_mul,show ((4:Nat):Rat)=4 from rfl,← e4,show 4*aOf s*(4*aOf s)*(leftOf s:Rat)=16*(aOf s*aOf s*(leftOf s:Rat)) by grind,hr];grind)
 ·show aOf s*aOf s*(leftOf s:Rat)≤((1:Nat):Rat)*((1:Nat):Rat)*48769
  rw[hr,show ((1:Nat):Rat)=1 from rfl]
  have h1:(N:Rat)≤((195075:Nat):Rat):=by exact_mod_cast hN
  rw[show ((195075:Nat):Rat)=195075 from rfl,← e4]at h1
  grind
theorem GC.bd{K:Nat}{c:Rat × Nat}(h:GC K c)(hK:K≤100):Bd 8 c.1∧c.1.den<10 ^ 4:=by
 have hp:=h.pos
 have hd:(4*c.1).den<1000:=by
  have h1:=Nat.le_of_dvd hp h.den
  have h2:=h.lt
  rcases Nat.lt_or_ge (4*c.1).den 1000 with h3 | h3
  ·exact h3
  ·have:=Nat.mul_le_mul h3 h3
   omega
 have hd2:c.1.den≤4*(4*c.1).den:=by
  have e:c.1=4*c.1*(Rat.divInt 1 ((4:Nat):Int)):=by
   rw[Rat.divInt_eq_div,Rat.intCast_natCast,show ((4:Nat):Rat)=4 from rfl,show ((1:Int):Rat)=1 from rfl];grind
  have h1:=zpI (4*c.1) (Rat.divInt 1 ((4:Nat):Int))
  rw[← e]at h1
  have h2:(Rat.divInt 1 ((4:Nat):Int)).den≤4:=zez (by decide)
  have h3:=Nat.mul_le_mul_left (4*c.1).den h2
  omega
 have hv:=h.val
 have r1:(1:Rat)≤(c.2:Rat):=by exact_mod_cast hp
 have s0:=sq_nonneg c.1
 have v1:=Rat.mul_le_mul_of_nonneg_left r1 s0
 rw[Rat.mul_one]at v1
 have v2:=Rat.le_trans v1 hv
 have v3:(K:Rat)*(K:Rat)*48769≤((22100:Nat):Rat)*((22100:Nat):Rat):=by
  have h1:K*K*48769≤22100*22100:=by
   have:=Nat.mul_le_mul hK hK
   omega
  have h2:((K*K*48769:Nat):Rat)≤((22100*22100:Nat):Rat):=by exact_mod_cast h1
  rw[Rat.natCast_mul,Rat.natCast_mul,Rat.natCast_mul]at h2
  exact h2
 have v4:=Rat.le_trans v2 v3
 have hm:=zba c.1
 have hn:c.1.num.natAbs*c.1.num.natAbs≤(22100*c.1.den)*(22100*c.1.den):=by
  have d0:=zdd c.1.den
  have w1:=Rat.mul_le_mul_of_nonneg_right v4 (Rat.mul_nonneg d0 d0)
  have w2:c.1*c.1*((c.1.den:Rat)*(c.1.den:Rat))=((c.1.num*c.1.num:Int):Rat):=by
   rw[Rat.intCast_mul,← hm];grind
  have w3:((22100:Nat):Rat)*((22100:Nat):Rat)*((c.1.den:Rat)*(c.1.den:Rat))=(((22100*c.1.den)*(22100*c.1.den):Nat):Rat):=by
   rw[Rat.natCast_mul,Rat.natCast_mul];grind
  rw[w2,w3,← Int.natAbs_mul_self,Rat.intCast_natCast]at w1
  exact_mod_cast w1
 have hn2:c.1.num.natAbs≤22100*c.1.den:=by
  rcases Nat.lt_or_ge (22100*c.1.den) c.1.num.natAbs with h1 | h1
  ·have:=Nat.mul_lt_mul'' h1 h1
   omega
  ·exact h1
 exact⟨⟨by omega,by omega⟩,by omega⟩
def ziw(cs L:List (Rat × Nat)):List (Rat × Nat):=L.foldl zdb cs
theorem zro(cs:List (Rat × Nat))(c:Rat × Nat)(L:List (Rat × Nat)):ziw cs (c::L)=ziw (zdb cs c) L:=rfl
theorem GC.ziw{J:Nat}:∀ (L:List (Rat × Nat)) {K:Nat} {cs:List (Rat × Nat)},(∀ c∈cs,GC K c)→(∀ c∈L,GC J c)→∀ d∈ziw cs L,GC (K+L.length*J) d
 | [],K,_,h,_,d,hd=>(h d hd).mono (by simp)
 | c::r,K,_,h,k,d,hd=>by
  rw[zro]at hd
  have h2:=GC.ziw r (GC.zdb (k c (by simp)) h) (fun d hd=>k d (by simp[hd])) d hd
  exact h2.mono (by rw[List.length_cons,Nat.succ_mul];omega)
theorem GC.root40{K:Nat}{c:Rat × Nat}(h:GC K c):Bd 40 (c.2:Rat):=⟨by rw[Rat.num_natCast,Int.natAbs_natCast];exact Nat.lt_of_lt_of_le h.lt (by decide),by rw[Rat.den_natCast];exact by decide⟩
theorem GC.term{K:Nat}{c:Rat × Nat}(h:GC K c)(hK:K≤100)(h0:c.1≠0):Term1 c.1 c.2:=by
 have hb:=(h.bd hK).1
 exact⟨hb.zak (by decide),h0,by have:=zdH hb (by decide);omega,h.norm,h.root40⟩
theorem GC.cb{K:Nat}{c:Rat × Nat}(h:GC K c)(hK:K≤100):CB c:=⟨(h.bd hK).1.mono (by decide),h.pos,Nat.lt_of_lt_of_le h.lt (by decide)⟩
theorem GC.vt{K:Nat}{c:Rat × Nat}(h:GC K c)(hK:K≤100)(h0:c.1≠0):VT (c.1,(c.2:Rat)):=by
 obtain⟨p1,p2⟩:=zks h.norm
 exact⟨h0,(h.bd hK).1.mono (by decide),by rw[Rat.num_natCast];have:=h.pos;omega,h.root40,by rw[p1,p2,Rat.mul_one];exact h.cb hK⟩
end
end Go.Proofs.YtdecodpgdainiaaGreatDoor
