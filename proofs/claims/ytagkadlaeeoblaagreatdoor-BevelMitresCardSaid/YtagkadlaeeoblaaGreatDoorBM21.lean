/-
  PA PB PC PD PE PF PG PH PI PJ PK PL LDepths, one behind the other.; The law's numbers: kingpostref02.Of at whole numbers; its spots and members; equal.; The mitres of the law's members.
-/
import Derived.Test.YtagkadlaeeoblaaGreatDoorBM20
set_option maxRecDepth 100000
set_option maxHeartbeats 2000000
namespace Go.Proofs.YtagkadlaeeoblaaGreatDoor
section
open Go.RowKit Kp
open Go.Lib (decDigits)
theorem zl3(a b:Nat)(w:World)(ha1:a≤9223372036854775807)(hb1:b≤9223372036854775807) :
  CR 35 #[.int .i64 a,.int .i64 b] w (.int .i64 (Nat.gcd a b)):=by
 go_enter Tryz.func35,Tryz.ntmps35
 go_wp2
 go_loopw [0,1] (zsx w (Nat.gcd a b)) (fun _ y _=>(intOf y).toNat)
 case atStart=>exact⟨0,a,b,rfl,rfl,ha1,hb1,rfl,rfl⟩
 case round =>
  obtain⟨n,p,q,rfl,rfl,hp,hq,hg,rfl⟩:=hrel
  have HG:=LH hg;clear hg
  by_cases h0:q=0
  ·subst h0
   go_wp2
   go_ret
   have:=HG.out
   simp at this
   exact⟨by rw[← this];rfl,bt⟩
  ·have hne:((q:Int) == 0)=false:=by simp;omega
   have hm:=Nat.mod_lt p (show 0<q by omega)
   go_wp2
   go_quiet (fail)
   go_wp2
   go_roundw
   case rel=>exact⟨n+nq,q,p % q,rfl,by go_num,by omega,by omega,by rw[← HG.out,zis p q],by simp⟩
   case measure=>simp[intOf];omega
structure Wd2 (X:Int) (out:Str) (i:Nat) (n:Int):Prop where
 len:out.length=20
 i1:1≤i
 i20:i≤20
 dig:zaS (out.drop i)
 val:X=nval (out.drop i)+10 ^ (20 - i)*n
 n0:0≤n
 nlt:n<10 ^ (i - 1)
 pos:i=20∨0<n
theorem Wd2.start{X:Int}(h0:0≤X)(h:X≤9223372036854775807):Wd2 X (List.replicate 20 0) 20 X:=by
 refine⟨by simp,by omega,by omega,?_,?_,h0,?_,.inl rfl⟩
 ·rw[List.drop_of_length_le (by simp)];intro c hc;cases hc
 ·rw[List.drop_of_length_le (by simp)];simp[nval,zfm]
 ·exact Int.lt_of_le_of_lt h (by decide)
theorem Wd2.step{X:Int}{out:Str}{i:Nat}{n:Int}(h:Wd2 X out i n){p:Nat}(hp:p+1=i) :
  p<20∧(n / 10=0→(out.set p (UInt8.ofNat (48+n % 10).toNat)).drop p=decDigits X.toNat)∧(n / 10≠0→Wd2 X (out.set p (UInt8.ofNat (48+n % 10).toNat)) p (n / 10)):=by
 subst hp
 have hn0:=h.n0
 have hn1:=h.nlt
 have hl:=h.len
 have hi:=h.i20
 have hc:=znO (n:=48+n % 10) (by omega) (by omega)
 generalize UInt8.ofNat (48+n % 10).toNat=c at *
 have hlt:p<out.length:=by omega
 have e:(out.set p c).drop p=c::out.drop (p+1):=by
  rw[List.drop_eq_getElem_cons (by simpa using hlt),List.getElem_set_self]
  congr 1
  rw[List.drop_set_of_lt (by omega)]
 have hd:=h.dig
 have hv:=h.val
 have hcd:zaD c=true:=(zdd _).2 (by omega)
 have hall:zaS (c::out.drop (p+1)):=by
  intro x hx
  rcases List.mem_cons.1 hx with rfl | hx
  ·exact hcd
  ·exact hd x hx
 have hval:X=nval (c::out.drop (p+1))+10 ^ (20 - p)*(n / 10):=by
  rw[zdR,List.length_drop,show out.length - (p+1)=20 - (p+1) by omega,hv]
  have hpow:(10:Int) ^ (20 - p)=10 ^ (20 - (p+1))*10:=by
   rw[show 20 - p=(20 - (p+1))+1 by omega,Int.pow_succ]
  rw[hpow]
  have hcn:((c.toNat - 48:Nat):Int)=n % 10:=by omega
  push_cast
  rw[hcn]
  have hdm:n=10*(n / 10)+n % 10:=by omega
  generalize n / 10=q at *
  generalize n % 10=r at *
  subst hdm
  generalize (10:Int) ^ (20 - (p+1))=Pw at *
  grind
 refine⟨by omega,fun h0=>?_,fun h0=>?_⟩
 ·rw[e]
  rw[h0,Int.mul_zero,Int.add_zero]at hval
  rw[show X.toNat=nval (c::out.drop (p+1)) by omega]
  refine(zbf _ (by simp) hall (fun h48=>?_)).symm
  simp only[List.head?_cons,Option.some.injEq]at h48
  have hn:n=0:=by rw[h48]at hc;simp at hc;omega
  rcases h.pos with hp | hp
  ·rw[h48,List.drop_of_length_le (by omega)]
  ·omega
 ·have hp0:p≠0:=fun e0=>by
   subst e0
   rw[show (10:Int) ^ (0+1 - 1)=1 from rfl]at hn1
   omega
  refine⟨by simpa using hl,by omega,by omega,by rw[e];exact hall,by rw[e];exact hval,by omega,?_,.inr (by omega)⟩
  have hpow:(10:Int) ^ (p+1 - 1)=10 ^ (p - 1)*10:=by
   rw[show p+1 - 1=(p - 1)+1 by omega,Int.pow_succ]
  rw[hpow]at hn1
  omega
end
section
open Go.RowKit Kp
open Go.Lib (decDigits)
theorem zd8(X:Int)(h0:0≤X)(h1:X≤9223372036854775807)(w:World) :
  CR 36 #[.int .i64 X] w (.string ⟨(Lib.itoa X).toArray⟩):=by
 rw[itoa_nonneg h0]
 obtain⟨i0,hi,hz0,hz1,hz2⟩:=info_parts infoByte
 have HS0:=LH (Wd2.start h0 h1)
 obtain⟨W5,hmk,hown,hgr⟩:=run_make_full (P:=Tryz.prog) w w.heap.size 134 5 i0 _ 1 Tryz.underlying134 hi hz0 hz1 .i64 .i64 20 (by rw[hz2];omega) (by unfold maxLen;omega) (Nat.le_refl _)
 rw[show (Value.int .u8 0).cells=#[Value.int .u8 0]from rfl,Nat.mul_one,toList_madeCells_one,znH]at hown
 have hq5:Q w W5:=(Below.refl w.heap.size w).grown hgr (Nat.le_refl _) (fun k hk=>by cases hk)
 have hg5:w.heap.size<W5.heap.size:=(hown.lt w.heap.size rfl).2
 obtain⟨g,hgg⟩:∃ g,w.heap.size=g:=⟨_,rfl⟩
 have hgw:w.heap.size≤g:=by omega
 rw[hgg]at hmk hown hg5
 have HO:=LH hown
 clear hown hgr hgg
 rw[show ((20:Nat):Int)=20 from rfl]at hmk
 go_enter Tryz.func36,Tryz.ntmps36
 go_wp2_with fail
 clear hmk
 go_loopw [0,4] (fun nv iv wr=>∃ (i:Nat) (N:Int) (out:Str),iv=.int .i64 i∧nv=.int .i64 N∧N≤9223372036854775807∧Hid (Wd2 X out i N)∧Hid (wr.ownsRow g 5 1 (.slice (some ⟨g,0,none⟩) 20 20) 20 (zlz out))∧Q w wr) (fun _ iv _=>(intOf iv).toNat)
 case atStart=>exact⟨20,X,_,rfl,rfl,h1,HS0,HO,hq5⟩
 case round =>
  obtain⟨i,N,out,rfl,rfl,hNm,HI,HO1,hQ⟩:=hrel
  obtain⟨p,rfl⟩:∃ p,i=p+1:=⟨i - 1,by have:=HI.out.i1;omega⟩
  obtain⟨hp20,hs0,hs1⟩:=HI.out.step rfl
  have hN0:=HI.out.n0
  have hNb:N<10 ^ 19:=Int.lt_of_lt_of_le HI.out.nlt (zbs (by decide) (by omega))
  have hpe:((p+1:Nat):Int) - 1=(p:Int):=by omega
  have hp0:(0:Int)≤(p:Int):=by omega
  have hpn:(p:Int)<20:=by omega
  have hpl:(p:Int)≤20:=by omega
  have hw3:=Go.IntWalk.i64_in (p:Int) (by omega)
  have hw4:=Go.IntWalk.i64_in (48+N % 10) (by omega)
  have hw5:=Go.IntWalk.u8_in (48+N % 10) (by omega)
  have hr3:=HO1.out
  have hol:out.length=20:=HI.out.len
  have hc3:=hr3.cellAt p (by omega)
  have hf3:=hr3.frozenAt p
  rw[zok out p (by omega)]at hc3
  obtain⟨hr4,-⟩:=hr3.stored p (.int .u8 (48+N % 10))
  have hc:=znO (n:=48+N % 10) (by omega) (by omega)
  have hr5:=hr4
  rw[← hc,zq2]at hr5
  rw[hc]at hr5
  have hol2:(out.set p (UInt8.ofNat (48+N % 10).toNat)).length=20:=by simpa using hol
  have HR5:=LH hr5
  have HS1:=LH hs1
  have hQ4:Q w (wr.setCell ⟨g,p,none⟩ (.int .u8 (48+N % 10))):=hQ.setCell (p:=⟨g,p,none⟩) hgw _
  by_cases hz:N / 10=0
  ·have hb:(N / 10 == 0)=true:=by rw[beq_iff_eq];exact hz
   have hcv:=zpw hr5 hol2 p (by omega) (20 - p)
   rw[hs0 hz]at hcv
   clear hr3 hr4 hr5 hc hs0 hs1 HI hNb hz HS1
   go_wp2
   go_ret
   exact⟨rfl,hQ4⟩
  ·have hb:(N / 10 == 0)=false:=by rw[beq_eq_false_iff_ne];exact hz
   have HST:=LH (HS1.out hz)
   clear hr3 hr4 hr5 hc hs0 hs1 HI hNb hz HS1
   go_wp2
   go_roundw
   case rel=>exact⟨p,N / 10,_,by go_num,by go_num,by omega,HST,HR5,hQ4⟩
   case measure=>simp[intOf]
theorem znw{n k:Nat}(hk:0<k):0<Nat.gcd n k∧0<k / Nat.gcd n k∧(0<n→0<n / Nat.gcd n k):=by
 have hg:0<Nat.gcd n k:=Nat.gcd_pos_of_pos_right _ hk
 exact⟨hg,Nat.div_pos (Nat.le_of_dvd hk (Nat.gcd_dvd_right ..)) hg,fun hn=>Nat.div_pos (Nat.le_of_dvd hn (Nat.gcd_dvd_left ..)) hg⟩
theorem ziR(n k:Nat)(hk:0<k)(hn:n≤4611686018427387904)(hk1:k≤4611686018427387904)(w:World) :
  CR 14 #[.int .i64 n,.int .i64 k] w (.string ⟨(zh (Rat.divInt n k)).toArray⟩):=by
 obtain⟨p1,p2,-⟩:=znw (n:=n) hk
 have hr:=zd4 (n:Int) k hk
 rw[Int.natAbs_natCast,Int.tdiv_eq_ediv_of_nonneg (by omega),← Int.natCast_ediv,← Int.natCast_ediv]at hr
 have HR:=LH hr
 clear hr
 generalize zh (Rat.divInt n k)=r at *
 have HG:=LH (zl3 n k w (by omega) (by omega))
 generalize Nat.gcd n k=g at *
 have b1:n / g≤n:=Nat.div_le_self ..
 have b2:k / g≤k:=Nat.div_le_self ..
 have hd1:(n:Int) / (g:Int)=((n / g:Nat):Int):=by simp
 have hd2:(k:Int) / (g:Int)=((k / g:Nat):Int):=by simp
 generalize n / g=x at *
 generalize k / g=y at *
 have hw1:=Go.IntWalk.i64_in (x:Int) (by omega)
 have hw2:=Go.IntWalk.i64_in (y:Int) (by omega)
 have hg3:((g:Int) == 0)=false:=by rw[beq_eq_false_iff_ne];omega
 have hn0:¬ (n:Int)<0:=by omega
 have HD1:=LH (fun w=>zd8 (x:Int) (by omega) (by omega) w)
 have HD2:=LH (fun w=>zd8 (y:Int) (by omega) (by omega) w)
 have l19:(10:Nat) ^ 19=10000000000000000000:=by decide
 have l1:=zW (x:Int) (zay (n:=19) (by omega) (by decide))
 have l2:=zW (y:Int) (zay (n:=19) (by omega) (by decide))
 clear l19
 by_cases h1:y=1
 ·have HW:Hid (r=Lib.itoa (x:Int)):=LH (by rw[HR.out,if_pos (by omega)])
  have hb:((y:Int) == 1)=true:=by rw[beq_iff_eq];omega
  have ha1:=zit Tryz.prog [] (Lib.itoa (x:Int)) (by simp;omega)
  clear HR h1 HD2
  generalize Lib.itoa (x:Int)=X at *
  go_enter Tryz.func14,Tryz.ntmps14
  go_wp2_with fail
  refine HG.out.mono ?_
  rintro e w1⟨rfl,hq1⟩
  go_wp2_with fail
  refine cx (HD1.out _) fun w2 hq2=>?_
  have hQ2:=Q.trans hq1 hq2
  go_wp2
  go_ret
  exact⟨by rw[HW.out];rfl,hQ2⟩
 ·have HW:Hid (r=Lib.itoa (x:Int)++47::Lib.itoa (y:Int)):=LH (by rw[HR.out,if_neg (by omega)])
  have hb:((y:Int) == 1)=false:=by rw[beq_eq_false_iff_ne];omega
  clear HR h1
  generalize Lib.itoa (x:Int)=X at *
  generalize Lib.itoa (y:Int)=Y at *
  go_enter Tryz.func14,Tryz.ntmps14
  go_wp2_with fail
  refine HG.out.mono ?_
  rintro e w1⟨rfl,hq1⟩
  go_wp2_with fail
  refine cx (HD1.out _) fun w2 hq2=>?_
  have hQ2:=Q.trans hq1 hq2
  go_wp2_with fail
  refine cx (HD2.out _) fun w3 hq3=>?_
  have hQ3:=Q.trans hQ2 hq3
  go_wp2
  go_ret
  exact⟨by rw[HW.out];first | rfl | (simp;done),hQ3⟩
end
section
open Go.RowKit Kp
open Go.Lib (decDigits)
end
section
open Go.RowKit Kp
open Go.Lib (decDigits)
end
section
open Go.RowKit Kp
open Go.Lib (decDigits)
theorem zl4(k d:Nat)(hk:k≤1000000000000)(hd0:0<d)(hd:d≤1000000000000)(w:World) :
  CR 5 #[.int .i64 k,.int .i64 d] w (.tuple #[.string ⟨(zh (Rat.divInt (k:Int) (d:Int))).toArray⟩,.int .i64 0]):=by
 have H1:=LH (ziR k d hd0 (by omega) (by omega) w)
 generalize zh (Rat.divInt (k:Int) (d:Int))=X at *
 have f1:(-4611686018427387904:Int)<(k:Int):=by omega
 have f2:(k:Int)<4611686018427387904:=by omega
 have f3:(0:Int)<(d:Int):=by omega
 have f4:(d:Int)<4611686018427387904:=by omega
 have f5:((d:Int) == 0)=false:=by rw[beq_eq_false_iff_ne];omega
 generalize (k:Int)=a at *
 generalize (d:Int)=b at *
 clear hk hd hd0
 go_enter Tryz.func5,Tryz.ntmps5
 go_wp2_with fail
 refine H1.out.mono ?_
 rintro e w1⟨rfl,hq1⟩
 go_wp2
 go_ret2
 exact⟨rfl,hq1⟩
theorem zl5(k:Nat)(hk:k≤1000000)(w:World) :
  CR 5 #[.int .i64 k,.int .i64 1] w (.tuple #[.string ⟨(zh (Rat.divInt (k:Int) (1:Nat))).toArray⟩,.int .i64 0]) :=
 zl4 k 1 (by omega) (by decide) (by decide) w
end
section
open Go.RowKit Kp
open Go.Lib (decDigits)
end
section
open Go.RowKit Kp
open Go.Lib (decDigits)
end
section
open Go.RowKit Kp
open Go.Lib (decDigits)
end
section
open Go.RowKit Kp
open Go.Lib (decDigits)
end
section
open Go.RowKit Kp
open Go.Lib (decDigits)
end
section
open Go.RowKit Kp
open Go.Lib (decDigits)
end
section
open Go.RowKit Kp
open Go.Lib (decDigits)
end
section
open Go.RowKit Kp
open Go.Lib (decDigits)
end
section
open Go.RowKit Go.Shelf Kp
open Go.Lib (decDigits)
attribute [local go_sem] Oper.semAt_some
theorem ziS(n:Nat)(h0:0<n)(hn:n≤1000000)(w:World) :
  CR 14 #[.int .i64 (-(n:Int)),.int .i64 1] w (.string ⟨(45::Lib.itoa (n:Int)).toArray⟩):=by
 have HG:=LH (zl3 n 1 w (by omega) (by omega))
 rw[Nat.gcd_one_right]at HG
 have HD1:=LH (fun w=>zd8 (n:Int) (by omega) (by omega) w)
 have l1:=zW (n:Int) (zay (n:=19) (by rw[Int.natAbs_natCast];omega) (by decide))
 have ha1:=zit Tryz.prog [45] (Lib.itoa (n:Int)) (by simp;omega)
 have hlt:-(n:Int)<0:=by omega
 have hng:- -(n:Int)=(n:Int):=by omega
 have hw0:=Go.IntWalk.i64_in (n:Int) (by omega)
 have hd1:(n:Int) / 1=n:=by omega
 generalize Lib.itoa (n:Int)=X at *
 go_enter Tryz.func14,Tryz.ntmps14
 go_wp2_with fail
 refine HG.out.mono ?_
 rintro e w1⟨rfl,hq1⟩
 go_wp2_with fail
 refine cx (HD1.out _) fun w2 hq2=>?_
 have hQ2:=Q.trans hq1 hq2
 go_wp2
 go_ret
 exact⟨rfl,hQ2⟩
theorem zl6(z:Int)(hz:z.natAbs≤1000000)(w:World) :
  CR 5 #[.int .i64 z,.int .i64 1] w (.tuple #[.string ⟨(zh (z:Rat)).toArray⟩,.int .i64 0]):=by
 by_cases h0:0≤z
 ·obtain⟨k,rfl⟩:=Int.eq_ofNat_of_zero_le h0
  have h:=zl5 k (by omega) w
  rw[zhw]at h
  exact h
 ·have e:zh (z:Rat)=45::Lib.itoa ((z.natAbs:Nat):Int):=by
   rw[zii,itoa_neg (by omega),itoa_nonneg (by omega),Int.toNat_natCast]
  have H1:=LH (ziS z.natAbs (by omega) hz w)
  rw[e]
  have f0:-((z.natAbs:Nat):Int)=z:=by omega
  rw[f0]at H1
  generalize (45::Lib.itoa ((z.natAbs:Nat):Int):Str)=X at *
  have f1:(-4611686018427387904:Int)<z:=by omega
  have f2:z<4611686018427387904:=by omega
  clear hz h0 e f0
  go_enter Tryz.func5,Tryz.ntmps5
  go_wp2_with fail
  refine H1.out.mono ?_
  rintro e w1⟨rfl,hq1⟩
  go_wp2
  go_ret2
  exact⟨rfl,hq1⟩
theorem zmn(z:Int)(hz:z.natAbs≤1000000)(w:World) :
  CR 4 #[.int .i64 z] w (.string ⟨(zh (z:Rat)).toArray⟩):=by
 have H1:=LH (fun w=>zl6 z hz w)
 generalize zh (z:Rat)=X at *
 go_enter Tryz.func4,Tryz.ntmps4
 have hQ0:=Q.refl w
 go_wp2_with fail
 refine cx (H1.out _) fun w1 hq1=>?_
 have hs1:Q w w1:=Q.trans bt hq1
 have hQ1:Q w w1:=Q.trans hQ0 hs1
 go_wp2
 go_ret
 exact⟨rfl,bt⟩
theorem zg9{W:World}{b:Nat}{c0 c1 c2 c3 c4 c5 c6 c7 c8 c9 c10:Value}(h:Blk W b [c0,c1,c2,c3,c4,c5,c6,c7,c8,c9,c10] 33)(fn:Func)(m:Nat)(hf:fn.results=#[.cell m 33])(tmps:Array Value)(hp:tmps.getD m undef=.pointer (some ⟨b,0,none⟩)) :
  (results fn tmps).run Tryz.prog W=.ok (.agg #[c0,c1,c2,c3,c4,c5,c6,c7,c8,c9,c10]) W :=
 results_cell_row hf tmps W b _ #[c0,c1,c2,c3,c4,c5,c6,c7,c8,c9,c10] (0,0) _ hp h Tryz.underlying33 rfl (by kernel_rfl)
theorem zeR(k F O:Int)(X1 X2 X3 X4 X5 X6:Str)(w:World) :
  CR 9 #[.int .i64 k,.int .i64 F,.int .i64 O,.agg #[.string ⟨X1.toArray⟩,.string ⟨X2.toArray⟩,.string ⟨X3.toArray⟩],.agg #[.string ⟨X4.toArray⟩,.string ⟨X5.toArray⟩,.string ⟨X6.toArray⟩]] w (.agg #[.int .i64 k,.int .i64 F,.int .i64 O,.string ⟨X1.toArray⟩,.string ⟨X2.toArray⟩,.string ⟨X3.toArray⟩,.string ⟨X4.toArray⟩,.string ⟨X5.toArray⟩,.string ⟨X6.toArray⟩,.int .i64 50,.int .i64 100]):=by
 go_enter Tryz.func9,Tryz.ntmps9
 go_wp2
 refine bodyPost_ret (v:=.agg #[.int .i64 k,.int .i64 F,.int .i64 O,.string ⟨X1.toArray⟩,.string ⟨X2.toArray⟩,.string ⟨X3.toArray⟩,.string ⟨X4.toArray⟩,.string ⟨X5.toArray⟩,.string ⟨X6.toArray⟩,.int .i64 50,.int .i64 100]) (zg9 (Blk.new2 w _ _ [.int .i64 k,.int .i64 F,.int .i64 O,.string ⟨X1.toArray⟩,.string ⟨X2.toArray⟩,.string ⟨X3.toArray⟩,.string ⟨X4.toArray⟩,.string ⟨X5.toArray⟩,.string ⟨X6.toArray⟩,.int .i64 50,.int .i64 100] 33) Tryz.f9 10 rfl _ rfl) rfl ⟨rfl,bt⟩
theorem zmx(k F O W D:Int)(X1 X2 X3 X4 X5 X6:Str)(w:World) :
  CR 12 #[.agg #[.int .i64 k,.int .i64 F,.int .i64 O,.string ⟨X1.toArray⟩,.string ⟨X2.toArray⟩,.string ⟨X3.toArray⟩,.string ⟨X4.toArray⟩,.string ⟨X5.toArray⟩,.string ⟨X6.toArray⟩,.int .i64 W,.int .i64 D]] w (.agg #[.int .i64 k,.int .i64 F,.int .i64 O,.string ⟨X4.toArray⟩,.string ⟨X5.toArray⟩,.string ⟨X6.toArray⟩,.string ⟨X1.toArray⟩,.string ⟨X2.toArray⟩,.string ⟨X3.toArray⟩,.int .i64 W,.int .i64 D]):=by
 go_enter Tryz.func12,Tryz.ntmps12
 go_wp2_with fail
 refine bodyPost_ret (v:=.agg #[.int .i64 k,.int .i64 F,.int .i64 O,.string ⟨X4.toArray⟩,.string ⟨X5.toArray⟩,.string ⟨X6.toArray⟩,.string ⟨X1.toArray⟩,.string ⟨X2.toArray⟩,.string ⟨X3.toArray⟩,.int .i64 W,.int .i64 D]) (zg9 (Blk.new1 w _ [.int .i64 k,.int .i64 F,.int .i64 O,.string ⟨X4.toArray⟩,.string ⟨X5.toArray⟩,.string ⟨X6.toArray⟩,.string ⟨X1.toArray⟩,.string ⟨X2.toArray⟩,.string ⟨X3.toArray⟩,.int .i64 W,.int .i64 D] 33) Tryz.f12 2 rfl _ rfl) rfl ⟨rfl,bt⟩
theorem zjf(v1 v2:Value)(h:Int)(hh:h=4∨h=0)(w:World)(HC:CR 31 #[v1,v2] w (.tuple #[.int .i64 0,.int .i64 h])) :
  CR 11 #[v1,v2] w (.bool true):=by
 have HC':=LH HC
 clear HC
 rcases hh with rfl | rfl
 ·go_enter Tryz.func11,Tryz.ntmps11
  go_wp2_with fail
  refine HC'.out.mono ?_
  rintro e w1⟨rfl,hq1⟩
  go_wp2
  go_ret
  exact⟨rfl,hq1⟩
 ·go_enter Tryz.func11,Tryz.ntmps11
  go_wp2_with fail
  refine HC'.out.mono ?_
  rintro e w1⟨rfl,hq1⟩
  go_wp2
  go_ret
  exact⟨rfl,hq1⟩
theorem zja(a b:Int)(ha:a.natAbs≤1000000)(hb:b.natAbs≤1000000)(c:Nat)(t:TypeId)(w:World)(hc:Blk w c [.func (.func 4) #[] #[]] t) :
  CR 6 #[.int .i64 a,.int .i64 b,.pointer (some ⟨c,0,none⟩)] w (.agg #[.string ⟨(zh (a:Rat)).toArray⟩,.string ⟨(zh (b:Rat)).toArray⟩,.string ⟨#[53]⟩]):=by
 have HA:=LH (fun w=>zmn a ha w)
 have HB:=LH (fun w=>zmn b hb w)
 generalize zh (a:Rat)=X at *
 generalize zh (b:Rat)=Y at *
 go_enter Tryz.func6,Tryz.ntmps6
 go_wp2_with fail
 obtain⟨W,hW⟩:∃ W,w.alloc (.cells #[.string ⟨#[]⟩,.string ⟨#[]⟩,.string ⟨#[]⟩] 29)=W:=⟨_,rfl⟩
 have BZ:Blk W w.heap.size [.string ⟨#[]⟩,.string ⟨#[]⟩,.string ⟨#[]⟩] 29:=by rw[← hW];exact Blk.new w _ _
 have BC:Blk W c [.func (.func 4) #[] #[]] t:=by rw[← hW];exact hc.alloc _
 have hqw:Q w W:=by rw[← hW];exact bt
 rw[hW]
 clear hW hc
 have c0:W.drew.cell? ⟨c,0,none⟩=some (.func (.func 4) #[] #[]):=BC.cell 0
 refine zm 7 rfl (by kernel_rfl) rfl ?_
 refine svq 0 rfl (by intro w' hq;have hc0:=za hq c0;go_simp;try with_reducible rfl) ?_
 refine svp 1 ?_
 refine ze (i:=2) (v:=_) rfl rfl (by kernel_rfl) (by kernel_rfl) (fun _ _ _ h=>h) (by rfl) ?_ (fun w' hq=>HA.out w') ?_
 ·(intro w' hq;go_simp;try with_reducible rfl)
 simp only[Act.put,zs1,zs2,zs3]
 refine svq 3 rfl (by intro w' hq;have hc0:=za hq c0;go_simp;try with_reducible rfl) ?_
 refine svp 4 ?_
 refine ze (i:=5) (v:=_) rfl rfl (by kernel_rfl) (by kernel_rfl) (fun _ _ _ h=>h) (by rfl) ?_ (fun w' hq=>HB.out w') ?_
 ·(intro w' hq;go_simp;try with_reducible rfl)
 simp only[Act.put,zs1,zs2,zs3]
 refine svp 6 ?_
 refine zi (by kernel_rfl) (fun w3 hq3=>?_)
 simp only[List.drop_succ_cons,List.drop_zero]
 have hq4:Q W w3:=Q.trans (Below.drew (Q.refl W)) hq3
 have BZ3:=BZ.keep hq4 BZ.lt
 have z0:=BZ3.cell
 have f0:=BZ3.frozen
 have hQ:Q w w3:=Q.trans hqw hq4
 clear hq3 hq4 BC c0 HA HB
 go_wp2
 refine bodyPost_ret (v:=.agg #[.string ⟨X.toArray⟩,.string ⟨Y.toArray⟩,.string ⟨#[53]⟩]) (znW Tryz.results6 (.inl rfl) _ _ w.heap.size _ _ _ rfl (BZ3.set3.cell 0) (BZ3.set3.cell 1) (BZ3.set3.cell 2)) rfl ⟨rfl,bt⟩
theorem zo7(a b:Int)(ha:a.natAbs≤1000000)(hb:b.natAbs≤1000000)(c g:Nat)(t t2:TypeId)(w:World)(hc:Blk w c [.func (.func 4) #[] #[]] t)(hg:Blk w g [.func (.func 6) #[] #[.pointer (some ⟨c,0,none⟩)]] t2) :
  CR 8 #[.int .i64 a,.int .i64 b,.pointer (some ⟨g,0,none⟩)] w (VN 9 0 (-1) 50 100 (iV 0 0 5) (iV a b 5)):=by
 have HA:=LH (fun w hc=>zja 0 0 (by decide) (by decide) c t w hc)
 have HB:=LH (fun w hc=>zja a b ha hb c t w hc)
 have HM:=LH (fun w=>zeR 9 0 (-1) (zh ((0:Int):Rat)) (zh ((0:Int):Rat)) [53] (zh (a:Rat)) (zh (b:Rat)) [53] w)
 have e:VN 9 0 (-1) 50 100 (iV 0 0 5) (iV a b 5)=.agg #[.int .i64 9,.int .i64 0,.int .i64 (-1),.string ⟨(zh ((0:Int):Rat)).toArray⟩,.string ⟨(zh ((0:Int):Rat)).toArray⟩,.string ⟨#[53]⟩,.string ⟨(zh (a:Rat)).toArray⟩,.string ⟨(zh (b:Rat)).toArray⟩,.string ⟨#[53]⟩,.int .i64 50,.int .i64 100]:=by
  have h5:zh (5:Rat)=[53]:=by kernel_rfl
  unfold VN iV
  simp only[h5]
 rw[e]
 clear e ha hb
 generalize zh ((0:Int):Rat)=O at *
 generalize zh (a:Rat)=X at *
 generalize zh (b:Rat)=Y at *
 go_enter Tryz.func8,Tryz.ntmps8
 go_wp2_with fail
 obtain⟨W,hW⟩:∃ W,w.alloc (.cells #[.int .i64 0,.int .i64 0,.int .i64 0,.string ⟨#[]⟩,.string ⟨#[]⟩,.string ⟨#[]⟩,.string ⟨#[]⟩,.string ⟨#[]⟩,.string ⟨#[]⟩,.int .i64 0,.int .i64 0] 33)=W:=⟨_,rfl⟩
 have BZ:Blk W w.heap.size [.int .i64 0,.int .i64 0,.int .i64 0,.string ⟨#[]⟩,.string ⟨#[]⟩,.string ⟨#[]⟩,.string ⟨#[]⟩,.string ⟨#[]⟩,.string ⟨#[]⟩,.int .i64 0,.int .i64 0] 33:=by rw[← hW];exact Blk.new w _ _
 have BC:Blk W.drew c [.func (.func 4) #[] #[]] t:=by rw[← hW];exact(hc.alloc _).drew
 have BG:Blk W.drew g [.func (.func 6) #[] #[.pointer (some ⟨c,0,none⟩)]] t2:=by rw[← hW];exact(hg.alloc _).drew
 have hqw:Q w W:=by rw[← hW];exact bt
 rw[hW]
 clear hW hc hg
 have g0:W.drew.cell? ⟨g,0,none⟩=some (.func (.func 6) #[] #[.pointer (some ⟨c,0,none⟩)]):=BG.cell 0
 refine zm 7 rfl (by kernel_rfl) rfl ?_
 refine svq 0 rfl (by intro w' hq;have hc0:=za hq g0;go_simp;try with_reducible rfl) ?_
 refine ze (i:=1) (v:=_) rfl rfl (by kernel_rfl) (by kernel_rfl) (fun _ _ _ h=>h) (by rfl) ?_ (fun w' hq=>HA.out w' (BC.keep hq BC.lt)) ?_
 ·(intro w' hq;go_simp;try with_reducible rfl)
 simp only[Act.put,zs1,zs2,zs3]
 refine svq 2 rfl (by intro w' hq;have hc0:=za hq g0;go_simp;try with_reducible rfl) ?_
 refine svp 3 ?_
 refine svp 4 ?_
 refine ze (i:=5) (v:=_) rfl rfl (by kernel_rfl) (by kernel_rfl) (fun _ _ _ h=>h) (by rfl) ?_ (fun w' hq=>HB.out w' (BC.keep hq BC.lt)) ?_
 ·(intro w' hq;go_simp;try with_reducible rfl)
 simp only[Act.put,zs1,zs2,zs3]
 refine ze (i:=6) (v:=_) rfl rfl (by kernel_rfl) (by kernel_rfl) (fun _ _ _ h=>h) (by rfl) ?_ (fun w' hq=>HM.out w') ?_
 ·(intro w' hq;go_simp;try with_reducible rfl)
 simp only[Act.put,zs1,zs2,zs3]
 refine zi (by kernel_rfl) (fun w3 hq3=>?_)
 simp only[List.drop_succ_cons,List.drop_zero]
 have hq4:Q W w3:=Q.trans (Below.drew (Q.refl W)) hq3
 have BZ3:=BZ.keep hq4 BZ.lt
 have hQ:Q w w3:=Q.trans hqw hq4
 obtain⟨V,hV⟩:∃ V,w3.setRow w.heap.size ([.int .i64 9,.int .i64 0,.int .i64 (-1),.string ⟨O.toArray⟩,.string ⟨O.toArray⟩,.string ⟨#[53]⟩,.string ⟨X.toArray⟩,.string ⟨Y.toArray⟩,.string ⟨#[53]⟩,.int .i64 50,.int .i64 100]:List Value).toArray=V:=⟨_,rfl⟩
 have BV:Blk V w.heap.size [.int .i64 9,.int .i64 0,.int .i64 (-1),.string ⟨O.toArray⟩,.string ⟨O.toArray⟩,.string ⟨#[53]⟩,.string ⟨X.toArray⟩,.string ⟨Y.toArray⟩,.string ⟨#[53]⟩,.int .i64 50,.int .i64 100] 33:=by rw[← hV];exact setRow_heap _ _ _ _ _ _ BZ3
 have hQV:Q w V:=by rw[← hV];exact below_setRow hQ (Nat.le_refl _) _
 clear hq3 hq4 BC BG g0 HA HB HM BZ
 go_wp2_with (first | (refine zcs rfl 33 (.tmp 5) (.tmp 12) rfl w.heap.size 0 BZ3 [.int .i64 9,.int .i64 0,.int .i64 (-1),.string ⟨O.toArray⟩,.string ⟨O.toArray⟩,.string ⟨#[53]⟩,.string ⟨X.toArray⟩,.string ⟨Y.toArray⟩,.string ⟨#[53]⟩,.int .i64 50,.int .i64 100] [.int .i64 9,.int .i64 0,.int .i64 (-1),.string ⟨O.toArray⟩,.string ⟨O.toArray⟩,.string ⟨#[53]⟩,.string ⟨X.toArray⟩,.string ⟨Y.toArray⟩,.string ⟨#[53]⟩,.int .i64 50,.int .i64 100] rfl rfl (by simp) rfl (by kernel_rfl) (by simp[Value.oneCell']) ?_;rw[hV]) | exact bodyPost_ret (zg9 BV Tryz.f8 5 rfl _ rfl) rfl ⟨rfl,hQV⟩)
end
section
open Go.RowKit Go.Shelf Kp
open Go.Lib (decDigits)
def mV(a b:Int):Vm:=⟨9,0,-1,iV 0 0 5,iV a b 5,50,100⟩
def mW(a b:Int):Vm:=⟨9,0,-1,iV a b 5,iV 0 0 5,50,100⟩
theorem zqA{a b c d:Int}{z:Rat}(h:iV a b z=iV c d z):a=c∧b=d:=by
 unfold iV at h
 injection h with h1 h2
 exact⟨Rat.intCast_inj.1 h1,Rat.intCast_inj.1 h2⟩
theorem zoc(a b:Int):(iV a b 5).sub (iV 0 0 5)=iV a b 0:=by
 unfold iV P3.sub
 congr 1
 ·show (a:Rat) - ((0:Int):Rat)=a
  rw[Rat.intCast_zero];grind
 ·show (b:Rat) - ((0:Int):Rat)=b
  rw[Rat.intCast_zero];grind
 ·show (5:Rat) - 5=0
  grind
theorem zrI{a b:Int}(ha:-512≤a∧a≤512)(hb:-512≤b∧b≤512):B3 12 (iV a b 5) :=
 ⟨zft (by omega) (by decide),zft (by omega) (by decide),(show Bd 12 (5:Rat)from zft (z:=5) (by decide) (by decide))⟩
theorem zhO{a b:Int}(h:a≠0∨b≠0):iV a b 5≠iV 0 0 5:=fun e=>by
 obtain⟨h1,h2⟩:=zqA e
 omega
theorem zua:MOk 9 50 100:=⟨by decide,by decide,by decide,by decide,by decide,by decide⟩
theorem zue:FOk 0 (-1):=⟨by decide,by decide⟩
theorem zsR{a b:Int}(ha:-512≤a∧a≤512)(hb:-512≤b∧b≤512)(h:a≠0∨b≠0):VmOk (mV a b) :=
 ⟨zua,zue,zrI (by omega) (by omega),zrI ha hb,fun e=>zhO h e.symm⟩
theorem zt0{a b:Int}(ha:-512≤a∧a≤512)(hb:-512≤b∧b≤512)(h:a≠0∨b≠0):VmOk (mW a b) :=
 ⟨zua,zue,zrI ha hb,zrI (by omega) (by omega),zhO h⟩
theorem zqj(sm:Bool)(a b c d:Int)(ha:-512≤a∧a≤512)(hb:-512≤b∧b≤512)(hc:-512≤c∧c≤512)(hd:-512≤d∧d≤512)(h1:a≠0∨b≠0)(h2:c≠0∨d≠0)(hs:sm=true ↔ a=c∧b=d)(w:World)(hE:Env w) :
  Calls Tryz.prog 10 #[VN 9 0 (-1) 50 100 (iV 0 0 5) (iV a b 5),VN 9 0 (-1) 50 100 (iV 0 0 5) (iV c d 5)] w (zrd w (sm=true) (iV a b 0) (iV c d 0)):=by
 have h:=zgV false sm (mV a b) (mV c d) (zsR ha hb h1) (zsR hc hd h2) rfl rfl rfl (SpE.yes rfl) (SpE.no (fun e=>zhO h2 e.symm)) (SpE.no (zhO h1))
  (by
   cases sm
   ·refine SpE.no (fun e=>?_)
    exact absurd (hs.2 (zqA e)) (by decide)
   ·obtain⟨rfl,rfl⟩:=hs.1 rfl
    exact SpE.yes rfl) (fun _=>SpE.no (zhO h2)) (fun e=>by cases e) w hE
 have e1:(mV a b).t.sub (mV a b).f=iV a b 0:=zoc a b
 have e2:(mV c d).t.sub (mV c d).f=iV c d 0:=zoc c d
 rw[if_neg (by decide),e1,e2]at h
 exact h
theorem zmo(sm:Bool)(a b c d:Int)(ha:-512≤a∧a≤512)(hb:-512≤b∧b≤512)(hc:-512≤c∧c≤512)(hd:-512≤d∧d≤512)(h1:a≠0∨b≠0)(h2:c≠0∨d≠0)(hs:sm=true ↔ a=c∧b=d)(w:World)(hE:Env w) :
  Calls Tryz.prog 10 #[VN 9 0 (-1) 50 100 (iV a b 5) (iV 0 0 5),VN 9 0 (-1) 50 100 (iV 0 0 5) (iV c d 5)] w (zrd w (sm=true) (iV a b 0) (iV c d 0)):=by
 have h:=zgV true sm (mW a b) (mV c d) (zt0 ha hb h1) (zsR hc hd h2) rfl rfl rfl (SpE.no (zhO h1))
  (by
   cases sm
   ·refine SpE.no (fun e=>?_)
    exact absurd (hs.2 (zqA e)) (by decide)
   ·obtain⟨rfl,rfl⟩:=hs.1 rfl
    exact SpE.yes rfl) (SpE.yes rfl) (SpE.no (fun e=>zhO h2 e.symm)) (fun e=>by cases e) (fun _=>SpE.no (zhO h2)) w hE
 have e1:(mW a b).f.sub (mW a b).t=iV a b 0:=zoc a b
 have e2:(mV c d).t.sub (mV c d).f=iV c d 0:=zoc c d
 rw[if_pos rfl,e1,e2]at h
 exact h
theorem zrd.par{W:World}{sm:Bool}{u v:P3}{e:Ending}{w':World}(h:zrd W (sm=true) u v e w')(hc:coR u v=0):e=.returned (.tuple #[.slice none 0 0,.int .i64 (if sm=true then 9 else 12)])∧Q W w':=by
 obtain⟨h1,h2,-⟩:=h
 cases sm
 ·exact h2 (by decide) hc
 ·exact h1 rfl
def zpC(W:World)(L:List (Rat × Nat))(e:Ending)(w':World):Prop:=∃ v,e=.returned (.tuple #[v,.int .i64 0])∧Q W w'∧zM w' W.heap.size v L
def zhi(u v:P3):List (Rat × Nat):=zlg (zjK u v) (zpa u v) (zpb u v)
theorem zrd.ang{W:World}{a b c d:Int}(ha:-512≤a∧a≤512)(hb:-512≤b∧b≤512)(hcc:-512≤c∧c≤512)(hd:-512≤d∧d≤512){e:Ending}{w':World}(h:zrd W (false=true) (iV a b 0) (iV c d 0) e w')(hc:coR (iV a b 0) (iV c d 0)≠0):zpC W (zhi (iV a b 0) (iV c d 0)) e w':=by
 obtain⟨v,E,rfl,hq,h⟩:=h.2.2 (by decide) hc
 obtain⟨C,hC⟩:=zql a b c d 0 0 ha hb hcc hd hc
 rcases h with⟨h1,-,-⟩|⟨rfl,C',h1,h2⟩
 ·rw[h1]at hC;cases hC
 ·refine⟨v,rfl,hq,?_⟩
  rw[(zil hc h1).1]at h2
  exact h2
theorem zqo{a b c d:Int}(ha:-512≤a∧a≤512)(hb:-512≤b∧b≤512)(hcc:-512≤c∧c≤512)(hd:-512≤d∧d≤512)(hc:coR (iV a b 0) (iV c d 0)≠0)(hc2:coR (iV c d 0) (iV a b 0)≠0):zhi (iV c d 0) (iV a b 0)=zhi (iV a b 0) (iV c d 0):=by
 obtain⟨C,hC⟩:=zql a b c d 0 0 ha hb hcc hd hc
 have h1:=(zil hc hC).1
 rw[← zqm]at hC
 have h2:=(zil hc2 hC).1
 exact h2.symm.trans h1
theorem zqn{a b c d:Int}(ha:-512≤a∧a≤512)(hb:-512≤b∧b≤512)(hcc:-512≤c∧c≤512)(hd:-512≤d∧d≤512)(hc:coR (iV a b 0) (iV c d 0)≠0):FA (zhi (iV a b 0) (iV c d 0))∧∀ c'∈zhi (iV a b 0) (iV c d 0),zbp c'=true:=by
 obtain⟨C,hC⟩:=zql a b c d 0 0 ha hb hcc hd hc
 have h1:=zil hc hC
 rw[h1.1]at h1
 exact h1.2
theorem zpc{a b c d:Int}(hc:coR (iV a b 0) (iV c d 0)≠0)(hf:a*c+b*d=0):zhi (iV a b 0) (iV c d 0)=[((1:Rat),1)]:=zqk hc (by rw[zrH,hf,Rat.intCast_zero])
theorem zrz{a b c d:Int}(hc:coR (iV a b 0) (iV c d 0)≠0):(∀ cs,zd2 (zfP (zhi (iV a b 0) (iV c d 0)) (zhi (iV a b 0) (iV (-c) (-d) 0)))=some cs→cs.length≤2)∧∀ C,zaU (zfP (zhi (iV a b 0) (iV c d 0)) (zhi (iV a b 0) (iV (-c) (-d) 0)))=some C→zf8 C=[((1:Rat),1)]:=by
 obtain⟨-,e2,e3,e4⟩:=zo9 (u:=iV a b 0) (v:=iV c d 0) (b:=iV (-c) (-d) 0) (Rat.intCast_neg c) (Rat.intCast_neg d)
 have e:zhi (iV a b 0) (iV (-c) (-d) 0)=zlg (zjK (iV a b 0) (iV c d 0)) (-zpa (iV a b 0) (iV c d 0)) (zpb (iV a b 0) (iV c d 0)):=by unfold zhi;rw[e2,e3,e4]
 rw[e]
 exact zsQ (zn4 hc) (zgE (npos (zhh hc))) (zsl hc)
def zmK(a b c d:Int):Int:=if a*d=b*c then(if a=c∧b=d then 9 else 12)else 0
def zt7(W:World)(E:Int)(L:List (Rat × Nat))(e:Ending)(w':World):Prop:=∃ v,e=.returned (.tuple #[v,.int .i64 E])∧Q W w'∧(E=0→zM w' W.heap.size v L)
theorem zfY(a b c d:Int):coR (iV a b 0) (iV c d 0)=0 ↔ a*d=b*c:=by
 rw[ztN,← Rat.intCast_zero,Rat.intCast_inj]
 omega
theorem zrd.e{W:World}{sm:Bool}{a b c d:Int}(ha:-512≤a∧a≤512)(hb:-512≤b∧b≤512)(hcc:-512≤c∧c≤512)(hd:-512≤d∧d≤512)(hs:sm=true ↔ a=c∧b=d){e:Ending}{w':World}(h:zrd W (sm=true) (iV a b 0) (iV c d 0) e w'):zt7 W (zmK a b c d) (zhi (iV a b 0) (iV c d 0)) e w':=by
 unfold zmK
 by_cases hp:a*d=b*c
 ·obtain⟨rfl,hq⟩:=h.par ((zfY a b c d).2 hp)
  refine⟨.slice none 0 0,?_,hq,fun e=>?_⟩
  ·rw[if_pos hp]
   simp only[hs]
  ·rw[if_pos hp]at e
   split at e <;> cases e
 ·have hc:coR (iV a b 0) (iV c d 0)≠0:=fun e=>hp ((zfY a b c d).1 e)
  have hn:sm=false:=by
   cases sm
   ·rfl
   ·obtain⟨rfl,rfl⟩:=hs.1 rfl
    exact absurd (Int.mul_comm a b) hp
  subst hn
  obtain⟨v,rfl,hq,h2⟩:=h.ang ha hb hcc hd hc
  rw[if_neg hp]
  exact⟨v,rfl,hq,fun _=>h2⟩
theorem znl(a b c d:Int)(ha:-512≤a∧a≤512)(hb:-512≤b∧b≤512)(hc:-512≤c∧c≤512)(hd:-512≤d∧d≤512)(h1:a≠0∨b≠0)(h2:c≠0∨d≠0)(w:World)(hE:Env w) :
  Calls Tryz.prog 10 #[VN 9 0 (-1) 50 100 (iV 0 0 5) (iV a b 5),VN 9 0 (-1) 50 100 (iV 0 0 5) (iV c d 5)] w (zt7 w (zmK a b c d) (zhi (iV a b 0) (iV c d 0))) :=
 (zqj (decide (a=c∧b=d)) a b c d ha hb hc hd h1 h2 decide_eq_true_iff w hE).mono fun _ _ h=>h.e ha hb hc hd decide_eq_true_iff
theorem zry(a b c d:Int)(ha:-512≤a∧a≤512)(hb:-512≤b∧b≤512)(hc:-512≤c∧c≤512)(hd:-512≤d∧d≤512)(h1:a≠0∨b≠0)(h2:c≠0∨d≠0)(w:World)(hE:Env w) :
  Calls Tryz.prog 10 #[VN 9 0 (-1) 50 100 (iV a b 5) (iV 0 0 5),VN 9 0 (-1) 50 100 (iV 0 0 5) (iV c d 5)] w (zt7 w (zmK c d a b) (zhi (iV c d 0) (iV a b 0))):=by
 refine(zmo (decide (a=c∧b=d)) a b c d ha hb hc hd h1 h2 decide_eq_true_iff w hE).mono fun e w' h=>?_
 obtain⟨v,rfl,hq,h3⟩:=h.e ha hb hc hd decide_eq_true_iff
 have e1:zmK c d a b=zmK a b c d:=by
  unfold zmK
  have k1:c*b=d*a ↔ a*d=b*c:=by constructor <;> intro h <;> grind
  have k2:(c=a∧d=b) ↔ (a=c∧b=d):=by constructor <;> (rintro⟨rfl,rfl⟩;exact⟨rfl,rfl⟩)
  simp only[k1,k2]
 rw[e1]
 refine⟨v,rfl,hq,fun h0=>?_⟩
 have hn:coR (iV a b 0) (iV c d 0)≠0:=fun e=>by
  rw[zfY]at e
  unfold zmK at h0
  rw[if_pos e]at h0
  split at h0 <;> cases h0
 have hn2:coR (iV c d 0) (iV a b 0)≠0:=fun e=>hn (by
  rw[zfY]at e ⊢
  rw[Int.mul_comm a d,Int.mul_comm b c]
  exact e.symm)
 rw[zqo ha hb hc hd hn hn2]
 exact h3 h0
theorem zpp{x y k:Int}(h:x≠0∨y≠0)(hk:1≤k):¬ x*(x*k)=y*(-y*k):=fun e=>by
 have e2:(x*x+y*y)*k=0:=by grind
 rcases Int.mul_eq_zero.1 e2 with e3 | e3
 ·have h1:0≤x*x:=by rw[← Int.natAbs_mul_self];exact Int.natCast_nonneg _
  have h2:0≤y*y:=by rw[← Int.natAbs_mul_self];exact Int.natCast_nonneg _
  have h3:x*x=0:=by omega
  have h4:y*y=0:=by omega
  rcases h with h | h
  ·exact h (by rcases Int.mul_eq_zero.1 h3 with e | e <;> exact e)
  ·exact h (by rcases Int.mul_eq_zero.1 h4 with e | e <;> exact e)
 ·omega
theorem zq5:∀ n:Fin 256,0≤bits .and .i64 ((n.val:Int) - 128) 3∧bits .and .i64 ((n.val:Int) - 128) 3≤3:=by decide +kernel
theorem zM.lit(w:World):zM (w.alloc (.cells #[.string ⟨#[49]⟩,.string ⟨#[49]⟩] 42)) w.heap.size (.slice (some ⟨w.heap.size,0,none⟩) 1 1) [((1:Rat),1)]:=by
 have e:[((1:Rat),1)].map ofC=[([49],[49])]:=by
  rw[List.map_cons,List.map_nil]
  unfold ofC
  rw[zb0,show Lib.itoa ((1:Nat):Int)=[49]from by kernel_rfl]
 unfold zM
 rw[e]
 have er:zcb [([49],[49])]=[.string ⟨#[49]⟩,.string ⟨#[49]⟩]:=rfl
 rw[er]
 exact⟨rfl,.inr ⟨w.heap.size,1,_,rfl,Nat.le_refl _,Blk.new w [.string ⟨#[49]⟩,.string ⟨#[49]⟩] 42,by simp,by unfold maxLen;simp⟩⟩
theorem zhv{L:List (Rat × Nat)}(hF:FA L)(hs:∀ c∈L,zbp c=true)(B1 B2:Nat)(v1 v2:Value)(w:World)(hE:Env w)(h1:zM w B1 v1 L)(h2:zM w B2 v2 L) :
  CR 11 #[v1,v2] w (.bool true):=by
 have sL:=hF.slist hs
 obtain⟨hv,hc⟩:=hF.cmpA
 have hl:=hF.up.2.2
 have h:=zh2 L L sL sL (by omega) hv B1 B2 v1 v2 w hE hE.places h1 h2
 rcases hc with hc | hc
 ·rw[hc]at h
  exact zjf v1 v2 4 (.inl rfl) w h
 ·rw[hc]at h
  exact zjf v1 v2 0 (.inr rfl) w h
theorem zst:FA [((1:Rat),1)]:=.inl ⟨1,1,rfl,by decide,zk8⟩
theorem zlV:∀ c∈[((1:Rat),1)],zbp c=true:=fun c hc=>by
 rw[List.mem_singleton]at hc
 subst hc
 kernel_rfl
end
end Go.Proofs.YtagkadlaeeoblaaGreatDoor
