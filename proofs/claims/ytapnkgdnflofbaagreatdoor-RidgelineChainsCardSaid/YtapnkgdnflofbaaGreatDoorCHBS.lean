/-
  Walks of package integer at numbers of any length: Root.
-/
import Derived.Test.YtapnkgdnflofbaaGreatDoorCH09
import Derived.Test.YtapnkgdnflofbaaGreatDoorCH02
import Derived.Test.YtapnkgdnflofbaaGreatDoorCH04
set_option maxRecDepth 100000
set_option maxHeartbeats 1000000
namespace Go.Proofs.YtapnkgdnflofbaaGreatDoor
open Go.RowKit Kp
open Go.Lib (decDigits)
theorem zrH{n r:Nat}(hr:0<r)(h:n / r≤r):n<(r+1)*(r+1):=by
 have h1:=Nat.lt_mul_div_succ n hr
 have h2:r*(n / r+1)≤r*(r+1):=Nat.mul_le_mul_left _ (by omega)
 have h3:r*(r+1)≤(r+1)*(r+1):=Nat.mul_le_mul_right _ (by omega)
 omega
theorem zg4(n:Nat)(hn0:0<n)(hn:(Lib.itoa n).length≤18)(w:World)(hE:Env w) :
  CR 312 #[.string ⟨(Lib.itoa n).toArray⟩] w (.tuple #[.string ⟨(Lib.itoa (zw n:Int)).toArray⟩,.int .i64 0]):=by
 have hb:=zaC hn
 rw[Int.natAbs_natCast]at hb
 go_enter Tryz.func312,Tryz.ntmps312
 go_wp2_with fail
 refine cx (zgk (n:Int) hn _) fun w1 hq1=>?_
 go_wp2
 go_loopw [6] (fun x wr=>∃ r:Nat,0<r∧r≤2000000000∧x=.int .i64 r∧Q w wr) (fun x _=>2000000000 - (intOf x).toNat)
 case atStart=>exact⟨1,by decide,by decide,rfl,hq1⟩
 case round =>
  obtain⟨r,hr0,hr1,rfl,hQ⟩:=hrel
  have hq:n / r≤n:=Nat.div_le_self _ _
  have hq1:(n:Int) / r=((n / r:Nat):Int):=by simp
  have hq2:0≤(n:Int) / r:=Int.ediv_nonneg (by omega) (by omega)
  have hq3:(n:Int) / r≤1000000000000000000:=Int.le_trans (Int.ediv_le_self _ (by omega)) (by omega)
  have hr2:((r:Int) == 0)=false:=by simp;omega
  have hqw:wrap64 ((n:Int) / r)=(n:Int) / r:=(by unfold wrap64;omega)
  by_cases hd:r<n / r
  ·have hd':(r:Int)<(n:Int) / r:=by rw[hq1];omega
   have hr3:r<1000000000:=by
    have h1:r*(r+1)≤n:=by
     have:=(Nat.le_div_iff_mul_le hr0).1 (show r+1≤n / r by omega)
     rw[Nat.mul_comm];exact this
    by_cases h:r<1000000000
    ·exact h
    ·have h2:1000000000*1000000001≤r*(r+1):=Nat.mul_le_mul (by omega) (by omega)
     omega
   have hdw:(r:Int)<wrap64 ((n:Int) / r):=by rw[hqw];exact hd'
   clear hd hq1
   go_wp2
   go_roundw
   case rel=>exact⟨r*2,by omega,by omega,by go_num,hQ⟩
   case measure=>simp only[intOf];omega
  ·have hd':(n:Int) / r≤(r:Int):=by rw[hq1];omega
   have HG:=LH (zrH hr0 (show n / r≤r by omega))
   have hdw:wrap64 ((n:Int) / r)≤(r:Int):=by rw[hqw];exact hd'
   clear hd hq1 hq2 hq3 hq
   go_wp2
   go_loopw [6] (fun x wr=>∃ r:Nat,0<r∧r≤2000000000∧x=.int .i64 r∧Hid (n<(r+1)*(r+1))∧Q w wr) (fun x _=>(intOf x).toNat)
   case atStart=>exact⟨r,hr0,hr1,rfl,HG,hQ⟩
   case round =>
    clear HG hr2 hd' hr0 hr1 hQ
    obtain⟨r,hr0,hr1,rfl,HL,hQ⟩:=hrel
    have hq:n / r≤n:=Nat.div_le_self _ _
    have hq1:(n:Int) / r=((n / r:Nat):Int):=by simp
    have hq2:0≤(n:Int) / r:=Int.ediv_nonneg (by omega) (by omega)
    have hq3:(n:Int) / r≤1000000000000000000:=Int.le_trans (Int.ediv_le_self _ (by omega)) (by omega)
    have hr2:((r:Int) == 0)=false:=by simp;omega
    have hqw:wrap64 ((n:Int) / r)=(n:Int) / r:=(by unfold wrap64;omega)
    have HQ:=LH hq1
    clear hq1
    by_cases hd:r≤(r+n / r) / 2
    ·have HR:=LH (ze4 (zfG hr0 HL.out hd))
     have hd':(r:Int)≤((r:Int)+(n:Int) / r) / 2:=by rw[HQ.out];omega
     clear hd
     go_wp2_with fail
     refine cx (zaq (r:Int) (by omega) (by omega) _ (hE.q hQ)) fun w3 hq5=>?_
     have hQ5:=Q.trans hQ hq5
     go_wp2
     go_ret2
     exact⟨by rw[HR.out];rfl,hQ5⟩
    ·have hd':((r:Int)+(n:Int) / r) / 2<r:=by rw[HQ.out];omega
     have HN:=LH (ziB (n:=n) hr0)
     have hpos:0<(r+n / r) / 2:=by
      rcases Nat.eq_zero_or_pos ((r+n / r) / 2)with h0 | h0
      ·have:=HN.out;rw[h0]at this;omega
      ·exact h0
     go_wp2
     go_roundw
     case rel=>exact⟨(r+n / r) / 2,hpos,by omega,by rw[HQ.out];go_num,HN,hQ⟩
     case measure=>simp only[intOf];rw[HQ.out];omega
theorem znu(k:Nat):zay (49::zbs k)∧nval (49::zbs k)=10 ^ k:=by
 refine⟨fun c hc=>?_,by rw[zeI,ziw,zbW];simp⟩
 rcases List.mem_cons.1 hc with rfl | hc
 ·decide
 ·exact zjA k c hc
theorem zlW:limbs LB 2=[2]:=by rw[zbz (by decide) (by decide)];rw[zaL (by decide)];rfl
theorem zkQ(x y:Int)(hx:0≤x)(hy:0≤y)(k:Nat)(h1:(limbs LB x).length≤k)(h2:(limbs LB y).length≤k):(limbs LB (x+y)).length≤k+1:=by
 have a:=zbA (by decide) x hx k h1
 have b:=zbA (by decide) y hy k h2
 obtain⟨c,d⟩:=zkw k
 refine zbZ (by decide) _ _ ?_
 rw[c]
 generalize LB ^ k=P at *
 have:P*2≤P*LB:=Int.mul_le_mul_of_nonneg_left (by decide) (by omega)
 omega
theorem znZ(n:Nat):(((at0 (Lib.itoa (n:Int)) 0).toNat:Int) == 45)=false:=by
 rw[beq_eq_false_iff_ne]
 intro e
 have hm:=zF n
 rw[itoa_nonneg (by omega),Int.toNat_natCast]at e
 cases hd:decDigits n with
 | nil=>rw[hd]at e;simp[at0]at e
 | cons c r =>
  rw[hd]at e hm
  simp[at0]at e hm
  exact hm (UInt8.toNat_inj.1 (by simpa using(by omega:c.toNat=45)))
theorem zl2{n:Nat}(hn0:0<n):0<(Lib.itoa (n:Int)).length:=by
 rw[itoa_nonneg (by omega),Int.toNat_natCast]
 refine List.length_pos_iff.2 (fun h=>?_)
 have:=z8 n
 rw[h,show nval []=0 from rfl]at this
 omega
theorem zsH(n:Nat):n<10 ^ ((Lib.itoa (n:Int)).length):=by
 rw[itoa_nonneg (by omega),Int.toNat_natCast]
 have h:=ziy (decDigits n) (zY n)
 rw[z8]at h
 exact h
theorem zpy{n L:Nat}(h:n<10 ^ L):n<(10 ^ ((L+1) / 2)+1)*(10 ^ ((L+1) / 2)+1):=by
 have h1:10 ^ L≤10 ^ ((L+1) / 2+(L+1) / 2):=Nat.pow_le_pow_right (by decide) (by omega)
 rw[Nat.pow_add]at h1
 have h2:10 ^ ((L+1) / 2)*10 ^ ((L+1) / 2)≤(10 ^ ((L+1) / 2)+1)*(10 ^ ((L+1) / 2)+1):=Nat.mul_le_mul (by omega) (by omega)
 omega
theorem zg8(n:Nat)(hx:lim (n:Int)=false)(hl:18<(Lib.itoa (n:Int)).length)(w:World)(hE:Env w) :
  CR 281 #[.string ⟨(Lib.itoa (n:Int)).toArray⟩] w (.tuple #[.string ⟨(Lib.itoa (zw n:Int)).toArray⟩,.int .i64 0]):=by
 have hlen:=zU (n:Int) hx
 have hn0:0<n:=by
  rcases Nat.eq_zero_or_pos n with rfl | h
  ·exact absurd hl (by rw[show ((0:Nat):Int)=0 from rfl,zae];decide)
  ·exact h
 have hne:(Lib.itoa (n:Int) == [48])=false:=by
  rw[beq_eq_false_iff_ne,← zae];exact fun e=>absurd (zak e) (by omega)
 have hl1:(18:Int)<((Lib.itoa (n:Int)).length:Int):=by omega
 have HC:=LH (fun w=>zcb (Lib.itoa (n:Int)) (by omega) w)
 rw[zcc,hx]at HC
 have HX:=LH (fun w=>za5 (n:Int) hx w)
 rw[Int.natAbs_natCast,show decide ((n:Int)<0)=false by simp]at HX
 have hrs:rsV (zw n:Int)=.tuple #[.string ⟨(Lib.itoa (zw n:Int)).toArray⟩,.int .i64 0]:=by
  unfold rsV
  rw[show lim (zw n:Int)=false by rw[za1]at hx ⊢;have:=zgm n;omega];rfl
 have HRS:=LH hrs
 have hh:=znZ n
 have HST:=LH (zpy (zsH n))
 generalize hL:(Lib.itoa (n:Int)).length=L at *
 have HREP:=LH (fun w=>zfI ((L+1) / 2) (by omega) w)
 have HADD:=zr1 Tryz.prog [49] (zbs ((L+1) / 2)) (by rw[zbW];simp;omega)
 have HRD:=LH (fun w=>zhs (49::zbs ((L+1) / 2)) (49::zbs ((L+1) / 2)) rfl (znu _).1 (by simp[zbW];omega) w)
 rw[(znu ((L+1) / 2)).2]at HRD
 clear hrs
 go_enter Tryz.func281,Tryz.ntmps281
 go_wp2_with fail
 refine cx (HC.out _) fun w1 hq1=>?_
 go_wp2_with fail
 refine(HX.out _).mono ?_
 rintro e w2⟨v1,rfl,hv1,hq2⟩
 have N1:=LH hv1
 obtain⟨a1,c1,rfl,-,-⟩:=hv1.2.2
 generalize (limbs LB (n:Int)).length=n1 at *
 clear hv1
 have hf1:=zeU false a1 n1 c1
 have hQ2:=Q.trans hq1 hq2
 go_wp2_with fail
 refine cx (HREP.out _) fun w3 hq3=>?_
 go_wp2_with fail
 rw[show decide ((49::zbs ((L+1) / 2)).head? = some 45)=false by simp]at HRD
 refine(HRD.out _).mono ?_
 rintro e w4⟨v2,rfl,hv2,hq4⟩
 have hpw:limbs LB ((10 ^ ((L+1) / 2):Nat):Int)=limbs LB ((10 ^ ((L+1) / 2):Nat):Int):=rfl
 have N2:Hid (zdC w4 ((10 ^ ((L+1) / 2):Nat):Int) v2):=LH ⟨Int.natCast_nonneg _,Nat.le_trans (zp9 (k:=34) (by
  have h1:10 ^ ((L+1) / 2)≤10 ^ 151:=Nat.pow_le_pow_right (by decide) (by omega)
  have h2:(10 ^ 151:Nat)<1000000000 ^ 34:=by decide
  have h3:LB ^ 34=((1000000000 ^ 34:Nat):Int):=by decide
  rw[h3]
  exact Int.ofNat_lt.2 (Nat.lt_of_le_of_lt h1 h2))) (by decide),hv2⟩
 have hp0:0<10 ^ ((L+1) / 2):=Nat.pow_pos (by decide)
 obtain⟨a2,c2,rfl,-,-⟩:=hv2
 generalize (limbs LB ((10 ^ ((L+1) / 2):Nat):Int)).length=n2 at *
 generalize 10 ^ ((L+1) / 2)=r0 at *
 have hf2:=zeU false a2 n2 c2
 have N1':=LH (N1.out.keep (Q.trans hq3 hq4))
 have hQ4:=Q.trans hQ2 (Q.trans hq3 hq4)
 clear HC HX HREP HRD N1 hpw
 go_wp2_with fail
 go_loopw [6] (fun u wr=>∃ (r k c:Nat) (a:Option Addr),u=.slice a k c∧0<r∧Hid (zdC wr n (.slice a1 n1 c1))∧Hid (zdC wr r (.slice a k c))∧Hid (n<(r+1)*(r+1))∧Q w wr) (fun u wr=>zpE wr u)
 case atStart=>exact⟨r0,n2,c2,a2,rfl,hp0,N1',N2,HST,hQ4⟩
 case round =>
  clear N1' N2 HST hQ4 hq4 hq3 hq2 hq1 hf1 hf2 hQ2 hp0
  obtain⟨r,k,c,a,rfl,hr0,M1,M2,HG,hQ⟩:=hrel
  have HD:=LH (zcu (n:Int) (r:Int) (by omega) (by omega) (by have:=M1.out.2.1;omega) (by have:=M2.out.2.1;omega) _ _ wr M1.out.2.2 M2.out.2.2)
  have hsv:=zfU M2.out
  go_wp2_with fail
  refine HD.out.mono ?_
  rintro e w5⟨qv,rv,rfl,hqi,hri,hq5⟩
  have hQ5:=Q.trans hQ hq5
  obtain⟨aq,cq,rfl,-,-⟩:=id hqi
  have HQI:=LH hqi
  generalize hnq:(limbs LB ((n:Int) / (r:Int))).length=nq at *
  clear hqi hri hnq HD
  have hnr:(n:Int) / (r:Int)=((n / r:Nat):Int):=by simp
  have HC1:=zeX (limbs LB (r:Int)) (limbs LB ((n:Int) / (r:Int))) (zQ (by decide) _) (zQ (by decide) _) (by have:=M2.out.2.1;omega) (by
   have h1:=zau (x:=(n:Int) / (r:Int)) (y:=(n:Int)) (by omega) (by rw[hnr];exact_mod_cast Nat.div_le_self n r)
   have:=M1.out.2.1
   omega) _ _ w5 (M2.out.2.2.keep hq5) HQI.out
  rw[zG (by decide) _ (by omega),zG (by decide) _ (by rw[hnr];exact Int.natCast_nonneg _),hnr]at HC1
  have HC1:=LH HC1
  have M1':=LH (M1.out.keep hq5)
  have M2':=LH (M2.out.keep hq5)
  clear hnr M1 M2
  go_wp2_with fail
  refine HC1.out.mono ?_
  rintro e w6⟨sv,rfl,hsi,hq6⟩
  have hQ6:=Q.trans hQ5 hq6
  have HSI:=LH hsi
  clear HC1 hsi
  have hqa:Q w6 (w6.alloc (.cells #[.int .i64 2] 3)):=(Below.refl _ w6).alloc (Nat.le_refl _) _
  have i2:=zgq w6 2
  rw[← zlW]at i2
  have hle:(limbs LB (((r+n / r:Nat):Int))).length≤100000:=by
   have h1:=zau (x:=((r+n / r:Nat):Int)) (y:=(r:Int)+n) (by omega) (by have:=Nat.div_le_self n r;omega)
   have h2:=zkQ (r:Int) (n:Int) (by omega) (by omega) 50000 M2'.out.2.1 M1'.out.2.1
   omega
  have HD:=LH (zcu ((r+n / r:Nat):Int) 2 (Int.natCast_nonneg _) (by decide) hle (by rw[zlW];decide) _ _ _ (HSI.out.keep hqa) i2)
  clear hle i2
  go_wp2_with fail
  refine HD.out.mono ?_
  rintro e w7⟨tv,uv,rfl,hti,hui,hq7⟩
  rw[show ((r+n / r:Nat):Int) / 2=(((r+n / r) / 2:Nat):Int) by omega]at hti
  have hq57:=Q.trans hq6 (Q.trans hqa hq7)
  have hQ7:=Q.trans hQ5 hq57
  have M1:=LH (M1'.out.keep hq57)
  have M2:=LH (M2'.out.keep hq57)
  have hls:(limbs LB (((r+n / r) / 2:Nat):Int)).length≤50000:=by
   rcases Nat.le_total r n with h | h
   ·have h1:=zau (x:=(((r+n / r) / 2:Nat):Int)) (y:=(n:Int)) (by omega) (by have:=Nat.div_le_self n r;omega)
    have:=M1'.out.2.1
    omega
   ·have h1:=zau (x:=(((r+n / r) / 2:Nat):Int)) (y:=(r:Int)) (by omega) (by have:=Nat.div_le_self n r;omega)
    have:=M2'.out.2.1
    omega
  have M3:=LH (show zdC w7 (((r+n / r) / 2:Nat):Int) tv from⟨Int.natCast_nonneg _,hls,hti⟩)
  obtain⟨at',ct,rfl,-,-⟩:=hti
  generalize (limbs LB (((r+n / r) / 2:Nat):Int)).length=nt at *
  clear hui HD M1' M2' HSI hqa
  have HN:=LH (ziB (n:=n) hr0)
  have HDN:=LH (fun h=>ze4 (zfG hr0 HG.out h))
  generalize (r+n / r) / 2=s at *
  have HCm:=LH (zbB (s:Int) (r:Int) (by omega) (by omega) (by have:=M3.out.2.1;omega) (by have:=M2.out.2.1;omega) _ _ w7 M3.out.2.2 M2.out.2.2)
  go_wp2_with fail
  refine HCm.out.mono ?_
  rintro e w8⟨z,rfl,hz,hq8⟩
  have hQ8:=Q.trans hQ7 hq8
  have M1':=LH (M1.out.keep hq8)
  have M2':=LH (M2.out.keep hq8)
  have M3':=LH (M3.out.keep hq8)
  have hz1:=hz.1
  clear hz HCm M1 M2 M3
  by_cases hd:r≤s
  ·have hz0:0≤z:=by omega
   have HR:=LH (zao false r _ w8 (hE.q hQ8) M2'.out)
   rw[show sgn false (r:Int)=((zw n:Nat):Int) by rw[HDN.out hd];rfl,HRS.out]at HR
   clear hd hz1
   go_wp2_with fail
   refine HR.out.mono ?_
   rintro e w9⟨rfl,hq9⟩
   have hQ9:=Q.trans hQ8 hq9
   clear HR
   go_wp2
   go_ret2
   exact⟨rfl,hQ9⟩
  ·have hz0:z<0:=by omega
   have hpos:0<s:=by
    rcases Nat.eq_zero_or_pos s with h0 | h0
    ·have:=HN.out;rw[h0]at this;omega
    ·exact h0
   have hsv3:=zfU M3'.out
   have hlt:s<r:=by omega
   clear hd hz1
   go_wp2
   go_roundw
   case rel=>exact⟨s,_,_,_,rfl,hpos,M1',M3',HN,hQ8⟩
   case measure=>rw[hsv,hsv3];exact hlt
theorem zgo(n:Nat)(hl:(Lib.itoa (n:Int)).length≤18)(w:World)(hE:Env w) :
  CR 281 #[.string ⟨(Lib.itoa (n:Int)).toArray⟩] w (.tuple #[.string ⟨(Lib.itoa (zw n:Int)).toArray⟩,.int .i64 0]):=by
 have hx:lim (n:Int)=false:=by
  have:=zaC hl
  exact zdP (Nat.lt_trans this (by decide))
 have HC:=LH (fun w=>zcb (Lib.itoa (n:Int)) (by omega) w)
 rw[zcc,hx]at HC
 rcases Nat.eq_zero_or_pos n with rfl | hn0
 ·rw[show ((0:Nat):Int)=0 from rfl,zae]at HC ⊢
  rw[show zw 0=0 from ziP (by decide),show ((0:Nat):Int)=0 from rfl,zae]
  go_enter Tryz.func281,Tryz.ntmps281
  go_wp2_with fail
  refine cx (HC.out _) fun w1 hq1=>?_
  go_wp2
  go_ret2
  exact⟨rfl,hq1⟩
 ·have hne:(Lib.itoa (n:Int) == [48])=false:=by
   rw[beq_eq_false_iff_ne,← zae];exact fun e=>absurd (zak e) (by omega)
  have hpos:0<(Lib.itoa (n:Int)).length:=zl2 hn0
  have hl1:((Lib.itoa (n:Int)).length:Int)≤18:=by omega
  have HX:=LH (fun w=>za5 (n:Int) hx w)
  rw[Int.natAbs_natCast,show decide ((n:Int)<0)=false by simp]at HX
  have hh:=znZ n
  have HSM:=LH (fun w hw=>zg4 n hn0 hl w hw)
  generalize hL:(Lib.itoa (n:Int)).length=L at *
  go_enter Tryz.func281,Tryz.ntmps281
  go_wp2_with fail
  refine cx (HC.out _) fun w1 hq1=>?_
  go_wp2_with fail
  refine(HX.out _).mono ?_
  rintro e w2⟨v1,rfl,hv1,hq2⟩
  obtain⟨a1,c1,rfl,-,-⟩:=hv1.2.2
  generalize (limbs LB (n:Int)).length=n1 at *
  clear hv1
  have hf1:=zeU false a1 n1 c1
  have hQ2:=Q.trans hq1 hq2
  go_wp2_with fail
  refine cx (HSM.out _ (hE.q hQ2)) fun w3 hq3=>?_
  have hQ3:=Q.trans hQ2 hq3
  go_wp2
  go_ret2
  exact⟨rfl,hQ3⟩
theorem zl9(n:Nat)(hx:lim (n:Int)=false)(w:World)(hE:Env w) :
  CR 281 #[.string ⟨(Lib.itoa (n:Int)).toArray⟩] w (.tuple #[.string ⟨(Lib.itoa (zw n:Int)).toArray⟩,.int .i64 0]):=by
 by_cases hl:18<(Lib.itoa (n:Int)).length
 ·exact zg8 n hx hl w hE
 ·exact zgo n (by omega) w hE
end Go.Proofs.YtapnkgdnflofbaaGreatDoor
