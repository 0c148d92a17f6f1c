/-
  RE RF RG RH RJ RK RI RL LSlopes, one behind the other.
-/
import Derived.Test.YtbpghkdadajomaaGreatDoorSU1
import Derived.Test.YtbpghkdadajomaaGreatDoorG05
import Derived.Shelf.Spec.SlicesGrow
set_option maxRecDepth 100000
set_option maxHeartbeats 8000000
namespace Go.Proofs.YtbpghkdadajomaaGreatDoor
section
open Go.RowKit Kp
open Go.Lib (decDigits)
theorem zdd:lim 0=false:=zbc (n:=1) (by decide) (by decide)
theorem zqa(n:Nat):Lib.itoa ((10 ^ n:Nat):Int)=49::zbk n:=by
 obtain⟨h1,h2⟩:=zks n
 rw[← zR,← h2]
 exact zbz _ (by simp) h1 (fun e=>by simp at e)
theorem zhM(x:Rat)(l P:Nat):x.num*x.num*(l:Int)*((10 ^ (2*P):Nat):Int)=((zH x l P:Nat):Int):=by
 unfold zH
 rw[Int.natCast_mul,Int.natCast_mul,Int.natAbs_mul_self (a:=x.num)]
theorem zkf{x:Rat}{l P:Nat}(bx:Bd 60 x)(hl:l<10 ^ 40)(hP:P≤64) :
  lim (x.num*x.num)=false∧lim (x.num*x.num*(l:Int))=false∧lim ((10 ^ (2*P):Nat):Int)=false∧lim ((zH x l P:Nat):Int)=false∧zH x l P<10 ^ 145*10 ^ 145:=by
 have h1:(x.num*x.num).natAbs<10 ^ 120:=zbq bx.1 bx.1
 have h2:(x.num*x.num*(l:Int)).natAbs<10 ^ 160:=zbq (m:=120) (n:=40) h1 (by rw[Int.natAbs_natCast];exact hl)
 have h3:(((10 ^ (2*P):Nat):Int)).natAbs<10 ^ 129:=by
  rw[Int.natAbs_natCast]
  exact Nat.lt_of_le_of_lt (Nat.pow_le_pow_right (by decide) (show 2*P≤128 by omega)) (by decide)
 have h4:lim ((zH x l P:Nat):Int)=false:=by
  rw[← zhM]
  exact zbc (zbq h2 h3) (by decide)
 have h5:zH x l P<10 ^ 145*10 ^ 145:=by
  have h6:zH x l P=(x.num*x.num*(l:Int)).natAbs*(((10 ^ (2*P):Nat):Int)).natAbs:=by rw[← Int.natAbs_mul,zhM,Int.natAbs_natCast]
  rw[h6]
  exact Nat.lt_of_lt_of_le (Nat.mul_lt_mul'' h2 h3) (by decide)
 exact⟨zbc h1 (by decide),zbc h2 (by decide),zbc h3 (by decide),h4,h5⟩
theorem zqQ(a b:Nat):((a:Int)).fdiv (b:Int)=((a / b:Nat):Int):=by
 rw[Int.fdiv_eq_ediv_of_nonneg _ (Int.natCast_nonneg b)];rfl
theorem zqN(a b:Nat):((a:Int)).fmod (b:Int)=((a % b:Nat):Int):=by
 rw[Int.fmod_eq_emod_of_nonneg _ (Int.natCast_nonneg b)];rfl
theorem znP(x:Rat)(l P:Nat)(bx:Bd 60 x)(hl:l<10 ^ 40)(hP:P≤64)(w:World)(hE:Env w) :
  Calls Tryz.prog 106 #[.agg #[.string ⟨(ze x).toArray⟩,.string ⟨(Lib.itoa (l:Int)).toArray⟩],.int .i64 P] w fun e w'=>e=.returned (.string ⟨(Lib.itoa (zc0 x l P)).toArray⟩)∧Q w w':=by
 have hxl:zav x=false:=bx.zav (by decide)
 obtain⟨k1,k2,k3,k4,k5⟩:=zkf bx hl hP
 have kn:=(zA hxl).1
 have kd:=(zA hxl).2
 have kl:lim (l:Int)=false:=zbc (n:=40) (by rw[Int.natAbs_natCast];exact hl) (by decide)
 have kr:=zi8 k4
 have hd:=x.den_pos
 have HPA:=LH (fun w hw=>zbw x hxl w hw)
 have m1:=fun w hw=>za1 x.num x.num kn kn w hw
 have m2:=fun w hw=>za1 (x.num*x.num) (l:Int) k1 kl w hw
 have m3:=fun w hw=>za1 (x.num*x.num*(l:Int)) ((10 ^ (2*P):Nat):Int) k2 k3 w hw
 rw[zbV k1]at m1
 rw[zbV k2]at m2
 rw[zhM,zbV k4,zqa]at m3
 have HM1:=LH m1
 have HM2:=LH m2
 have HM3:=LH m3
 have HREP:=LH (fun w=>zes (2*P) (by omega) w)
 have HADD:=znF Tryz.prog [49] (zbk (2*P)) (by rw[zbO];simp;omega)
 have HRT:=LH (fun w hw=>zh1 (zH x l P) k4 w hw)
 have dv:=fun w hw=>zcN ((zn (zH x l P):Nat):Int) (x.den:Int) kr kd (by omega) w hw
 rw[zqQ,zqN]at dv
 have HDV:=LH dv
 have hnne:0<(Lib.itoa x.num).length:=by
  rcases Nat.eq_zero_or_pos (Lib.itoa x.num).length with h0 | h0
  ·exact absurd (List.length_eq_zero_iff.1 h0) (zrI _)
  ·exact h0
 have hat:at0 (Lib.itoa x.num) 0=45 ↔ x.num<0:=by
  have h1:=zdf (s:=Lib.itoa x.num) (by intro e;rw[e]at hnne;simp at hnne)
  have h2:=zcX x.num []
  rw[List.append_nil,h1]at h2
  rw[← h2]
  constructor
  ·intro e;rw[e]
  ·intro e;exact Option.some.inj e
 clear m1 m2 m3 dv bx hl
 by_cases hneg:x.num<0
 ·have sq0:lim ((zn (zH x l P):Int)*(zn (zH x l P):Int))=false:=zc7 k4 (by rw[← Int.natCast_mul];have:=zf5 (zH x l P);omega)
  have m4:=fun w hw=>za1 ((zn (zH x l P):Nat):Int) ((zn (zH x l P):Nat):Int) kr kr w hw
  rw[zbV sq0,← Int.natCast_mul]at m4
  have HM4:=LH m4
  have hq:lim ((zn (zH x l P) / x.den:Nat):Int)=false:=zc7 kr (by rw[Int.natAbs_natCast,Int.natAbs_natCast];exact Nat.div_le_self _ _)
  have hU:zcZ x l P=if (Lib.itoa ((zn (zH x l P)*zn (zH x l P):Nat):Int) == Lib.itoa ((zH x l P:Nat):Int))=true∧(Lib.itoa ((zn (zH x l P) % x.den:Nat):Int) == [48])=true then zn (zH x l P) / x.den else zn (zH x l P) / x.den+1:=by
   unfold zcZ
   have e1:(Lib.itoa ((zn (zH x l P)*zn (zH x l P):Nat):Int) == Lib.itoa ((zH x l P:Nat):Int))=true ↔ zn (zH x l P)*zn (zH x l P)=zH x l P:=by
    rw[beq_iff_eq]
    exact⟨fun e=>by have:=zan e;omega,fun e=>by rw[e]⟩
   have e2:(Lib.itoa ((zn (zH x l P) % x.den:Nat):Int) == [48])=true ↔ zn (zH x l P) % x.den=0:=by
    rw[beq_iff_eq,← zO]
    exact⟨fun e=>by have:=zan e;omega,fun e=>by rw[e];rfl⟩
   simp only[e1,e2]
  have hq1:lim (((zn (zH x l P) / x.den:Nat):Int)+1)=false:=by
   refine zbc (n:=146) ?_ (by decide)
   have h1:=Nat.div_le_self (zn (zH x l P)) x.den
   have h2:=ziu k5
   have h3:(10:Nat) ^ 145+1≤10 ^ 146:=by decide
   generalize zn (zH x l P) / x.den=q at h1 ⊢
   omega
  have ad:=fun w hw=>zbL ((zn (zH x l P) / x.den:Nat):Int) 1 hq zer w hw
  rw[zbV hq1,zaa]at ad
  have HAD:=LH ad
  have sb0:=fun w hw=>zf8 0 ((zn (zH x l P) / x.den:Nat):Int) zdd hq w hw
  rw[zbV (by rw[Int.zero_sub];exact zhy hq),zO,Int.zero_sub]at sb0
  have HSB0:=LH sb0
  have sb1:=fun w hw=>zf8 0 (((zn (zH x l P) / x.den:Nat):Int)+1) zdd hq1 w hw
  rw[zbV (by rw[Int.zero_sub];exact zhy hq1),zO,Int.zero_sub]at sb1
  have HSB1:=LH sb1
  have ht:zc0 x l P = -((zcZ x l P:Nat):Int):=zhL hneg l P
  rw[ht]
  have hat':(((at0 (Lib.itoa x.num) 0).toNat:Int) == 45)=true:=by rw[hat.2 hneg];rfl
  have hat'':=zbT hat'
  clear ad sb0 sb1 ht hat hneg kr kn kd k1 k2 k3 k4 k5 kl sq0 hq hq1 m4 hxl
  generalize zcZ x l P=u at *
  generalize zn (zH x l P) / x.den=q at *
  generalize Lib.itoa ((zn (zH x l P) % x.den:Nat):Int)=RS at *
  generalize Lib.itoa ((zn (zH x l P)*zn (zH x l P):Nat):Int)=RR at *
  generalize Lib.itoa ((zn (zH x l P):Nat):Int)=R at *
  generalize Lib.itoa ((zH x l P:Nat):Int)=S at *
  generalize Lib.itoa (x.num*x.num*(l:Int))=S2 at *
  generalize Lib.itoa (x.num*x.num)=S1 at *
  generalize Lib.itoa x.num=N at *
  generalize Lib.itoa (x.den:Int)=D at *
  generalize Lib.itoa (l:Int)=L at *
  generalize ze x=X at *
  generalize hq0:Lib.itoa (q:Int)=QS at *
  generalize hq1:Lib.itoa ((q:Int)+1)=QS1 at *
  clear hd
  go_enter Tryz.func106,Tryz.ntmps106
  have T:=Blk.new w [.string ⟨X.toArray⟩,.string ⟨L.toArray⟩] 84
  have hQ0:Q w (w.alloc (.cells [.string ⟨X.toArray⟩,.string ⟨L.toArray⟩].toArray 84)):=(Below.refl _ w).alloc (Nat.le_refl _) _
  go_wp2_with fail
  refine(HPA.out _ (hE.q hQ0)).mono ?_
  rintro e w1⟨rfl,hq1⟩
  have hQ1:=Q.trans hQ0 hq1
  have T1:=T.keep hq1 T.lt
  clear T hq1
  go_wp2_with fail
  refine(HM1.out _ (hE.q hQ1)).mono ?_
  rintro e w2⟨rfl,hq2⟩
  have hQ2:=Q.trans hQ1 hq2
  have T2:=T1.keep hq2 T1.lt
  have c1:=T2.cell 1
  simp only[zs4,zs5]at c1
  clear T1 hq2
  go_wp2_with fail
  clear c1 T2
  refine(HM2.out _ (hE.q hQ2)).mono ?_
  rintro e w3⟨rfl,hq3⟩
  have hQ3:=Q.trans hQ2 hq3
  go_wp2_with fail
  refine(HREP.out _).mono ?_
  rintro e w4⟨rfl,hq4⟩
  have hQ4:=Q.trans hQ3 hq4
  go_wp2_with fail
  refine(HM3.out _ (hE.q hQ4)).mono ?_
  rintro e w5⟨rfl,hq5⟩
  have hQ5:=Q.trans hQ4 hq5
  go_wp2_with fail
  refine(HRT.out _ (hE.q hQ5)).mono ?_
  rintro e w6⟨rfl,hq6⟩
  have hQ6:=Q.trans hQ5 hq6
  go_wp2_with fail
  refine(HDV.out _ (hE.q hQ6)).mono ?_
  rintro e w7⟨rfl,hq7⟩
  have hQ7:=Q.trans hQ6 hq7
  go_wp2_with fail
  refine(HM4.out _ (hE.q hQ7)).mono ?_
  rintro e w8⟨rfl,hq8⟩
  have hQ8:=Q.trans hQ7 hq8
  have HUU:=LH hU
  clear hU
  cases hb1:(RR == S)with
  | false =>
   have HU2:Hid (u=q+1):=LH (by rw[HUU.out,hb1];rfl)
   have hb1':=zaD hb1
   go_wp2_with fail
   refine(HAD.out _ (hE.q hQ8)).mono ?_
   rintro e w9⟨rfl,hq9⟩
   have hQ9:=Q.trans hQ8 hq9
   go_wp2_with fail
   refine(HSB1.out _ (hE.q hQ9)).mono ?_
   rintro e w10⟨rfl,hq10⟩
   have hQ10:=Q.trans hQ9 hq10
   go_wp2
   go_ret
   exact⟨by rw[HU2.out];rfl,hQ10⟩
  | true =>
   have hb1':=zbT hb1
   cases hb2:(RS == [48])with
   | false =>
    have HU2:Hid (u=q+1):=LH (by rw[HUU.out,hb2];simp)
    have hb2':=zaD hb2
    go_wp2_with fail
    refine(HAD.out _ (hE.q hQ8)).mono ?_
    rintro e w9⟨rfl,hq9⟩
    have hQ9:=Q.trans hQ8 hq9
    go_wp2_with fail
    refine(HSB1.out _ (hE.q hQ9)).mono ?_
    rintro e w10⟨rfl,hq10⟩
    have hQ10:=Q.trans hQ9 hq10
    go_wp2
    go_ret
    exact⟨by rw[HU2.out];rfl,hQ10⟩
   | true =>
    have HU2:Hid (u=q):=LH (by rw[HUU.out,hb1,hb2];simp)
    have hb2':=zbT hb2
    go_wp2_with fail
    refine(HSB0.out _ (hE.q hQ8)).mono ?_
    rintro e w10⟨rfl,hq10⟩
    have hQ10:=Q.trans hQ8 hq10
    go_wp2
    go_ret
    exact⟨by rw[HU2.out];rfl,hQ10⟩
 ·have ht:zc0 x l P=((zn (zH x l P) / x.den:Nat):Int):=zhK (by omega) l P
  rw[ht]
  have hat':(((at0 (Lib.itoa x.num) 0).toNat:Int) == 45)=false:=zsR (fun e=>hneg (hat.1 e))
  have hat'':=zaD hat'
  clear ht hat hneg kr kn kd k1 k2 k3 k4 k5 kl hxl
  generalize zn (zH x l P) / x.den=q at *
  generalize Lib.itoa ((zn (zH x l P) % x.den:Nat):Int)=RS at *
  generalize Lib.itoa ((zn (zH x l P):Nat):Int)=R at *
  generalize Lib.itoa ((zH x l P:Nat):Int)=S at *
  generalize Lib.itoa (x.num*x.num*(l:Int))=S2 at *
  generalize Lib.itoa (x.num*x.num)=S1 at *
  generalize Lib.itoa x.num=N at *
  generalize Lib.itoa (x.den:Int)=D at *
  generalize Lib.itoa (l:Int)=L at *
  generalize ze x=X at *
  generalize hq0:Lib.itoa (q:Int)=QS at *
  clear hd
  go_enter Tryz.func106,Tryz.ntmps106
  have T:=Blk.new w [.string ⟨X.toArray⟩,.string ⟨L.toArray⟩] 84
  have hQ0:Q w (w.alloc (.cells [.string ⟨X.toArray⟩,.string ⟨L.toArray⟩].toArray 84)):=(Below.refl _ w).alloc (Nat.le_refl _) _
  go_wp2_with fail
  refine(HPA.out _ (hE.q hQ0)).mono ?_
  rintro e w1⟨rfl,hq1⟩
  have hQ1:=Q.trans hQ0 hq1
  have T1:=T.keep hq1 T.lt
  clear T hq1
  go_wp2_with fail
  refine(HM1.out _ (hE.q hQ1)).mono ?_
  rintro e w2⟨rfl,hq2⟩
  have hQ2:=Q.trans hQ1 hq2
  have T2:=T1.keep hq2 T1.lt
  have c1:=T2.cell 1
  simp only[zs4,zs5]at c1
  clear T1 hq2
  go_wp2_with fail
  clear c1 T2
  refine(HM2.out _ (hE.q hQ2)).mono ?_
  rintro e w3⟨rfl,hq3⟩
  have hQ3:=Q.trans hQ2 hq3
  go_wp2_with fail
  refine(HREP.out _).mono ?_
  rintro e w4⟨rfl,hq4⟩
  have hQ4:=Q.trans hQ3 hq4
  go_wp2_with fail
  refine(HM3.out _ (hE.q hQ4)).mono ?_
  rintro e w5⟨rfl,hq5⟩
  have hQ5:=Q.trans hQ4 hq5
  go_wp2_with fail
  refine(HRT.out _ (hE.q hQ5)).mono ?_
  rintro e w6⟨rfl,hq6⟩
  have hQ6:=Q.trans hQ5 hq6
  go_wp2_with fail
  refine(HDV.out _ (hE.q hQ6)).mono ?_
  rintro e w7⟨rfl,hq7⟩
  have hQ7:=Q.trans hQ6 hq7
  go_wp2
  go_ret
  exact⟨rfl,hQ7⟩
end
section
open Go.RowKit Kp
open Go.Lib (decDigits)
theorem zbU.q{w w':World}(h:zbU w)(hE:Env w)(hq:Q w w'):zbU w':=by
 obtain⟨t,f,h⟩:=h
 exact⟨t,f,by rw[hq.block _ (Nat.lt_of_lt_of_le (by decide) hE.size)];exact h⟩
theorem zbU.cell{w:World}(h:zbU w)(i:Nat)(hi:i<3):w.cell? ⟨0,i,none⟩=(#[Value.int .i64 4,.int .i64 16,.int .i64 64])[i]?:=by
 obtain⟨t,f,h⟩:=h
 simp[World.cell?,h,hi]
def VS(t:Rat × Nat):Prop:=Bd 60 t.1∧t.2<10 ^ 40
theorem zkg{x:Rat}{l P:Nat}(h:Bd 60 x)(hl:l<10 ^ 40)(hP:P≤64):(zc0 x l P).natAbs≤10 ^ 146:=by
 obtain⟨-,-,-,-,h5⟩:=zkf h hl hP
 have h1:zn (zH x l P)<10 ^ 145:=ziu h5
 have h2:=Nat.div_le_self (zn (zH x l P)) x.den
 have h3:zcZ x l P≤zn (zH x l P) / x.den+1:=by unfold zcZ;split <;> omega
 have h4:(10:Nat) ^ 145+1≤10 ^ 146:=by decide
 unfold zc0
 split <;> omega
theorem zoT(a:List (Rat × Nat))(t:Rat × Nat)(P:Nat):zbP (a++[t]) P=zbP a P+zc0 t.1 t.2 P:=by
 induction a with
 | nil=>simp[zbP]
 | cons c r ih=>simp only[List.cons_append,zbP,ih];omega
theorem znp:∀ (ts:List (Rat × Nat)) (P:Nat),(∀ t∈ts,VS t)→P≤64→(zbP ts P).natAbs≤ts.length*10 ^ 146
 | [],_,_,_=>by simp[zbP]
 | t::r,P,h,hP=>by
  have h1:=znp r P (fun x hx=>h x (by simp[hx])) hP
  have h2:=zkg (h t (by simp)).1 (h t (by simp)).2 hP
  have h3:(r.length+1)*10 ^ 146=r.length*10 ^ 146+10 ^ 146:=by rw[Nat.add_mul,Nat.one_mul]
  simp only[zbP,List.length_cons,h3]
  omega
theorem zro{ts:List (Rat × Nat)}{P:Nat}(h:∀ t∈ts,VS t)(hn:ts.length≤1000)(hP:P≤64)(j k:Nat)(hk:k≤1000):lim (zbP (ts.take j) P+k)=false:=by
 have h1:=znp (ts.take j) P (fun t ht=>h t (List.mem_of_mem_take ht)) hP
 have h2:(ts.take j).length≤1000:=by rw[List.length_take];omega
 have h3:(ts.take j).length*10 ^ 146≤1000*10 ^ 146:=Nat.mul_le_mul_right _ h2
 refine zbc (n:=150) ?_ (by decide)
 have h4:(1000:Nat)*10 ^ 146+1000<10 ^ 150:=by decide
 omega
def zdR(ts:List (Rat × Nat)):Value:=match zkC ts with
 | some k=>.tuple #[.int .i64 k,.int .i64 0]
 | none=>.tuple #[.int .i64 0,.int .i64 4]
theorem zfv(F:Int):(0<F∧Lib.compareInt F 0=1)∨(F=0∧Lib.compareInt F 0=0)∨(F<0∧Lib.compareInt F 0 = -1):=by
 unfold Lib.compareInt
 rcases Int.lt_trichotomy F 0 with h | h | h
 ·exact .inr (.inr ⟨h,by rw[if_pos h]⟩)
 ·exact .inr (.inl ⟨h,by rw[if_neg (by omega),if_neg (by omega)]⟩)
 ·exact .inl ⟨h,by rw[if_neg (by omega),if_pos h]⟩
theorem ziS(k P:Nat)(h:(k=0∧P=4)∨(k=1∧P=16)∨(k=2∧P=64))(w:World):(Instr.index 172 (.agg #[.int .i64 4,.int .i64 16,.int .i64 64]) (.int .i64 k)).run Tryz.prog w=.ok (.int .i64 P) w:=by
 rcases h with⟨rfl,rfl⟩|⟨rfl,rfl⟩|⟨rfl,rfl⟩
 ·kernel_rfl
 ·kernel_rfl
 ·kernel_rfl
theorem ziD(ts : List (Rat × Nat))(hts : ∀ t ∈ ts, VS t)(hn : ts.length ≤ 1000)(v : Value)(w : World)(hE : Env w)(hP : zbU w)(hsl : TSl w w.heap.size v (ts.map ofC)) :
    Calls Tryz.prog 54 #[v] w fun e w' => e = .returned (zdR ts) ∧ Q w w' := by
  obtain⟨a, cap, rfl, -, hc⟩ := hsl
  rw[List.length_map]at hc
  rw[List.length_map]
  by_cases h0 : ts = []
  · subst h0
    go_enter Tryz.func54, Tryz.ntmps54
    go_wp2
    go_ret2
    exact⟨rfl, Q.refl _⟩
  · have hpos : 0 < ts.length := List.length_pos_iff.2 h0
    have hz : ((ts.length : Int) == 0) = false := by rw[beq_eq_false_iff_ne];omega
    have HS : Hid (zkC ts = zsg (zcx ts.length (zbP ts 4) false) (zcx ts.length (zbP ts 16) false) (zcx ts.length (zbP ts 64) true)) := LH (by unfold zkC;rw[if_neg h0])
    have HL := LH (fun P (hP : P ≤ 64) j k (hk : k ≤ 1000) => zro hts hn hP j k hk)
    have HFL := LH (fun P (hP : P ≤ 64) j (hj : j < ts.length) => zbc (n := 150) (Nat.lt_of_le_of_lt (zkg (hts ts[j] (List.getElem_mem hj)).1 (hts ts[j] (List.getElem_mem hj)).2 hP) (by decide)) (by decide))
    have HF := LH (fun P (hP : P ≤ 64) j (hj : j < ts.length) w hw => znP ts[j].1 ts[j].2 P (hts ts[j] (List.getElem_mem hj)).1 (hts ts[j] (List.getElem_mem hj)).2 hP w hw)
    have HTK : Hid (∀ j (hj : j < ts.length) P, zbP (ts.take (j + 1)) P = zbP (ts.take j) P + zc0 ts[j].1 ts[j].2 P) := LH (fun j hj P => by rw[List.take_succ_eq_append_getElem hj, zoT])
    have HALL : Hid (∀ P, zbP (ts.take ts.length) P = zbP ts P) := LH (fun P => by rw[List.take_length])
    have HGET : Hid (∀ j (hj : j < ts.length), (ts.map ofC).getD j ([], []) = (ze ts[j].1, Lib.itoa (ts[j].2 : Int))) := LH (fun j hj => by rw[List.getD_eq_getElem?_getD, List.getElem?_map, List.getElem?_eq_getElem hj];rfl)
    have p0 := hP.cell 0 (by decide)
    have p1 := hP.cell 1 (by decide)
    have p2 := hP.cell 2 (by decide)
    simp only[List.getElem?_toArray, zs4,zs5]at p0 p1 p2
    have hc2 := LH hc
    have HNN := LH hn
    clear h0 hts hc
    have ix0 : ∀ w, (Instr.index 172 (.agg #[.int .i64 4, .int .i64 16, .int .i64 64]) (.int .i64 0)).run Tryz.prog w = .ok (.int .i64 4) w := fun w => ziS 0 4 (.inl ⟨rfl, rfl⟩) w
    have ix1 : ∀ w, (Instr.index 172 (.agg #[.int .i64 4, .int .i64 16, .int .i64 64]) (.int .i64 1)).run Tryz.prog w = .ok (.int .i64 16) w := fun w => ziS 1 16 (.inr (.inl ⟨rfl, rfl⟩)) w
    have ix2 : ∀ w, (Instr.index 172 (.agg #[.int .i64 4, .int .i64 16, .int .i64 64]) (.int .i64 2)).run Tryz.prog w = .ok (.int .i64 64) w := fun w => ziS 2 64 (.inr (.inr ⟨rfl, rfl⟩)) w
    go_enter Tryz.func54, Tryz.ntmps54
    go_wp2
    go_loopw [17] (fun i wr => Q w wr ∧ ((i = .int .i64 0) ∨ (i = .int .i64 1 ∧ Hid (zcx ts.length (zbP ts 4) false = none)) ∨ (i = .int .i64 2 ∧ Hid (zcx ts.length (zbP ts 4) false = none) ∧ Hid (zcx ts.length (zbP ts 16) false = none)) ∨ (i = .int .i64 3 ∧ Hid (zkC ts = none)))) (fun i _ => 3 - (intOf i).toNat)
    case atStart => exact⟨Q.refl _, .inl rfl⟩
    case round =>
      obtain⟨hQ, hi⟩ := hrel
      rcases hi with rfl | ⟨rfl, g4⟩|⟨rfl, g4, g16⟩|⟨rfl, gn⟩
      · go_wp2
        go_loopw [6, 23] (fun s i wr2 => ∃ j : Nat, j ≤ ts.length ∧ i = .int .i64 j ∧ Q w wr2 ∧ s = .string ⟨(Lib.itoa (zbP (ts.take j) 4)).toArray⟩) (fun _ i _ => ts.length - (intOf i).toNat)
        case atStart => exact⟨0, by omega, rfl, hQ, by simp[zbP, zO]⟩
        case round =>
          obtain⟨j, hj, rfl, hQ2, rfl⟩ := hrel
          by_cases hlt : j < ts.length
          · obtain⟨b, o, ha, hb, d0, d1⟩ := hc2.out j hlt
            subst ha
            have c0 := (hQ2.cell (p := ⟨b, o + j * 2, none⟩) hb).trans d0
            have c1 := (hQ2.cell (p := ⟨b, o + j * 2 + 1, none⟩) hb).trans d1
            rw[HGET.out j hlt]at c0 c1
            simp only at c0 c1
            have HFJ := LH (fun w hw => HF.out 4 (by decide) j hlt w hw)
            have ad := fun w hw => zbL (zbP (ts.take j) 4) (zc0 ts[j].1 ts[j].2 4) (by have := HL.out 4 (by decide) j 0 (by decide);simpa using this) (HFL.out 4 (by decide) j hlt) w hw
            rw[← HTK.out j hlt, zbV (by have := HL.out 4 (by decide) (j + 1) 0 (by decide);simpa using this)]at ad
            have HAD := LH ad
            have HJ : Hid (j + 1 ≤ ts.length) := LH hlt
            have lbr := Nat.lt_of_lt_of_le hb hQ2.size
            clear d0 d1 ad
            generalize hS1 : Lib.itoa (zbP (ts.take (j + 1)) 4) = S1 at *
            have HS1 := LH hS1
            clear hS1
            generalize Lib.itoa (zbP (ts.take j) 4) = S0 at *
            generalize Lib.itoa (zc0 ts[j].1 ts[j].2 4) = FJ at *
            generalize ze ts[j].1 = X at *
            generalize Lib.itoa (ts[j].2 : Int) = L at *
            have hq0 := hQ2.alloc hQ2.size (Obj.cells [.string ⟨X.toArray⟩, .string ⟨L.toArray⟩].toArray 84)
            go_wp2_with fail
            refine(HFJ.out _ (hE.q hq0)).mono ?_
            rintro e w3⟨rfl, hq3⟩
            have hQ3 := Q.trans hq0 hq3
            go_wp2_with fail
            refine(HAD.out _ (hE.q hQ3)).mono ?_
            rintro e w4⟨rfl, hq4⟩
            have hQ4 := Q.trans hQ3 hq4
            go_wp2
            go_roundw
            case rel => exact⟨j + 1, HJ.out, by go_num, hQ4, by rw[HS1.out]⟩
            case measure => simp[intOf];omega
          · obtain rfl : j = ts.length := by omega
            rw[HALL.out 4]
            have hlF := HL.out 4 (by decide) ts.length 0 (by decide)
            rw[HALL.out 4, show ((0 : Nat) : Int) = 0 from rfl, Int.add_zero]at hlF
            have hlA := HL.out 4 (by decide) ts.length
            rw[HALL.out 4]at hlA
            have HLA := LH hlA
            have k1 := fun w => za2 (zbP ts 4) 0 hlF zdd w
            have k2 := fun w => za2 (zbP ts 4 + ts.length) 0 (HLA.out ts.length HNN.out) zdd w
            rw[zO]at k1 k2
            have hcz := zfv (zbP ts 4)
            have hcn := zfv (zbP ts 4 + ts.length)
            have hstep : zcx ts.length (zbP ts 4) false = if 0 < zbP ts 4 then some 1 else if zbP ts 4 + ts.length < 0 ∨ (zbP ts 4 + ts.length = 0 ∧ false = true)then some (-1)else none := rfl
            have HSTEP := LH hstep
            clear hlA hlF hstep
            generalize hF : zbP ts 4 = F at *
            have HFq := LH hF
            clear hF
            generalize Lib.compareInt F 0 = cz at *
            generalize Lib.compareInt (F + (ts.length : Int)) 0 = cn at *
            have HK1 := LH k1
            have HK2 := LH k2
            clear k1 k2
            go_wp2_with fail
            refine(HK1.out _).mono ?_
            rintro e w3⟨rfl, hq3⟩
            have hQ3 := Q.trans hQ2 hq3
            by_cases hpos2 : 0 < F
            · have hst : zcx ts.length F false = some 1 := by rw[HSTEP.out, if_pos hpos2]
              have HV : Hid (zdR ts = .tuple #[.int .i64 1, .int .i64 0]) := LH (by unfold zdR;rw[HS.out, hst];rfl)
              have hcz1 : cz = 1 := by omega
              subst hcz1
              clear hcn hcz hst
              go_wp2
              go_ret2
              exact⟨by rw[HV.out];rfl, hQ3⟩
            · have hcz1 : ¬ 0 < cz := by omega
              clear hcz
              have HCN := LH hcn
              have HNP := LH hpos2
              clear hcn hpos2
              go_wp2
              go_loopw [6, 45] (fun s i wr2 => ∃ j : Nat, j ≤ ts.length ∧ i = .int .i64 j ∧ Q w wr2 ∧ s = .string ⟨(Lib.itoa (F + j)).toArray⟩) (fun _ i _ => ts.length - (intOf i).toNat)
              case atStart => exact⟨0, by omega, rfl, hQ3, by simp⟩
              case round =>
                obtain⟨j, hj, rfl, hQ4, rfl⟩ := hrel
                by_cases hlt2 : j < ts.length
                · have ad := fun w hw => zbL (F + (j : Int)) 1 (HLA.out j (by have := HNN.out;omega)) zer w hw
                  have e1 : F + (j : Int) + 1 = F + ((j + 1 : Nat) : Int) := by omega
                  rw[e1, zbV (HLA.out (j + 1) (by have := HNN.out;omega)), zaa]at ad
                  have HAD := LH ad
                  have HJ : Hid (j + 1 ≤ ts.length) := LH hlt2
                  clear ad e1
                  generalize hS1 : Lib.itoa (F + ((j + 1 : Nat) : Int)) = S1 at *
                  have HS1 := LH hS1
                  clear hS1
                  generalize Lib.itoa (F + (j : Int)) = S0 at *
                  go_wp2_with fail
                  refine(HAD.out _ (hE.q hQ4)).mono ?_
                  rintro e w4⟨rfl, hq4⟩
                  have hQ5 := Q.trans hQ4 hq4
                  go_wp2
                  go_roundw
                  case rel => exact⟨j + 1, HJ.out, by go_num, hQ5, by rw[HS1.out]⟩
                  case measure => simp[intOf];omega
                · obtain rfl : j = ts.length := by omega
                  generalize Lib.itoa (F + (ts.length : Int)) = S0 at *
                  go_wp2_with fail
                  refine(HK2.out _).mono ?_
                  rintro e w4⟨rfl, hq4⟩
                  have hQ5 := Q.trans hQ4 hq4
                  have hways : (Hid (zcx ts.length F false = some (-1)) ∧ (cn < 0 ∨ (cn = 0 ∧ false = true))) ∨ (Hid (zcx ts.length F false = none) ∧ (0 < cn ∨ (cn = 0 ∧ false = false))) := by
                    have h1 := HCN.out
                    have h2 := HNP.out
                    rw[HSTEP.out, if_neg (by omega)]
                    by_cases h3 : F + (ts.length : Int) < 0 ∨ (F + (ts.length : Int) = 0 ∧ false = true)
                    · refine .inl ⟨LH (by first | exact if_pos h3 | exact if_pos (by simpa using h3)), ?_⟩
                      rcases h3 with h3 | ⟨h3, h4⟩
                      · exact .inl (by omega)
                      · exact .inr ⟨by omega, h4⟩
                    · refine .inr ⟨LH (by first | exact if_neg h3 | exact if_neg (by simpa using h3)), ?_⟩
                      by_cases h5 : F + (ts.length : Int) = 0
                      · refine .inr ⟨by omega, ?_⟩
                        cases h6 : false with
                        | false => rfl
                        | true => exact absurd (Or.inr ⟨h5, h6⟩) h3
                      · exact .inl (by omega)
                  clear HCN HNP HSTEP HLA HK1 HK2
                  rcases hways with⟨HST, hc1⟩|⟨HST, hc1⟩
                  · have HV : Hid (zdR ts = .tuple #[.int .i64 (-1), .int .i64 0]) := LH (by have hst := HST.out;unfold zdR;rw[HS.out, hst];rfl)
                    rcases hc1 with hc1 | ⟨rfl, hc2⟩
                    · go_wp2
                      go_ret2
                      exact⟨by rw[HV.out];rfl, hQ5⟩
                    · first
                        | exact absurd hc2 (by decide)
                        | (go_wp2;go_ret2;exact⟨by rw[HV.out];rfl, hQ5⟩)
                  · rcases hc1 with hc1 | ⟨rfl, hc2⟩
                    · have hcn1 : ¬ cn < 0 := by omega
                      have hcn0 : (cn == 0) = false := by rw[beq_eq_false_iff_ne];omega
                      go_wp2
                      go_roundw
                      case rel => exact⟨hQ5, .inr (.inl ⟨by go_num, LH (by rw[HFq.out];exact HST.out)⟩)⟩
                      case measure => simp[intOf]
                    · first
                        | exact absurd hc2 (by decide)
                        | (go_wp2
                           go_roundw
                           case rel => exact⟨hQ5, .inr (.inl ⟨by go_num, LH (by rw[HFq.out];exact HST.out)⟩)⟩
                           case measure => simp[intOf])
      · go_wp2
        go_loopw [6, 23] (fun s i wr2 => ∃ j : Nat, j ≤ ts.length ∧ i = .int .i64 j ∧ Q w wr2 ∧ s = .string ⟨(Lib.itoa (zbP (ts.take j) 16)).toArray⟩) (fun _ i _ => ts.length - (intOf i).toNat)
        case atStart => exact⟨0, by omega, rfl, hQ, by simp[zbP, zO]⟩
        case round =>
          obtain⟨j, hj, rfl, hQ2, rfl⟩ := hrel
          by_cases hlt : j < ts.length
          · obtain⟨b, o, ha, hb, d0, d1⟩ := hc2.out j hlt
            subst ha
            have c0 := (hQ2.cell (p := ⟨b, o + j * 2, none⟩) hb).trans d0
            have c1 := (hQ2.cell (p := ⟨b, o + j * 2 + 1, none⟩) hb).trans d1
            rw[HGET.out j hlt]at c0 c1
            simp only at c0 c1
            have HFJ := LH (fun w hw => HF.out 16 (by decide) j hlt w hw)
            have ad := fun w hw => zbL (zbP (ts.take j) 16) (zc0 ts[j].1 ts[j].2 16) (by have := HL.out 16 (by decide) j 0 (by decide);simpa using this) (HFL.out 16 (by decide) j hlt) w hw
            rw[← HTK.out j hlt, zbV (by have := HL.out 16 (by decide) (j + 1) 0 (by decide);simpa using this)]at ad
            have HAD := LH ad
            have HJ : Hid (j + 1 ≤ ts.length) := LH hlt
            have lbr := Nat.lt_of_lt_of_le hb hQ2.size
            clear d0 d1 ad
            generalize hS1 : Lib.itoa (zbP (ts.take (j + 1)) 16) = S1 at *
            have HS1 := LH hS1
            clear hS1
            generalize Lib.itoa (zbP (ts.take j) 16) = S0 at *
            generalize Lib.itoa (zc0 ts[j].1 ts[j].2 16) = FJ at *
            generalize ze ts[j].1 = X at *
            generalize Lib.itoa (ts[j].2 : Int) = L at *
            have hq0 := hQ2.alloc hQ2.size (Obj.cells [.string ⟨X.toArray⟩, .string ⟨L.toArray⟩].toArray 84)
            go_wp2_with fail
            refine(HFJ.out _ (hE.q hq0)).mono ?_
            rintro e w3⟨rfl, hq3⟩
            have hQ3 := Q.trans hq0 hq3
            go_wp2_with fail
            refine(HAD.out _ (hE.q hQ3)).mono ?_
            rintro e w4⟨rfl, hq4⟩
            have hQ4 := Q.trans hQ3 hq4
            go_wp2
            go_roundw
            case rel => exact⟨j + 1, HJ.out, by go_num, hQ4, by rw[HS1.out]⟩
            case measure => simp[intOf];omega
          · obtain rfl : j = ts.length := by omega
            rw[HALL.out 16]
            have hlF := HL.out 16 (by decide) ts.length 0 (by decide)
            rw[HALL.out 16, show ((0 : Nat) : Int) = 0 from rfl, Int.add_zero]at hlF
            have hlA := HL.out 16 (by decide) ts.length
            rw[HALL.out 16]at hlA
            have HLA := LH hlA
            have k1 := fun w => za2 (zbP ts 16) 0 hlF zdd w
            have k2 := fun w => za2 (zbP ts 16 + ts.length) 0 (HLA.out ts.length HNN.out) zdd w
            rw[zO]at k1 k2
            have hcz := zfv (zbP ts 16)
            have hcn := zfv (zbP ts 16 + ts.length)
            have hstep : zcx ts.length (zbP ts 16) false = if 0 < zbP ts 16 then some 1 else if zbP ts 16 + ts.length < 0 ∨ (zbP ts 16 + ts.length = 0 ∧ false = true)then some (-1)else none := rfl
            have HSTEP := LH hstep
            clear hlA hlF hstep
            generalize hF : zbP ts 16 = F at *
            have HFq := LH hF
            clear hF
            generalize Lib.compareInt F 0 = cz at *
            generalize Lib.compareInt (F + (ts.length : Int)) 0 = cn at *
            have HK1 := LH k1
            have HK2 := LH k2
            clear k1 k2
            go_wp2_with fail
            refine(HK1.out _).mono ?_
            rintro e w3⟨rfl, hq3⟩
            have hQ3 := Q.trans hQ2 hq3
            by_cases hpos2 : 0 < F
            · have hst : zcx ts.length F false = some 1 := by rw[HSTEP.out, if_pos hpos2]
              have HV : Hid (zdR ts = .tuple #[.int .i64 1, .int .i64 0]) := LH (by unfold zdR;rw[HS.out, g4.out, hst];rfl)
              have hcz1 : cz = 1 := by omega
              subst hcz1
              clear hcn hcz hst
              go_wp2
              go_ret2
              exact⟨by rw[HV.out];rfl, hQ3⟩
            · have hcz1 : ¬ 0 < cz := by omega
              clear hcz
              have HCN := LH hcn
              have HNP := LH hpos2
              clear hcn hpos2
              go_wp2
              go_loopw [6, 45] (fun s i wr2 => ∃ j : Nat, j ≤ ts.length ∧ i = .int .i64 j ∧ Q w wr2 ∧ s = .string ⟨(Lib.itoa (F + j)).toArray⟩) (fun _ i _ => ts.length - (intOf i).toNat)
              case atStart => exact⟨0, by omega, rfl, hQ3, by simp⟩
              case round =>
                obtain⟨j, hj, rfl, hQ4, rfl⟩ := hrel
                by_cases hlt2 : j < ts.length
                · have ad := fun w hw => zbL (F + (j : Int)) 1 (HLA.out j (by have := HNN.out;omega)) zer w hw
                  have e1 : F + (j : Int) + 1 = F + ((j + 1 : Nat) : Int) := by omega
                  rw[e1, zbV (HLA.out (j + 1) (by have := HNN.out;omega)), zaa]at ad
                  have HAD := LH ad
                  have HJ : Hid (j + 1 ≤ ts.length) := LH hlt2
                  clear ad e1
                  generalize hS1 : Lib.itoa (F + ((j + 1 : Nat) : Int)) = S1 at *
                  have HS1 := LH hS1
                  clear hS1
                  generalize Lib.itoa (F + (j : Int)) = S0 at *
                  go_wp2_with fail
                  refine(HAD.out _ (hE.q hQ4)).mono ?_
                  rintro e w4⟨rfl, hq4⟩
                  have hQ5 := Q.trans hQ4 hq4
                  go_wp2
                  go_roundw
                  case rel => exact⟨j + 1, HJ.out, by go_num, hQ5, by rw[HS1.out]⟩
                  case measure => simp[intOf];omega
                · obtain rfl : j = ts.length := by omega
                  generalize Lib.itoa (F + (ts.length : Int)) = S0 at *
                  go_wp2_with fail
                  refine(HK2.out _).mono ?_
                  rintro e w4⟨rfl, hq4⟩
                  have hQ5 := Q.trans hQ4 hq4
                  have hways : (Hid (zcx ts.length F false = some (-1)) ∧ (cn < 0 ∨ (cn = 0 ∧ false = true))) ∨ (Hid (zcx ts.length F false = none) ∧ (0 < cn ∨ (cn = 0 ∧ false = false))) := by
                    have h1 := HCN.out
                    have h2 := HNP.out
                    rw[HSTEP.out, if_neg (by omega)]
                    by_cases h3 : F + (ts.length : Int) < 0 ∨ (F + (ts.length : Int) = 0 ∧ false = true)
                    · refine .inl ⟨LH (by first | exact if_pos h3 | exact if_pos (by simpa using h3)), ?_⟩
                      rcases h3 with h3 | ⟨h3, h4⟩
                      · exact .inl (by omega)
                      · exact .inr ⟨by omega, h4⟩
                    · refine .inr ⟨LH (by first | exact if_neg h3 | exact if_neg (by simpa using h3)), ?_⟩
                      by_cases h5 : F + (ts.length : Int) = 0
                      · refine .inr ⟨by omega, ?_⟩
                        cases h6 : false with
                        | false => rfl
                        | true => exact absurd (Or.inr ⟨h5, h6⟩) h3
                      · exact .inl (by omega)
                  clear HCN HNP HSTEP HLA HK1 HK2
                  rcases hways with⟨HST, hc1⟩|⟨HST, hc1⟩
                  · have HV : Hid (zdR ts = .tuple #[.int .i64 (-1), .int .i64 0]) := LH (by have hst := HST.out;unfold zdR;rw[HS.out, g4.out, hst];rfl)
                    rcases hc1 with hc1 | ⟨rfl, hc2⟩
                    · go_wp2
                      go_ret2
                      exact⟨by rw[HV.out];rfl, hQ5⟩
                    · first
                        | exact absurd hc2 (by decide)
                        | (go_wp2;go_ret2;exact⟨by rw[HV.out];rfl, hQ5⟩)
                  · rcases hc1 with hc1 | ⟨rfl, hc2⟩
                    · have hcn1 : ¬ cn < 0 := by omega
                      have hcn0 : (cn == 0) = false := by rw[beq_eq_false_iff_ne];omega
                      go_wp2
                      go_roundw
                      case rel => exact⟨hQ5, .inr (.inr (.inl ⟨by go_num, g4, LH (by rw[HFq.out];exact HST.out)⟩))⟩
                      case measure => simp[intOf]
                    · first
                        | exact absurd hc2 (by decide)
                        | (go_wp2
                           go_roundw
                           case rel => exact⟨hQ5, .inr (.inr (.inl ⟨by go_num, g4, LH (by rw[HFq.out];exact HST.out)⟩))⟩
                           case measure => simp[intOf])
      · go_wp2
        go_loopw [6, 23] (fun s i wr2 => ∃ j : Nat, j ≤ ts.length ∧ i = .int .i64 j ∧ Q w wr2 ∧ s = .string ⟨(Lib.itoa (zbP (ts.take j) 64)).toArray⟩) (fun _ i _ => ts.length - (intOf i).toNat)
        case atStart => exact⟨0, by omega, rfl, hQ, by simp[zbP, zO]⟩
        case round =>
          obtain⟨j, hj, rfl, hQ2, rfl⟩ := hrel
          by_cases hlt : j < ts.length
          · obtain⟨b, o, ha, hb, d0, d1⟩ := hc2.out j hlt
            subst ha
            have c0 := (hQ2.cell (p := ⟨b, o + j * 2, none⟩) hb).trans d0
            have c1 := (hQ2.cell (p := ⟨b, o + j * 2 + 1, none⟩) hb).trans d1
            rw[HGET.out j hlt]at c0 c1
            simp only at c0 c1
            have HFJ := LH (fun w hw => HF.out 64 (by decide) j hlt w hw)
            have ad := fun w hw => zbL (zbP (ts.take j) 64) (zc0 ts[j].1 ts[j].2 64) (by have := HL.out 64 (by decide) j 0 (by decide);simpa using this) (HFL.out 64 (by decide) j hlt) w hw
            rw[← HTK.out j hlt, zbV (by have := HL.out 64 (by decide) (j + 1) 0 (by decide);simpa using this)]at ad
            have HAD := LH ad
            have HJ : Hid (j + 1 ≤ ts.length) := LH hlt
            have lbr := Nat.lt_of_lt_of_le hb hQ2.size
            clear d0 d1 ad
            generalize hS1 : Lib.itoa (zbP (ts.take (j + 1)) 64) = S1 at *
            have HS1 := LH hS1
            clear hS1
            generalize Lib.itoa (zbP (ts.take j) 64) = S0 at *
            generalize Lib.itoa (zc0 ts[j].1 ts[j].2 64) = FJ at *
            generalize ze ts[j].1 = X at *
            generalize Lib.itoa (ts[j].2 : Int) = L at *
            have hq0 := hQ2.alloc hQ2.size (Obj.cells [.string ⟨X.toArray⟩, .string ⟨L.toArray⟩].toArray 84)
            go_wp2_with fail
            refine(HFJ.out _ (hE.q hq0)).mono ?_
            rintro e w3⟨rfl, hq3⟩
            have hQ3 := Q.trans hq0 hq3
            go_wp2_with fail
            refine(HAD.out _ (hE.q hQ3)).mono ?_
            rintro e w4⟨rfl, hq4⟩
            have hQ4 := Q.trans hQ3 hq4
            go_wp2
            go_roundw
            case rel => exact⟨j + 1, HJ.out, by go_num, hQ4, by rw[HS1.out]⟩
            case measure => simp[intOf];omega
          · obtain rfl : j = ts.length := by omega
            rw[HALL.out 64]
            have hlF := HL.out 64 (by decide) ts.length 0 (by decide)
            rw[HALL.out 64, show ((0 : Nat) : Int) = 0 from rfl, Int.add_zero]at hlF
            have hlA := HL.out 64 (by decide) ts.length
            rw[HALL.out 64]at hlA
            have HLA := LH hlA
            have k1 := fun w => za2 (zbP ts 64) 0 hlF zdd w
            have k2 := fun w => za2 (zbP ts 64 + ts.length) 0 (HLA.out ts.length HNN.out) zdd w
            rw[zO]at k1 k2
            have hcz := zfv (zbP ts 64)
            have hcn := zfv (zbP ts 64 + ts.length)
            have hstep : zcx ts.length (zbP ts 64) true = if 0 < zbP ts 64 then some 1 else if zbP ts 64 + ts.length < 0 ∨ (zbP ts 64 + ts.length = 0 ∧ true = true)then some (-1)else none := rfl
            have HSTEP := LH hstep
            clear hlA hlF hstep
            generalize hF : zbP ts 64 = F at *
            have HFq := LH hF
            clear hF
            generalize Lib.compareInt F 0 = cz at *
            generalize Lib.compareInt (F + (ts.length : Int)) 0 = cn at *
            have HK1 := LH k1
            have HK2 := LH k2
            clear k1 k2
            go_wp2_with fail
            refine(HK1.out _).mono ?_
            rintro e w3⟨rfl, hq3⟩
            have hQ3 := Q.trans hQ2 hq3
            by_cases hpos2 : 0 < F
            · have hst : zcx ts.length F true = some 1 := by rw[HSTEP.out, if_pos hpos2]
              have HV : Hid (zdR ts = .tuple #[.int .i64 1, .int .i64 0]) := LH (by unfold zdR;rw[HS.out, g4.out, g16.out, hst];rfl)
              have hcz1 : cz = 1 := by omega
              subst hcz1
              clear hcn hcz hst
              go_wp2
              go_ret2
              exact⟨by rw[HV.out];rfl, hQ3⟩
            · have hcz1 : ¬ 0 < cz := by omega
              clear hcz
              have HCN := LH hcn
              have HNP := LH hpos2
              clear hcn hpos2
              go_wp2
              go_loopw [6, 45] (fun s i wr2 => ∃ j : Nat, j ≤ ts.length ∧ i = .int .i64 j ∧ Q w wr2 ∧ s = .string ⟨(Lib.itoa (F + j)).toArray⟩) (fun _ i _ => ts.length - (intOf i).toNat)
              case atStart => exact⟨0, by omega, rfl, hQ3, by simp⟩
              case round =>
                obtain⟨j, hj, rfl, hQ4, rfl⟩ := hrel
                by_cases hlt2 : j < ts.length
                · have ad := fun w hw => zbL (F + (j : Int)) 1 (HLA.out j (by have := HNN.out;omega)) zer w hw
                  have e1 : F + (j : Int) + 1 = F + ((j + 1 : Nat) : Int) := by omega
                  rw[e1, zbV (HLA.out (j + 1) (by have := HNN.out;omega)), zaa]at ad
                  have HAD := LH ad
                  have HJ : Hid (j + 1 ≤ ts.length) := LH hlt2
                  clear ad e1
                  generalize hS1 : Lib.itoa (F + ((j + 1 : Nat) : Int)) = S1 at *
                  have HS1 := LH hS1
                  clear hS1
                  generalize Lib.itoa (F + (j : Int)) = S0 at *
                  go_wp2_with fail
                  refine(HAD.out _ (hE.q hQ4)).mono ?_
                  rintro e w4⟨rfl, hq4⟩
                  have hQ5 := Q.trans hQ4 hq4
                  go_wp2
                  go_roundw
                  case rel => exact⟨j + 1, HJ.out, by go_num, hQ5, by rw[HS1.out]⟩
                  case measure => simp[intOf];omega
                · obtain rfl : j = ts.length := by omega
                  generalize Lib.itoa (F + (ts.length : Int)) = S0 at *
                  go_wp2_with fail
                  refine(HK2.out _).mono ?_
                  rintro e w4⟨rfl, hq4⟩
                  have hQ5 := Q.trans hQ4 hq4
                  have hways : (Hid (zcx ts.length F true = some (-1)) ∧ (cn < 0 ∨ (cn = 0 ∧ true = true))) ∨ (Hid (zcx ts.length F true = none) ∧ (0 < cn ∨ (cn = 0 ∧ true = false))) := by
                    have h1 := HCN.out
                    have h2 := HNP.out
                    rw[HSTEP.out, if_neg (by omega)]
                    by_cases h3 : F + (ts.length : Int) < 0 ∨ (F + (ts.length : Int) = 0 ∧ true = true)
                    · refine .inl ⟨LH (by first | exact if_pos h3 | exact if_pos (by simpa using h3)), ?_⟩
                      rcases h3 with h3 | ⟨h3, h4⟩
                      · exact .inl (by omega)
                      · exact .inr ⟨by omega, h4⟩
                    · refine .inr ⟨LH (by first | exact if_neg h3 | exact if_neg (by simpa using h3)), ?_⟩
                      by_cases h5 : F + (ts.length : Int) = 0
                      · refine .inr ⟨by omega, ?_⟩
                        cases h6 : true with
                        | false => rfl
                        | true => exact absurd (Or.inr ⟨h5, h6⟩) h3
                      · exact .inl (by omega)
                  clear HCN HNP HSTEP HLA HK1 HK2
                  rcases hways with⟨HST, hc1⟩|⟨HST, hc1⟩
                  · have HV : Hid (zdR ts = .tuple #[.int .i64 (-1), .int .i64 0]) := LH (by have hst := HST.out;unfold zdR;rw[HS.out, g4.out, g16.out, hst];rfl)
                    rcases hc1 with hc1 | ⟨rfl, hc2⟩
                    · go_wp2
                      go_ret2
                      exact⟨by rw[HV.out];rfl, hQ5⟩
                    · first
                        | exact absurd hc2 (by decide)
                        | (go_wp2;go_ret2;exact⟨by rw[HV.out];rfl, hQ5⟩)
                  · rcases hc1 with hc1 | ⟨rfl, hc2⟩
                    · have hcn1 : ¬ cn < 0 := by omega
                      have hcn0 : (cn == 0) = false := by rw[beq_eq_false_iff_ne];omega
                      go_wp2
                      go_roundw
                      case rel => exact⟨hQ5, .inr (.inr (.inr ⟨by go_num, LH (by rw[HS.out, g4.out, g16.out];exact HST.out)⟩))⟩
                      case measure => simp[intOf]
                    · first
                        | exact absurd hc2 (by decide)
                        | (go_wp2
                           go_roundw
                           case rel => exact⟨hQ5, .inr (.inr (.inr ⟨by go_num, LH (by rw[HS.out, g4.out, g16.out];exact HST.out)⟩))⟩
                           case measure => simp[intOf])
      · have HV : Hid (zdR ts = .tuple #[.int .i64 0, .int .i64 4]) := LH (by unfold zdR;rw[gn.out])
        go_wp2
        go_ret2
        exact⟨by rw[HV.out];rfl, hQ⟩
end
end Go.Proofs.YtbpghkdadajomaaGreatDoor
namespace Go.Proofs
open Go.Shelf
def Tryz.growSurd_ren:Go.Shelf.Ren:=⟨fun | 4=>164 | n=>n,fun | 22=>46 | 25=>84 | 20=>20 | 9=>9 | 3=>3 | 4=>4 | 0=>0 | n=>n,fun | n=>n⟩
theorem Tryz.growSurd:Go.Proofs.Lays8.n4 Tryz.prog Tryz.growSurd_ren:={
 mixed:=by kernel_rfl
 f4:=⟨Tryz.f164.name,by decide,Tryz.func164.trans (congrArg some (by kernel_rfl))⟩
 t0:=Tryz.underlying0
 a0:=Tryz.isAgg0
 z0:=Tryz.sizeOf0
 v0:=Tryz.zeroValue0
 t3:=Tryz.underlying3
 a3:=Tryz.isAgg3
 z3:=Tryz.sizeOf3
 v3:=Tryz.zeroValue3
 t4:=Tryz.underlying4
 a4:=Tryz.isAgg4
 z4:=Tryz.sizeOf4
 v4:=Tryz.zeroValue4
 t9:=Tryz.underlying9
 a9:=Tryz.isAgg9
 z9:=Tryz.sizeOf9
 v9:=Tryz.zeroValue9
 t20:=Tryz.underlying20
 a20:=Tryz.isAgg20
 z20:=Tryz.sizeOf20
 v20:=Tryz.zeroValue20
 t22:=Tryz.underlying46
 a22:=Tryz.isAgg46
 z22:=Tryz.sizeOf46
 v22:=Tryz.zeroValue46 }
end Go.Proofs
namespace Go.Proofs.YtbpghkdadajomaaGreatDoor
section
open Go.RowKit Kp
open Go.Lib (decDigits)
theorem TSl.open{w:World}{B:Nat}{v:Value}{l:List (Str × Str)}(h:TSl w B v l)(hl:0<l.length):∃ b o cap,v=.slice (some ⟨b,o,none⟩) l.length cap∧b<B∧B≤w.heap.size∧∀ j u,(zcd l)[j]? = some u→w.cell? ((⟨b,o,none⟩:Addr).add j)=some u:=by
 obtain⟨a,cap,rfl,hB,hc⟩:=h
 obtain⟨b,o,rfl,hb,-,-⟩:=hc 0 hl
 refine⟨b,o,cap,rfl,hb,hB,fun j u hu=>?_⟩
 have hj:j<l.length*2:=by
  rw[← zgu]
  exact(List.getElem?_eq_some_iff.1 hu).1
 have hadd:(⟨b,o,none⟩:Addr).add j=⟨b,o+j,none⟩:=by unfold Addr.add;split <;> simp_all
 rw[hadd]
 obtain⟨b',o',he,-,c0,c1⟩:=hc (j / 2) (by omega)
 cases he
 obtain⟨g0,g1⟩:=zgv l (j / 2) (by omega)
 rcases Nat.mod_two_eq_zero_or_one j with hm | hm
 ·have e:j / 2*2=j:=by omega
  rw[e]at c0 g0
  rw[hu]at g0
  rw[c0,← g0]
 ·have e:j / 2*2+1=j:=by omega
  have e2:o+j / 2*2+1=o+j:=by omega
  rw[e2]at c1
  rw[e,hu]at g1
  rw[c1,← g1]
theorem zjf(n:Nat)(hn:0<n)(hn2:n≤100000)(w:World) :
  Calls Tryz.prog 164 #[.slice none 0 0,.int .i64 n] w fun e w'=>∃ v,e=.returned v∧Q w w'∧w'.ownsRow w.heap.size 84 2 v 0 []∧∃ g cap,v=.slice (some ⟨g,0,none⟩) 0 cap:=by
 obtain⟨i0,hi,hz0,hz1,hz2⟩:=zbs zcu
 refine(Any8.slices_Grow_grow Tryz.growSurd i0 _ hi hz0 (by rw[hz1];decide) none 0 0 n [] w (Nat.le_refl _) (by omega) (by rw[hz2];omega) (by omega) (by simp) (fun _=>rfl) (fun a h=>by cases h)).mono ?_
 rintro e w'⟨rfl,rfl⟩
 have hcap:Go.grownCap w (0+n) 0 84≤maxLen:=Go.grownCap_le_maxLen w (0+n) 0 _ (by unfold maxLen;omega)
 have hge:0+n≤Go.grownCap w (0+n) 0 84:=Go.grownCap_ge w _ _ _
 refine⟨_,rfl,(Below.refl _ w).drew.alloc (Nat.le_refl _) _,⟨rfl,.inr ⟨w.heap.size,_,_,rfl,Nat.le_refl _,heap_alloc_new w.drew _,Nat.zero_le _,hcap,?_,by simp⟩⟩,_,_,rfl⟩
 rw[Array.size_append,Array.size_append,size_zeroCells,size_zeroCells]
 have e2:(Value.agg #[.string ⟨#[]⟩,.string ⟨#[]⟩]).cells.size=2:=rfl
 rw[e2]
 rw[show Tryz.growSurd_ren.t 25=84 from rfl]
 simp only[List.size_toArray,List.length_nil]
 omega
theorem zmG(l1 l2:List (Str × Str))(h1:0<l1.length)(h2:0<l2.length)(n1:l1.length≤1000)(n2:l2.length≤1000)(v1 v2:Value)(b:Nat)(t:TypeId)(w:World)(hb:Blk w b [v1,v2] t)(s1:TSl w w.heap.size v1 l1)(s2:TSl w w.heap.size v2 l2) :
  Calls Tryz.prog 105 #[.slice (some ⟨b,0,none⟩) 2 2] w fun e w'=>∃ v,e=.returned v∧Q w w'∧w'.ownsRow w.heap.size 84 2 v (l1++l2).length (zcd (l1++l2)):=by
 have S1:=LH s1
 have S2:=LH s2
 obtain⟨b1,o1,cap1,rfl,-,-,-⟩:=s1.open h1
 obtain⟨b2,o2,cap2,rfl,-,-,-⟩:=s2.open h2
 have hg:=fun w=>zjf (l1.length+l2.length) (by omega) (by omega) w
 rw[Int.natCast_add]at hg
 have HG:=LH hg
 clear s1 s2 hg
 rw[List.length_append,ziq]
 have HN1:=LH (fun(W:World) (hq:Q w W) (j:Nat) (u:Value) (hu:(zcd l1)[j]? = some u)=>by
  obtain⟨b',o',cap',hv,_,_,hc⟩:=(S1.out.keep hq (Nat.le_refl _)).open h1
  cases hv
  exact hc j u hu)
 have HN2:=LH (fun(W:World) (hq:Q w W) (j:Nat) (u:Value) (hu:(zcd l2)[j]? = some u)=>by
  obtain⟨b',o',cap',hv,_,_,hc⟩:=(S2.out.keep hq (Nat.le_refl _)).open h2
  cases hv
  exact hc j u hu)
 have HL1:=LH (zgu l1)
 have HL2:=LH (zgu l2)
 have HO1:=LH (zgt l1)
 have HO2:=LH (zgt l2)
 generalize zcd l1=r1 at *
 generalize zcd l2=r2 at *
 generalize l1.length=m1 at *
 generalize l2.length=m2 at *
 have lb:=hb.lt
 obtain⟨i0,hi,hz0,hz1,hz2⟩:=zbs zcu
 have HI:=LH hi
 have HZ:=LH hz0
 have HS:=LH hz1
 have HBy:=LH hz2
 clear hi hz0 hz1 hz2
 have c0:=hb.cell 0
 have c1:=hb.cell 1
 simp only[zs4,zs5]at c0 c1
 have w1i:=Go.IntWalk.i64_in ((m1:Int)+(m2:Int)) (by omega)
 have w1j:=Go.IntWalk.i64_in ((0:Int)+(m1:Int)) (by omega)
 go_enter Tryz.func105,Tryz.ntmps105
 go_wp2
 go_loop [3,11] (fun sz i=>(i=.int .i64 0∧sz=.int .i64 0)∨(i=.int .i64 1∧sz=.int .i64 m1)∨(i=.int .i64 2∧sz=.int .i64 ((m1:Int)+(m2:Int)))) (fun _ i=>2 - (intOf i).toNat)
 case atStart=>exact .inl ⟨rfl,rfl⟩
 case round =>
  rcases hrel with⟨rfl,rfl⟩|⟨rfl,rfl⟩|⟨rfl,rfl⟩
  ·go_wp2
   go_round
   case rel=>exact .inr (.inl ⟨rfl,by go_num⟩)
   case measure=>simp[intOf]
  ·go_wp2
   go_round
   case rel=>exact .inr (.inr ⟨rfl,by go_num⟩)
   case measure=>simp[intOf]
  ·go_wp2_with fail
   refine(HG.out _).mono ?_
   rintro e w1⟨v,rfl,hq1,hr1,g1,gc1,rfl⟩
   clear c0 c1
   have hb1:=hb.keep hq1 lb
   go_wp2
   go_loopw [6,27] (fun o i wr=>Q w wr∧((i=.int .i64 0∧o=.slice (some ⟨g1,0,none⟩) 0 gc1∧wr.ownsRow w.heap.size 84 2 o 0 [])∨(i=.int .i64 1∧wr.ownsRow w.heap.size 84 2 o m1 r1)∨(i=.int .i64 2∧wr.ownsRow w.heap.size 84 2 o (m1+m2) (r1++r2)))) (fun _ i _=>2 - (intOf i).toNat)
   case atStart=>exact⟨hq1,.inl ⟨rfl,rfl,hr1⟩⟩
   case round =>
    obtain⟨hQ,⟨rfl,rfl,hrow⟩|⟨rfl,hrow⟩|⟨rfl,hrow⟩⟩:=hrel
    ·have hbr:=hb.keep hQ lb
     have c0:=hbr.cell 0
     simp only[List.getElem?_cons_zero]at c0
     have lbr:=hbr.lt
     go_wp2_with (at_builtin;refine wpList_append_lies _ (by rfl) (.tmp 31) (.tmp 32) 46 (by rfl) w.heap.size 84 i0 _ 2 32 Tryz.underlying46 HI.out HZ.out HS.out HBy.out rfl (by decide) (.slice (some ⟨g1,0,none⟩) 0 gc1) 0 [] (by rfl) hrow ⟨b1,o1,none⟩ m1 cap1 r1 (by rfl) HL1.out (HN1.out _ hQ) HO1.out h1 (by unfold maxLen;omega) (by omega) hQ.size _ (by rfl) ?_;intro g4 cap4 w4 hown4 hgrow4 hat4 hlt4)
     go_roundw
     case rel=>exact⟨hQ.grown hgrow4 hQ.size (fun k hk=>(hrow.lt k hk).1),.inr (.inl ⟨rfl,by rw[Nat.zero_add,List.nil_append]at hown4;simpa using hown4⟩)⟩
     case measure=>simp[intOf]
    ·obtain⟨g5,gc5,rfl,-,-⟩:=hrow.form h1
     have hbr:=hb.keep hQ lb
     have c1:=hbr.cell 1
     simp only[zs4,zs5]at c1
     have lbr:=hbr.lt
     go_wp2_with (at_builtin;refine wpList_append_lies _ (by rfl) (.tmp 31) (.tmp 32) 46 (by rfl) w.heap.size 84 i0 _ 2 32 Tryz.underlying46 HI.out HZ.out HS.out HBy.out rfl (by decide) (.slice (some ⟨g5,0,none⟩) m1 gc5) m1 r1 (by rfl) hrow ⟨b2,o2,none⟩ m2 cap2 r2 (by rfl) HL2.out (HN2.out _ hQ) HO2.out h2 (by unfold maxLen;omega) (by omega) hQ.size _ (by rfl) ?_;intro g4 cap4 w4 hown4 hgrow4 hat4 hlt4)
     go_roundw
     case rel=>exact⟨hQ.grown hgrow4 hQ.size (fun k hk=>(hrow.lt k hk).1),.inr (.inr ⟨rfl,hown4⟩)⟩
     case measure=>simp[intOf]
    ·go_wp2
     go_ret
     exact⟨_,rfl,hQ,hrow⟩
end
section
open Go.RowKit Kp
open Go.Lib (decDigits)
def zdm(c:Rat)(ts:List (Rat × Nat)):List (Rat × Nat):=ts.map fun t=>(t.1*c,t.2)
theorem zhh(c:Rat)(ts:List (Rat × Nat)):(zdm c ts).length=ts.length:=List.length_map _
theorem zlM{w:World}{base n:Nat}{t:TypeId}{v:Value}{xs:List Value}(h:w.ownsRow base t 2 v n xs):(v=.slice none 0 0∧n=0)∨∃ g cap,v=.slice (some ⟨g,0,none⟩) n cap:=by
 rcases h.2 with⟨hv,h0⟩|⟨g,cap,cur,hv,_⟩
 ·exact .inl ⟨hv,h0⟩
 ·exact .inr ⟨g,cap,hv⟩
theorem zpb{l:List (Str × Str)}{k:Nat}(h:k<l.length):zcd (l.take (k+1))=zcd (l.take k)++[.string ⟨(l[k]).1.toArray⟩,.string ⟨(l[k]).2.toArray⟩]:=by
 rw[List.take_succ_eq_append_getElem h,ziq];rfl
theorem zfP(ts:List (Rat × Nat))(c:Rat)(bc:Bd 60 c)(hts:∀ t∈ts,Bd 60 t.1)(hn:ts.length≤1000)(v:Value)(w:World)(hE:Env w)(hsl:TSl w w.heap.size v (ts.map ofC)) :
  Calls Tryz.prog 44 #[v,.string ⟨(ze c).toArray⟩] w fun e w'=>∃ v',e=.returned (.tuple #[v',.int .i64 0])∧Q w w'∧w'.ownsRow w.heap.size 84 2 v' ((zdm c ts).map ofC).length (zcd ((zdm c ts).map ofC)):=by
 obtain⟨a,cap,rfl,-,hc⟩:=hsl
 rw[List.length_map]at hc
 rw[List.length_map,List.length_map,zhh]
 obtain⟨i0,hi,hz0,hz1,hz2⟩:=zbs zcu
 have HI:=LH hi
 have HZ:=LH hz0
 have HS:=LH hz1
 have HBy:=LH hz2
 clear hi hz0 hz1 hz2
 have HNN:=LH hn
 go_enter Tryz.func44,Tryz.ntmps44
 go_wp2
 go_loopw [6,13] (fun o i wr=>∃ k:Nat,k≤ts.length∧i=.int .i64 k∧Q w wr∧wr.ownsRow w.heap.size 84 2 o k (zcd (((zdm c ts).map ofC).take k))) (fun _ i _=>ts.length - (intOf i).toNat)
 case atStart=>exact⟨0,by omega,rfl,Q.refl _,World.ownsRow_nil _ _ _ _⟩
 case round =>
  obtain⟨k,hk,rfl,hQ,hrow⟩:=hrel
  by_cases hlt:k<ts.length
  ·obtain⟨b,o1,ha,hb,d0,d1⟩:=hc k hlt
   subst ha
   have c0:=(hQ.cell (p:=⟨b,o1+k*2,none⟩) hb).trans d0
   have c1:=(hQ.cell (p:=⟨b,o1+k*2+1,none⟩) hb).trans d1
   have hlm:k<((zdm c ts).map ofC).length:=by rw[List.length_map,zhh];exact hlt
   have hT:Hid (zcd (((zdm c ts).map ofC).take (k+1))=zcd (((zdm c ts).map ofC).take k)++[.string ⟨(ze (ts[k].1*c)).toArray⟩,.string ⟨(Lib.itoa (ts[k].2:Int)).toArray⟩]):=LH (by
    rw[zpb hlm];simp only[List.getElem_map,zdm,ofC])
   have hget:(ts.map ofC).getD k ([],[])=ofC ts[k]:=by rw[List.getD_eq_getElem?_getD,List.getElem?_map,List.getElem?_eq_getElem hlt];rfl
   rw[hget]at c0 c1
   have HM:=LH (fun w hw=>zai ts[k].1 c (hts ts[k] (List.getElem_mem hlt)) bc (by decide) w hw)
   have HR:=LH hrow
   have HK:Hid (k+1≤ts.length):=LH hlt
   have lbr:b<wr.heap.size:=Nat.lt_of_lt_of_le hb hQ.size
   simp only[ofC]at c0 c1
   clear hget d0 d1 hc hlm hts hrow
   generalize zcd (((zdm c ts).map ofC).take k)=rk at *
   generalize ze (ts[k].1*c)=P at *
   generalize Lib.itoa (ts[k].2:Int)=L at *
   generalize ze ts[k].1=X at *
   generalize ze c=C at *
   rcases zlM HR.out with⟨hv0,-⟩|⟨g9,gc9,hv9⟩
   ·subst hv0
    have hq0:=hQ.alloc hQ.size (Obj.cells [.string ⟨X.toArray⟩,.string ⟨L.toArray⟩].toArray 84)
    have T:=Blk.new wr [.string ⟨X.toArray⟩,.string ⟨L.toArray⟩] 84
    go_wp2_with fail
    refine(HM.out _ (hE.q hq0)).mono ?_
    rintro e w3⟨rfl,hq3⟩
    have hQ3:=Q.trans hq0 hq3
    have T3:=T.keep hq3 T.lt
    have p1:=T3.cell 1
    have lt3:=T3.lt
    simp only[zs4,zs5]at p1
    have hown:=zi (HR.out.alloc (Obj.cells [.string ⟨X.toArray⟩,.string ⟨L.toArray⟩].toArray 84)) hq3
    have hnew:=Blk.new w3 [.string ⟨P.toArray⟩,.string ⟨L.toArray⟩] 84
    have hsz3:w.heap.size≤w3.heap.size:=hQ3.size
    have hkn:k≤1000:=by have:=HNN.out;omega
    have hown2:=hown.alloc (Obj.cells [.string ⟨P.toArray⟩,.string ⟨L.toArray⟩].toArray 84)
    clear c0 c1 hq3 hq0 T T3
    go_wp2_with (at_builtin;refine wpList_append_lies _ (by rfl) (.tmp 27) (.tmp 32) 45 (by rfl) w.heap.size 84 i0 _ 2 32 Tryz.underlying45 HI.out HZ.out HS.out HBy.out rfl (by decide) (.slice none 0 0) k rk (by rfl) hown2 ⟨w3.heap.size,0,none⟩ 1 1 [.string ⟨P.toArray⟩,.string ⟨L.toArray⟩] (by rfl) (by rfl) (World.news_of_block (cs:=#[.string ⟨P.toArray⟩,.string ⟨L.toArray⟩]) (t:=84) (fr:=(0,0)) hnew) (by simp[Value.oneCell']) (by decide) (by unfold maxLen;omega) (by omega) (by simp;omega) (w3.heap.size+1) (by simp) ?_;intro g4 cap4 w5 hown4 hgrow4 hat4 hlt4)
    go_roundw
    case rel =>
     exact⟨k+1,HK.out,by go_num,(hQ3.alloc hQ3.size _).grown hgrow4 (by simp;omega) (fun q hq=>(hown2.lt q hq).1),by rw[hT.out];exact hown4⟩
    case measure=>simp[intOf];omega
   ·subst hv9
    have hq0:=hQ.alloc hQ.size (Obj.cells [.string ⟨X.toArray⟩,.string ⟨L.toArray⟩].toArray 84)
    have T:=Blk.new wr [.string ⟨X.toArray⟩,.string ⟨L.toArray⟩] 84
    go_wp2_with fail
    refine(HM.out _ (hE.q hq0)).mono ?_
    rintro e w3⟨rfl,hq3⟩
    have hQ3:=Q.trans hq0 hq3
    have T3:=T.keep hq3 T.lt
    have p1:=T3.cell 1
    have lt3:=T3.lt
    simp only[zs4,zs5]at p1
    have hown:=zi (HR.out.alloc (Obj.cells [.string ⟨X.toArray⟩,.string ⟨L.toArray⟩].toArray 84)) hq3
    have hnew:=Blk.new w3 [.string ⟨P.toArray⟩,.string ⟨L.toArray⟩] 84
    have hsz3:w.heap.size≤w3.heap.size:=hQ3.size
    have hkn:k≤1000:=by have:=HNN.out;omega
    have hown2:=hown.alloc (Obj.cells [.string ⟨P.toArray⟩,.string ⟨L.toArray⟩].toArray 84)
    clear c0 c1 hq3 hq0 T T3
    go_wp2_with (at_builtin;refine wpList_append_lies _ (by rfl) (.tmp 27) (.tmp 32) 45 (by rfl) w.heap.size 84 i0 _ 2 32 Tryz.underlying45 HI.out HZ.out HS.out HBy.out rfl (by decide) (.slice (some ⟨g9,0,none⟩) k gc9) k rk (by rfl) hown2 ⟨w3.heap.size,0,none⟩ 1 1 [.string ⟨P.toArray⟩,.string ⟨L.toArray⟩] (by rfl) (by rfl) (World.news_of_block (cs:=#[.string ⟨P.toArray⟩,.string ⟨L.toArray⟩]) (t:=84) (fr:=(0,0)) hnew) (by simp[Value.oneCell']) (by decide) (by unfold maxLen;omega) (by omega) (by simp;omega) (w3.heap.size+1) (by simp) ?_;intro g4 cap4 w5 hown4 hgrow4 hat4 hlt4)
    go_roundw
    case rel =>
     exact⟨k+1,HK.out,by go_num,(hQ3.alloc hQ3.size _).grown hgrow4 (by simp;omega) (fun q hq=>(hown2.lt q hq).1),by rw[hT.out];exact hown4⟩
    case measure=>simp[intOf];omega
  ·obtain rfl:k=ts.length:=by omega
   rw[List.take_of_length_le (by rw[List.length_map,zhh];exact Nat.le_refl _)]at hrow
   clear hc hts
   go_wp2
   go_ret2
   exact⟨_,rfl,hQ,hrow⟩
end
section
open Go.RowKit Kp
open Go.Lib (decDigits)
theorem TSl.raise{w:World}{B B':Nat}{v:Value}{l:List (Str × Str)}(h:TSl w B v l)(h1:B≤B')(h2:B'≤w.heap.size):TSl w B' v l:=by
 obtain⟨a,cap,rfl,-,hc⟩:=h
 refine⟨a,cap,rfl,h2,fun i hi=>?_⟩
 obtain⟨b,o,ha,hb,c0,c1⟩:=hc i hi
 exact⟨b,o,ha,by omega,c0,c1⟩
theorem zgs{w:World}{base n:Nat}{t:TypeId}{v:Value}{xs:List Value}(h:w.ownsRow base t 2 v n xs):∃ a cap,v=.slice a n cap:=by
 rcases h.2 with⟨hv,h0⟩|⟨g,cap,cur,hv,_⟩
 ·exact⟨none,0,by rw[hv,h0]⟩
 ·exact⟨some ⟨g,0,none⟩,cap,hv⟩
theorem zpo(cs:List (Rat × Nat))(c:Rat × Nat):zeK (cs++[c])=if c.1=0 then zeK cs else zeK cs++[c]:=by
 unfold zeK
 rw[List.filter_append]
 by_cases h:c.1=0
 ·rw[if_pos h];simp[h]
 ·rw[if_neg h];simp[h]
theorem zir(cs:List (Rat × Nat)):(zeK cs).length≤cs.length:=List.length_filter_le ..
def Sorts(l r:List (Rat × Nat)):Prop:=∀ (base:Nat) (W:World) (o:Value),Env W→ng≤base→W.ownsRow base 84 2 o (l.map ofC).length (zcd (l.map ofC)) →
 Calls Tryz.prog 85 #[o,.func (.func 86) #[] #[]] W fun e W'=>(∃ u,e=.returned u)∧Below base W W'∧W'.ownsRow base 84 2 o (l.map ofC).length (zcd (r.map ofC))
theorem zjD(ts:List (Rat × Rat))(hts:∀ t∈ts,VT t)(hcs:∀ k,k≤ts.length→∀ c∈zh5 (ts.take k),CB c)(hlen:ts.length≤16)(hlim:∀ c∈zh5 ts,za5 c.1≤60∧za5 (c.2:Rat)≤40)(r:List (Rat × Nat))(hrl:r.length=(zeK (zh5 ts)).length)(hsort:Sorts (zeK (zh5 ts)) r)
  (v:Value)(w:World)(hE:Env w)(hsl:TSl w w.heap.size v (ts.map ofT)) :
  Calls Tryz.prog 38 #[v] w fun e w'=>∃ v',e=.returned (.tuple #[v',.int .i64 0])∧Q w w'∧w'.ownsRow w.heap.size 84 2 v' (r.map ofC).length (zcd (r.map ofC)):=by
 have HSL:=LH hsl
 obtain⟨a,cap,rfl,-,hc⟩:=hsl
 rw[List.length_map]at hc
 rw[List.length_map,List.length_map,hrl]
 have HV:=LH (fun G v w hw hng hs hg=>ziC ts hts hcs (by omega) G v w hw hng hs hg)
 have hcb:=hcs ts.length (Nat.le_refl _)
 rw[List.take_length]at hcb
 have hcl:=znE ts
 have HCK:=LH (fun k (hk:k<ts.length)=>hts ts[k] (List.getElem_mem hk))
 have hng:ng≤w.heap.size:=hE.size
 obtain⟨i0,hi,hz0,hz1,hz2⟩:=zbs zcu
 have HI:=LH hi
 have HZ:=LH hz0
 have HS:=LH hz1
 have HB:=LH hz2
 clear hi hz0 hz1 hz2 hts hcs
 have hnl:(ts.length:Int)≤16:=by omega
 have hcapl:(.slice a (ts.map ofT).length cap:Value)=.slice a ts.length cap:=by rw[List.length_map]
 rw[hcapl]at HSL
 have HSRT:=LH hsort
 generalize zh5 ts=cs at *
 clear hcapl hsort
 go_enter Tryz.func38,Tryz.ntmps38
 go_wp2
 go_loopw [18] (fun i wr=>∃ k:Nat,k≤ts.length∧i=.int .i64 k∧Q w wr) (fun i _=>ts.length - (intOf i).toNat)
 case atStart=>exact⟨0,by omega,rfl,Below.refl _ _⟩
 case round =>
  obtain⟨k,hk,rfl,hQ⟩:=hrel
  by_cases hlt:k<ts.length
  ·obtain⟨b,o,ha,hb,d0,d1⟩:=hc k hlt
   subst ha
   have c0:=(hQ.cell (p:=⟨b,o+k*2,none⟩) hb).trans d0
   have c1:=(hQ.cell (p:=⟨b,o+k*2+1,none⟩) hb).trans d1
   have hget:(ts.map ofT).getD k ([],[])=ofT ts[k]:=by rw[List.getD_eq_getElem?_getD,List.getElem?_map,List.getElem?_eq_getElem hlt];rfl
   rw[hget]at c0 c1
   have hvt:=HCK.out k hlt
   have lbr:=Nat.lt_of_lt_of_le hb hQ.size
   have HK:Hid (k+1≤ts.length):=LH hlt
   clear hget d0 d1 hc HV HSRT HSL HCK
   generalize ts[k]=t at *
   obtain⟨c,q⟩:=t
   simp only[ofT]at c0 c1
   obtain⟨-,bc,hp,br,-⟩:=hvt
   simp only at bc hp br
   have hneg:decide ((ze q).head? = some 45)=false:=by rw[decide_eq_false_iff_not,zbG];omega
   have HN:=LH hneg
   have HC1:=LH (fun w hw=>zw c (bc.zav (by decide)) w hw)
   have HC2:=LH (fun w hw=>zw q (br.zav (by decide)) w hw)
   clear hneg bc hp br
   generalize ze c=C at *
   generalize ze q=R at *
   go_wp2_with fail
   have hq0:Q w (wr.alloc (Obj.cells [.string ⟨C.toArray⟩,.string ⟨R.toArray⟩].toArray 84)):=hQ.alloc hQ.size _
   have BT:=Blk.new wr [.string ⟨C.toArray⟩,.string ⟨R.toArray⟩] 84
   refine(HC1.out _ (hE.q hq0)).mono ?_
   rintro e w1⟨rfl,hq1⟩
   have hQ1:=Q.trans hq0 hq1
   have B1:=BT.keep hq1 BT.lt
   have d1:=B1.cell 1
   simp only[zs4,zs5]at d1
   clear hq1 hq0 BT c0 c1
   go_wp2_with fail
   refine(HC2.out _ (hE.q hQ1)).mono ?_
   rintro e w2⟨rfl,hq2⟩
   have hQ2:=Q.trans hQ1 hq2
   have B2:=B1.keep hq2 B1.lt
   have d2:=B2.cell 1
   simp only[zs4,zs5]at d2
   clear hq2 hQ1 B1 d1
   go_wp2_with fail
   refine(zL _ _).mono ?_
   rintro e w3⟨rfl,rfl⟩
   rw[HN.out]
   go_wp2
   go_roundw
   case rel=>exact⟨k+1,HK.out,by go_num,hQ2⟩
   case measure=>simp[intOf];omega
  ·obtain rfl:k=ts.length:=by omega
   clear hc HCK
   go_wp2_with fail
   have hsz:=hQ.size
   have hG:=Blk.new wr [Value.slice none 0 0] 144
   have hQa:=hQ.alloc hQ.size (Obj.cells #[Value.slice none 0 0] 144)
   have hs2:TSl (wr.alloc (Obj.cells #[Value.slice none 0 0] 144)) wr.heap.size (.slice a ts.length cap) (ts.map ofT):=(HSL.out.keep hQa (Nat.le_refl _)).raise hsz (by simp)
   refine(HV.out wr.heap.size _ _ (hE.q hQa) (by omega) hs2 (znm.start hG)).mono ?_
   rintro e w1⟨rfl,hB1,gv,hgb,hgn,hgr⟩
   have hQ1:Q w w1:=Below.trans hQa (hB1.mono hQ.size)
   have g0:=hgb.cell 0
   simp only[List.getElem?_cons_zero]at g0
   have HGR:=LH hgr
   rw[List.length_map]at hgr
   obtain⟨ga,gcap,rfl⟩:=zgs hgr
   have lgb:=hgb.lt
   clear hgn hs2 hG hQa HV HSL
   have hcsl:(cs.length:Int)≤16:=by omega
   have HGS:=LH (TSl.of_row HGR.out)
   go_wp2
   go_loopw [10,47] (fun o i wr2=>∃ k:Nat,k≤cs.length∧i=.int .i64 k∧Q w1 wr2∧wr2.ownsRow w1.heap.size 84 2 o (zeK (cs.take k)).length (zcd ((zeK (cs.take k)).map ofC))) (fun _ i _=>cs.length - (intOf i).toNat)
   case atStart=>exact⟨0,by omega,rfl,Q.refl _,World.ownsRow_nil _ _ _ _⟩
   case round =>
    obtain⟨k,hk,rfl,hQ2,hrow⟩:=hrel
    by_cases hlt:k<cs.length
    ·obtain⟨a',cap',hv',hB',hcc⟩:=HGS.out.keep hQ2 (Nat.le_refl _)
     simp only[Value.slice.injEq]at hv'
     obtain⟨rfl,-,-⟩:=hv'
     obtain⟨b,o1,ha,hb,c0,c1⟩:=hcc k (by rw[List.length_map];exact hlt)
     subst ha
     have hget:(cs.map ofC).getD k ([],[])=ofC cs[k]:=by rw[List.getD_eq_getElem?_getD,List.getElem?_map,List.getElem?_eq_getElem hlt];rfl
     rw[hget]at c0 c1
     have hcb1:=hcb cs[k] (List.getElem_mem hlt)
     have hlm1:=hlim cs[k] (List.getElem_mem hlt)
     have htk:cs.take (k+1)=cs.take k++[cs[k]]:=List.take_succ_eq_append_getElem hlt
     have HOUT:Hid (zeK (cs.take (k+1))=if (cs[k]).1=0 then zeK (cs.take k)else zeK (cs.take k)++[cs[k]]):=LH (by rw[htk,zpo])
     have HK:Hid (k+1≤cs.length):=LH hlt
     have lbr:=Nat.lt_of_lt_of_le hb hQ2.size
     have hol:(zeK (cs.take k)).length≤16:=by
      have h1:=zir (cs.take k)
      have h2:(cs.take k).length≤cs.length:=by rw[List.length_take];omega
      omega
     clear hget hcc htk
     generalize cs[k]=c at *
     obtain⟨x,l⟩:=c
     simp only[ofC]at c0 c1 HOUT hlm1
     obtain⟨bx,hl0,hl1⟩:=hcb1
     simp only at bx hl0 hl1
     generalize zeK (cs.take k)=ok at *
     by_cases hx0:x=0
     ·have hz:(ze x == [48])=true:=by rw[hx0,zah];rfl
      have HOK:Hid (zeK (cs.take (k+1))=ok):=LH (by rw[HOUT.out,if_pos hx0])
      clear HOUT hx0 bx
      go_wp2
      go_roundw
      case rel=>exact⟨k+1,HK.out,by go_num,hQ2.alloc hQ2.size _,by rw[HOK.out];exact hrow.alloc _⟩
      case measure=>simp[intOf];omega
     ·have hz:(ze x == [48])=false:=by
       rw[beq_eq_false_iff_ne,← zah];exact fun h=>hx0 (zaJ h)
      have HOK:Hid (zeK (cs.take (k+1))=ok++[(x,l)]):=LH (by rw[HOUT.out,if_neg hx0])
      have hV0:=zV (l:Rat)
      have hU0:=zV x
      obtain⟨hU1,hV1⟩:=hlm1
      have bl:Bd 80 (l:Rat):=CB.root (c:=(x,l)) ⟨bx,hl0,hl1⟩
      have HL1:=LH (fun w hw=>zW x (bx.zav (by decide)) w hw)
      have hl2:=fun w hw=>zW (l:Rat) (bl.zav (by decide)) w hw
      rw[zaO]at hl2
      have HL2:=LH hl2
      clear hl2 HOUT hx0 bx hl0 hl1 bl
      have HAPP:Hid (zcd ((zeK (cs.take (k+1))).map ofC)=zcd (ok.map ofC)++[.string ⟨(ze x).toArray⟩,.string ⟨(Lib.itoa (l:Int)).toArray⟩]∧(zeK (cs.take (k+1))).length=ok.length+1):=LH (by
       rw[HOK.out,List.map_append,ziq,List.length_append];exact⟨rfl,rfl⟩)
      clear HOK
      generalize za5 x=vx at *
      generalize za5 (l:Rat)=vl at *
      generalize zcd (ok.map ofC)=rk at *
      generalize ok.length=nk at *
      generalize ze x=X at *
      generalize Lib.itoa (l:Int)=L at *
      rcases zlM hrow with⟨hv0,-⟩|⟨g9,gc9,hv9⟩
      ·subst hv0
       go_wp2_with fail
       have BT:=Blk.new wr [.string ⟨X.toArray⟩,.string ⟨L.toArray⟩] 148
       have hq0:=hQ2.alloc hQ2.size (Obj.cells [.string ⟨X.toArray⟩,.string ⟨L.toArray⟩].toArray 148)
       refine(HL1.out _ (hE.q (Q.trans hQ1 hq0))).mono ?_
       rintro e w2⟨rfl,hq2⟩
       have hQ3:=Q.trans hq0 hq2
       have B2:=BT.keep hq2 BT.lt
       have d1:=B2.cell 1
       simp only[zs4,zs5]at d1
       have hrow2:=zi (hrow.alloc (Obj.cells [.string ⟨X.toArray⟩,.string ⟨L.toArray⟩].toArray 148)) hq2
       clear hq0 hq2 BT c0 c1 hrow
       go_wp2_with fail
       refine(HL2.out _ (hE.q (Q.trans hQ1 hQ3))).mono ?_
       rintro e w3⟨rfl,hq3⟩
       have hQ4:=Q.trans hQ3 hq3
       have B3:=B2.keep hq3 B2.lt
       have d0:=B3.cell 0
       have d2:=B3.cell 1
       simp only[zs4,zs5]at d0 d2
       have hrow3:=(zi hrow2 hq3).alloc (Obj.cells [.string ⟨X.toArray⟩,.string ⟨L.toArray⟩].toArray 84)
       clear hQ3 hq3 B2 d1 hrow2
       have hnew:=Blk.new w3 [.string ⟨X.toArray⟩,.string ⟨L.toArray⟩] 84
       have hsz3:w1.heap.size≤w3.heap.size:=hQ4.size
       go_wp2_with (at_builtin;refine wpList_append_lies _ (by rfl) (.tmp 64) (.tmp 70) 46 (by rfl) w1.heap.size 84 i0 _ 2 32 Tryz.underlying46 HI.out HZ.out HS.out HB.out rfl (by decide) (.slice none 0 0) nk rk (by rfl) hrow3 ⟨w3.heap.size,0,none⟩ 1 1 [.string ⟨X.toArray⟩,.string ⟨L.toArray⟩] (by rfl) (by rfl) (World.news_of_block (cs:=#[.string ⟨X.toArray⟩,.string ⟨L.toArray⟩]) (t:=84) (fr:=(0,0)) hnew) (by simp[Value.oneCell']) (by decide) (by unfold maxLen;omega) (by omega) (by simp;omega) (w3.heap.size+1) (by simp) ?_;intro g4 cap4 w4 hown4 hgrow4 hat4 hlt4)
       go_roundw
       case rel =>
        exact⟨k+1,HK.out,by go_num,(hQ4.alloc hQ4.size _).grown hgrow4 (by simp;omega) (fun q hq=>(hrow3.lt q hq).1),by rw[HAPP.out.1,HAPP.out.2];exact hown4⟩
       case measure=>simp[intOf];omega
      ·subst hv9
       go_wp2_with fail
       have BT:=Blk.new wr [.string ⟨X.toArray⟩,.string ⟨L.toArray⟩] 148
       have hq0:=hQ2.alloc hQ2.size (Obj.cells [.string ⟨X.toArray⟩,.string ⟨L.toArray⟩].toArray 148)
       refine(HL1.out _ (hE.q (Q.trans hQ1 hq0))).mono ?_
       rintro e w2⟨rfl,hq2⟩
       have hQ3:=Q.trans hq0 hq2
       have B2:=BT.keep hq2 BT.lt
       have d1:=B2.cell 1
       simp only[zs4,zs5]at d1
       have hrow2:=zi (hrow.alloc (Obj.cells [.string ⟨X.toArray⟩,.string ⟨L.toArray⟩].toArray 148)) hq2
       clear hq0 hq2 BT c0 c1 hrow
       go_wp2_with fail
       refine(HL2.out _ (hE.q (Q.trans hQ1 hQ3))).mono ?_
       rintro e w3⟨rfl,hq3⟩
       have hQ4:=Q.trans hQ3 hq3
       have B3:=B2.keep hq3 B2.lt
       have d0:=B3.cell 0
       have d2:=B3.cell 1
       simp only[zs4,zs5]at d0 d2
       have hrow3:=(zi hrow2 hq3).alloc (Obj.cells [.string ⟨X.toArray⟩,.string ⟨L.toArray⟩].toArray 84)
       clear hQ3 hq3 B2 d1 hrow2
       have hnew:=Blk.new w3 [.string ⟨X.toArray⟩,.string ⟨L.toArray⟩] 84
       have hsz3:w1.heap.size≤w3.heap.size:=hQ4.size
       go_wp2_with (at_builtin;refine wpList_append_lies _ (by rfl) (.tmp 64) (.tmp 70) 46 (by rfl) w1.heap.size 84 i0 _ 2 32 Tryz.underlying46 HI.out HZ.out HS.out HB.out rfl (by decide) (.slice (some ⟨g9,0,none⟩) nk gc9) nk rk (by rfl) hrow3 ⟨w3.heap.size,0,none⟩ 1 1 [.string ⟨X.toArray⟩,.string ⟨L.toArray⟩] (by rfl) (by rfl) (World.news_of_block (cs:=#[.string ⟨X.toArray⟩,.string ⟨L.toArray⟩]) (t:=84) (fr:=(0,0)) hnew) (by simp[Value.oneCell']) (by decide) (by unfold maxLen;omega) (by omega) (by simp;omega) (w3.heap.size+1) (by simp) ?_;intro g4 cap4 w4 hown4 hgrow4 hat4 hlt4)
       go_roundw
       case rel =>
        exact⟨k+1,HK.out,by go_num,(hQ4.alloc hQ4.size _).grown hgrow4 (by simp;omega) (fun q hq=>(hrow3.lt q hq).1),by rw[HAPP.out.1,HAPP.out.2];exact hown4⟩
       case measure=>simp[intOf];omega
    ·obtain rfl:k=cs.length:=by omega
     rw[List.take_length]at hrow
     have hol:(zeK cs).length≤16:=by have h1:=zir cs;omega
     have hsq:=HSRT.out w1.heap.size wr _ (hE.q (Q.trans hQ1 hQ2)) (Nat.le_trans hng hQ1.size) (by rw[List.length_map];exact hrow)
     rw[List.length_map]at hsq
     have HSQ:=LH hsq
     obtain⟨oa,ocap,rfl⟩:=zgs hrow
     clear hsq HSRT hrow HGS HGR hgr hcb hlim
     have hno:((zeK cs).length:Int)≤16:=by omega
     go_wp2_with fail
     refine HSQ.out.mono ?_
     rintro e w2⟨⟨u,rfl⟩,hb2,hown2⟩
     have hQ5:Q w w2:=Below.trans (Q.trans hQ1 hQ2) (hb2.mono hQ1.size)
     go_wp2
     go_ret2
     exact⟨_,rfl,hQ5,Joins.ownsRow_le hown2 hQ1.size⟩
end
section
open Go.RowKit Kp
open Go.Lib (decDigits)
theorem zqv(s1 s2:Str)(l m:Nat)(hl:lim (l:Int)=false)(hm:lim (m:Int)=false)(w:World)(hE:Env w) :
  Calls Tryz.prog 86 #[.agg #[.string ⟨s1.toArray⟩,.string ⟨(Lib.itoa (l:Int)).toArray⟩],.agg #[.string ⟨s2.toArray⟩,.string ⟨(Lib.itoa (m:Int)).toArray⟩]] w fun e w'=>e=.returned (.int .i64 (Lib.compareInt l m))∧Q w w':=by
 have HC:=LH (fun w hw=>zc6 l m hl hm w hw)
 generalize Lib.itoa (l:Int)=L at *
 generalize Lib.itoa (m:Int)=M at *
 generalize Lib.compareInt (l:Int) (m:Int)=c at *
 go_enter Tryz.func86,Tryz.ntmps86
 go_wp2_with fail
 have C1:=(Blk.new w [.string ⟨s1.toArray⟩,.string ⟨L.toArray⟩] 84).alloc (.cells #[.string ⟨s2.toArray⟩,.string ⟨M.toArray⟩] 84)
 refine(HC.out _ (hE.q bt)).mono ?_
 rintro e w1⟨rfl,hq1⟩
 have hQ1:Q w w1:=Q.trans (show Below w.heap.size w _ from bt) hq1
 go_wp2
 go_ret
 exact⟨rfl,hQ1⟩
theorem zlk(s1 s2:Str)(l m:Nat)(hl:lim (l:Int)=false)(hm:lim (m:Int)=false)(base g cap:Nat)(w:World)(hE:Env w)(_hng:ng≤base)
  (hr:w.ownsRow base 84 2 (.slice (some ⟨g,0,none⟩) 2 cap) 2 [.string ⟨s1.toArray⟩,.string ⟨(Lib.itoa (l:Int)).toArray⟩,.string ⟨s2.toArray⟩,.string ⟨(Lib.itoa (m:Int)).toArray⟩]) :
  Calls Tryz.prog 196 #[.slice (some ⟨g,0,none⟩) 2 cap,.int .i64 0,.int .i64 2,.func (.func 86) #[] #[]] w fun e w'=>(∃ v,e=.returned v)∧Below base w w' ∧
   w'.ownsRow base 84 2 (.slice (some ⟨g,0,none⟩) 2 cap) 2 (if m<l then [.string ⟨s2.toArray⟩,.string ⟨(Lib.itoa (m:Int)).toArray⟩,.string ⟨s1.toArray⟩,.string ⟨(Lib.itoa (l:Int)).toArray⟩]else [.string ⟨s1.toArray⟩,.string ⟨(Lib.itoa (l:Int)).toArray⟩,.string ⟨s2.toArray⟩,.string ⟨(Lib.itoa (m:Int)).toArray⟩]):=by
 obtain⟨g',cap',hv,hbg,hgw⟩:=hr.form (by decide)
 cases hv
 have HCMP:=LH (fun w hw=>zqv s2 s1 m l hm hl w hw)
 have hcmp:(m<l∧Lib.compareInt (m:Int) (l:Int) = -1)∨(¬ m<l∧0≤Lib.compareInt (m:Int) (l:Int)):=by
  unfold Lib.compareInt
  by_cases h:m<l
  ·exact .inl ⟨h,by rw[if_pos (by omega)]⟩
  ·exact .inr ⟨h,by rw[if_neg (by omega)];split <;> decide⟩
 generalize Lib.compareInt (m:Int) (l:Int)=c at *
 have hro:=hr
 generalize Lib.itoa (l:Int)=L at *
 generalize Lib.itoa (m:Int)=M at *
 have c0:w.drew.cell? ⟨g,0,none⟩=some (.string ⟨s1.toArray⟩):=hr.cellAt 0 (by decide)
 have c1:w.drew.cell? ⟨g,1,none⟩=some (.string ⟨L.toArray⟩):=hr.cellAt 1 (by decide)
 have c2:w.drew.cell? ⟨g,2,none⟩=some (.string ⟨s2.toArray⟩):=hr.cellAt 2 (by decide)
 have c3:w.drew.cell? ⟨g,3,none⟩=some (.string ⟨M.toArray⟩):=hr.cellAt 3 (by decide)
 obtain⟨R,hR⟩:∃ R:List Value,(if m<l then [.string ⟨s2.toArray⟩,.string ⟨M.toArray⟩,.string ⟨s1.toArray⟩,.string ⟨L.toArray⟩]else [.string ⟨s1.toArray⟩,.string ⟨L.toArray⟩,.string ⟨s2.toArray⟩,.string ⟨M.toArray⟩])=R:=⟨_,rfl⟩
 rw[hR]
 have HRR:=LH hR
 have hw0:IntKind.i64.wrap 0=0:=by decide
 have hw1:IntKind.i64.wrap 1=1:=by decide
 clear hR hl hm
 go_enter Tryz.func196,Tryz.ntmps196
 go_wp2
 go_loopw [8] (fun i wr=>(i=.int .i64 1∧wr=w)∨(i=.int .i64 2∧Below base w wr∧wr.ownsRow base 84 2 (.slice (some ⟨g,0,none⟩) 2 cap) 2 R)) (fun i _=>2 - (intOf i).toNat)
 case atStart=>exact .inl ⟨rfl,rfl⟩
 case round =>
  rcases hrel with⟨rfl,rfl⟩|⟨rfl,hB,hrow⟩
  ·go_wp2
   go_loopw [9] (fun j wr2=>(j=.int .i64 1∧wr2=wr)∨(j=.int .i64 0∧Below base wr wr2∧wr2.ownsRow base 84 2 (.slice (some ⟨g,0,none⟩) 2 cap) 2 R)) (fun j _=>(intOf j).toNat)
   case atStart=>exact .inl ⟨rfl,rfl⟩
   case round =>
    rcases hrel with⟨rfl,rfl⟩|⟨rfl,hB,hrow⟩
    ·rcases hcmp with⟨hlt,rfl⟩|⟨hlt,hc0⟩
     ·go_wp2_with fail
      refine zm 17 rfl (by kernel_rfl) rfl ?_
      refine svp 0 ?_
      refine svp 1 ?_
      refine svp 2 ?_
      refine svp 3 ?_
      refine svp 4 ?_
      refine svp 5 ?_
      refine svp 6 ?_
      refine svp 7 ?_
      refine svq 8 rfl (by intro w' hq;have hc0:=za hq c2;have hc1:=za hq c3;go_simp;try with_reducible rfl) ?_
      refine svp 9 ?_
      refine svp 10 ?_
      refine svp 11 ?_
      refine svp 12 ?_
      refine svq 13 rfl (by intro w' hq;have hc0:=za hq c0;have hc1:=za hq c1;go_simp;try with_reducible rfl) ?_
      refine zf (i:=14) (v:=_) rfl rfl (by kernel_rfl) (by kernel_rfl) (fun _ _ _ h=>h) (by rfl) ?_ (fun w' hq=>HCMP.out w' (hE.q (Below.trans (Below.drew (Q.refl _)) hq))) ?_
      ·(intro w' hq;go_simp;try with_reducible rfl)
      simp only[Act.put,zs1,zs2,zs3]
      refine svp 15 ?_
      refine svp 16 ?_
      refine zh (by kernel_rfl) (fun w3 hq3=>?_)
      simp only[List.drop_succ_cons,List.drop_nil]
      have hQ3:Q wr w3:=Below.trans (Below.drew (Q.refl _)) hq3
      have hr3:=(zi hro hQ3).drew
      have k0:=hr3.cellAt 0 (by decide)
      have k1:=hr3.cellAt 1 (by decide)
      have k2:=hr3.cellAt 2 (by decide)
      have k3:=hr3.cellAt 3 (by decide)
      have f0:=hr3.frozenAt 0
      have f1:=hr3.frozenAt 1
      have f2:=hr3.frozenAt 2
      have f3:=hr3.frozenAt 3
      simp only[zs4,zs5]at k0 k1 k2 k3
      have hr3':=zi hro hQ3
      have k0':=hr3'.cellAt 0 (by decide)
      have k1':=hr3'.cellAt 1 (by decide)
      have k2':=hr3'.cellAt 2 (by decide)
      have k3':=hr3'.cellAt 3 (by decide)
      have f0':=hr3'.frozenAt 0
      have f1':=hr3'.frozenAt 1
      have f2':=hr3'.frozenAt 2
      have f3':=hr3'.frozenAt 3
      simp only[zs4,zs5]at k0' k1' k2' k3'
      have hr4:=((((hr3.stored 2 (.string ⟨s1.toArray⟩)).1.stored 3 (.string ⟨L.toArray⟩)).1.stored 0 (.string ⟨s2.toArray⟩)).1.stored 1 (.string ⟨M.toArray⟩)).1
      have HR4:Hid ((((w3.drew.setCell ⟨g,2,none⟩ (.string ⟨s1.toArray⟩)).setCell ⟨g,3,none⟩ (.string ⟨L.toArray⟩)).setCell ⟨g,0,none⟩ (.string ⟨s2.toArray⟩)).setCell ⟨g,1,none⟩ (.string ⟨M.toArray⟩) |>.ownsRow base 84 2 (.slice (some ⟨g,0,none⟩) 2 cap) 2 R):=LH (by
       rw[← HRR.out,if_pos hlt];exact hr4)
      have hB3:Below base wr w3.drew:=(hQ3.mono (Nat.le_of_lt (Nat.lt_of_le_of_lt hbg hgw))).drew
      have HB4:Hid (Below base wr ((((w3.drew.setCell ⟨g,2,none⟩ (.string ⟨s1.toArray⟩)).setCell ⟨g,3,none⟩ (.string ⟨L.toArray⟩)).setCell ⟨g,0,none⟩ (.string ⟨s2.toArray⟩)).setCell ⟨g,1,none⟩ (.string ⟨M.toArray⟩))) :=
       LH ((((hB3.setCell (p:=⟨g,2,none⟩) hbg _).setCell (p:=⟨g,3,none⟩) hbg _).setCell (p:=⟨g,0,none⟩) hbg _).setCell (p:=⟨g,1,none⟩) hbg _)
      clear hr3 hr3' hr4 hB3 hQ3 hq3 c0 c1 c2 c3 HCMP hlt
      go_wp2_with fail
      go_big_region
      all_goals go_wp2
      go_roundw
      case rel=>exact .inr ⟨rfl,HB4.out,HR4.out⟩
      case measure=>simp[intOf]
     ·have hRe:Hid (R=[.string ⟨s1.toArray⟩,.string ⟨L.toArray⟩,.string ⟨s2.toArray⟩,.string ⟨M.toArray⟩]):=LH (by rw[← HRR.out,if_neg hlt])
      have hcn:¬ c<0:=by omega
      clear hlt
      go_wp2_with fail
      refine zm 17 rfl (by kernel_rfl) rfl ?_
      refine svp 0 ?_
      refine svp 1 ?_
      refine svp 2 ?_
      refine svp 3 ?_
      refine svp 4 ?_
      refine svp 5 ?_
      refine svp 6 ?_
      refine svp 7 ?_
      refine svq 8 rfl (by intro w' hq;have hc0:=za hq c2;have hc1:=za hq c3;go_simp;try with_reducible rfl) ?_
      refine svp 9 ?_
      refine svp 10 ?_
      refine svp 11 ?_
      refine svp 12 ?_
      refine svq 13 rfl (by intro w' hq;have hc0:=za hq c0;have hc1:=za hq c1;go_simp;try with_reducible rfl) ?_
      refine zf (i:=14) (v:=_) rfl rfl (by kernel_rfl) (by kernel_rfl) (fun _ _ _ h=>h) (by rfl) ?_ (fun w' hq=>HCMP.out w' (hE.q (Below.trans (Below.drew (Q.refl _)) hq))) ?_
      ·(intro w' hq;go_simp;try with_reducible rfl)
      simp only[Act.put,zs1,zs2,zs3]
      refine svp 15 ?_
      refine svp 16 ?_
      refine zh (by kernel_rfl) (fun w3 hq3=>?_)
      simp only[List.drop_succ_cons,List.drop_nil]
      have hQ3:Q wr w3:=Below.trans (Below.drew (Q.refl _)) hq3
      have hr3:=zi hro hQ3
      have hB3:Below base wr w3:=hQ3.mono (Nat.le_of_lt (Nat.lt_of_le_of_lt hbg hgw))
      clear c0 c1 c2 c3 HCMP
      go_wp2
      go_roundw
      case rel=>exact .inr ⟨rfl,hB3,by rw[hRe.out];exact hr3⟩
      case measure=>simp[intOf]
    ·clear c0 c1 c2 c3 HCMP
     go_wp2_with fail
     refine zm 17 rfl (by kernel_rfl) rfl ?_
     refine svp 0 ?_
     refine svp 1 ?_
     refine svp 2 ?_
     refine svp 3 ?_
     refine svi 4 ?_
     refine svi 5 ?_
     refine svi 6 ?_
     refine svi 7 ?_
     refine svi 8 ?_
     refine svi 9 ?_
     refine svi 10 ?_
     refine svi 11 ?_
     refine svi 12 ?_
     refine svi 13 ?_
     refine svi 14 ?_
     refine svi 15 ?_
     refine svp 16 ?_
     refine zh (by kernel_rfl) (fun w3 hq3=>?_)
     simp only[List.drop_succ_cons,List.drop_nil]
     have hQ3:Q wr w3:=Below.trans (Below.drew (Q.refl _)) hq3
     have hr3:=zi hrow hQ3
     have hB3:=hB.trans (hQ3.mono (by have h2:=hB.size;omega))
     go_wp2
     go_roundw
     case rel=>exact .inr ⟨rfl,hB3,hr3⟩
     case measure=>simp[intOf]
  ·go_wp2
   go_end0
   exact⟨⟨_,rfl⟩,hB,hrow⟩
theorem zmY(s1 s2:Str)(l m:Nat)(hl:lim (l:Int)=false)(hm:lim (m:Int)=false)(base g cap:Nat)(k:Int)(w:World)(hE:Env w)(hng:ng≤base)
  (hr:w.ownsRow base 84 2 (.slice (some ⟨g,0,none⟩) 2 cap) 2 [.string ⟨s1.toArray⟩,.string ⟨(Lib.itoa (l:Int)).toArray⟩,.string ⟨s2.toArray⟩,.string ⟨(Lib.itoa (m:Int)).toArray⟩]) :
  Calls Tryz.prog 141 #[.slice (some ⟨g,0,none⟩) 2 cap,.int .i64 0,.int .i64 2,.int .i64 k,.func (.func 86) #[] #[]] w fun e w'=>(∃ v,e=.returned v)∧Below base w w' ∧
   w'.ownsRow base 84 2 (.slice (some ⟨g,0,none⟩) 2 cap) 2 (if m<l then [.string ⟨s2.toArray⟩,.string ⟨(Lib.itoa (m:Int)).toArray⟩,.string ⟨s1.toArray⟩,.string ⟨(Lib.itoa (l:Int)).toArray⟩]else [.string ⟨s1.toArray⟩,.string ⟨(Lib.itoa (l:Int)).toArray⟩,.string ⟨s2.toArray⟩,.string ⟨(Lib.itoa (m:Int)).toArray⟩]):=by
 have HI:=LH (zlk s1 s2 l m hl hm base g cap w hE hng hr)
 generalize (if m<l then [Value.string ⟨s2.toArray⟩,.string ⟨(Lib.itoa (m:Int)).toArray⟩,.string ⟨s1.toArray⟩,.string ⟨(Lib.itoa (l:Int)).toArray⟩]else [.string ⟨s1.toArray⟩,.string ⟨(Lib.itoa (l:Int)).toArray⟩,.string ⟨s2.toArray⟩,.string ⟨(Lib.itoa (m:Int)).toArray⟩])=R at *
 clear hr hl hm
 go_enter Tryz.func141,Tryz.ntmps141
 go_wp2
 go_loop [1,2,3] (fun x y _=>x=.int .i64 0∧y=.int .i64 2) (fun _ _ _=>0)
 case atStart=>exact⟨rfl,rfl⟩
 case round =>
  obtain⟨rfl,rfl⟩:=hrel
  go_wp2_with fail
  refine HI.out.mono ?_
  rintro e w1⟨⟨v,rfl⟩,hb,hr⟩
  go_wp2
  (try simp only[Exit.inBlock,Exit.then])
  refine bodyPost_ret (results_none rfl _ _ _) rfl ?_
  exact⟨⟨_,rfl⟩,hb,hr⟩
theorem zlI(s1 s2:Str)(l m:Nat)(hl:lim (l:Int)=false)(hm:lim (m:Int)=false)(base g cap:Nat)(w:World)(hE:Env w)(hng:ng≤base)
  (hr:w.ownsRow base 84 2 (.slice (some ⟨g,0,none⟩) 2 cap) 2 [.string ⟨s1.toArray⟩,.string ⟨(Lib.itoa (l:Int)).toArray⟩,.string ⟨s2.toArray⟩,.string ⟨(Lib.itoa (m:Int)).toArray⟩]) :
  Calls Tryz.prog 85 #[.slice (some ⟨g,0,none⟩) 2 cap,.func (.func 86) #[] #[]] w fun e w'=>(∃ v,e=.returned v)∧Below base w w' ∧
   w'.ownsRow base 84 2 (.slice (some ⟨g,0,none⟩) 2 cap) 2 (if m<l then [.string ⟨s2.toArray⟩,.string ⟨(Lib.itoa (m:Int)).toArray⟩,.string ⟨s1.toArray⟩,.string ⟨(Lib.itoa (l:Int)).toArray⟩]else [.string ⟨s1.toArray⟩,.string ⟨(Lib.itoa (l:Int)).toArray⟩,.string ⟨s2.toArray⟩,.string ⟨(Lib.itoa (m:Int)).toArray⟩]):=by
 have HI:=LH (fun k=>zmY s1 s2 l m hl hm base g cap k w hE hng hr)
 generalize (if m<l then [Value.string ⟨s2.toArray⟩,.string ⟨(Lib.itoa (m:Int)).toArray⟩,.string ⟨s1.toArray⟩,.string ⟨(Lib.itoa (l:Int)).toArray⟩]else [.string ⟨s1.toArray⟩,.string ⟨(Lib.itoa (l:Int)).toArray⟩,.string ⟨s2.toArray⟩,.string ⟨(Lib.itoa (m:Int)).toArray⟩])=R at *
 clear hr hl hm
 go_enter Tryz.func85,Tryz.ntmps85
 go_wp2_with fail
 refine(Tryz.bits_Len _ _ (by omega) (by omega)).mono ?_
 rintro e w1⟨rfl,rfl⟩
 go_wp2_with fail
 refine(HI.out _).mono ?_
 rintro e w1⟨⟨v,rfl⟩,hb,hr⟩
 go_wp2
 go_end0
 exact⟨⟨_,rfl⟩,hb,hr⟩
theorem zgW(ad:Option Addr)(cap:Nat)(f:Value)(w:World) :
  Calls Tryz.prog 196 #[.slice ad 0 cap,.int .i64 0,.int .i64 0,f] w fun e w'=>(∃ v,e=.returned v)∧w=w':=by
 go_enter Tryz.func196,Tryz.ntmps196
 go_wp2
 go_loop [8] (fun i=>i=.int .i64 1) (fun _=>0)
 case atStart=>rfl
 case round =>
  subst hrel
  go_wp2
  go_end0
  exact⟨⟨_,rfl⟩,rfl⟩
theorem zlU(ad:Option Addr)(cap:Nat)(k:Int)(f:Value)(w:World) :
  Calls Tryz.prog 141 #[.slice ad 0 cap,.int .i64 0,.int .i64 0,.int .i64 k,f] w fun e w'=>(∃ v,e=.returned v)∧w=w':=by
 go_enter Tryz.func141,Tryz.ntmps141
 go_wp2
 go_loop [1,2,3] (fun x y _=>x=.int .i64 0∧y=.int .i64 0) (fun _ _ _=>0)
 case atStart=>exact⟨rfl,rfl⟩
 case round =>
  obtain⟨rfl,rfl⟩:=hrel
  go_wp2_with fail
  refine(zgW ad cap f _).mono ?_
  rintro e w1⟨⟨v,rfl⟩,rfl⟩
  go_wp2
  (try simp only[Exit.inBlock,Exit.then])
  refine bodyPost_ret (results_none rfl _ _ _) rfl ?_
  exact⟨⟨_,rfl⟩,rfl⟩
theorem zej(ad:Option Addr)(cap:Nat)(f:Value)(w:World) :
  Calls Tryz.prog 85 #[.slice ad 0 cap,f] w fun e w'=>(∃ v,e=.returned v)∧w=w':=by
 go_enter Tryz.func85,Tryz.ntmps85
 go_wp2_with fail
 refine(Tryz.bits_Len _ _ (by omega) (by omega)).mono ?_
 rintro e w1⟨rfl,rfl⟩
 go_wp2_with fail
 refine(zlU ad cap _ f _).mono ?_
 rintro e w1⟨⟨v,rfl⟩,rfl⟩
 go_wp2
 go_end0
 exact⟨⟨_,rfl⟩,rfl⟩
theorem zo0(l:List (Rat × Nat))(hl:∀ c∈l,c.2<10 ^ 80)(h2:l.length≤2):Sorts l (zly l):=by
 intro base W o hE hng hr
 match l,hl,h2,hr with
 | [],_,_,hr =>
  obtain⟨a,cap,rfl⟩:=zgs hr
  refine(zej a cap _ W).mono ?_
  rintro e W'⟨hu,rfl⟩
  exact⟨hu,Below.refl _ _,hr⟩
 | [c],_,_,hr =>
  obtain⟨a,cap,rfl⟩:=zgs hr
  refine(zeQ a cap _ W).mono ?_
  rintro e W'⟨hu,rfl⟩
  exact⟨hu,Below.refl _ _,hr⟩
 | [c,d],hl,_,hr =>
  obtain⟨g,cap,rfl,-,-⟩:=hr.form (show 0<2 by decide)
  refine(zlI (ze c.1) (ze d.1) c.2 d.2 (zgN (hl c (by simp))) (zgN (hl d (by simp))) base g cap W hE hng hr).mono ?_
  rintro e W'⟨hu,hb,hr'⟩
  refine⟨hu,hb,?_⟩
  have e2:zly [c,d]=if d.2<c.2 then [d,c]else [c,d]:=rfl
  rw[e2]
  by_cases h:d.2<c.2
  ·rw[if_pos h]at hr' ⊢;exact hr'
  ·rw[if_neg h]at hr' ⊢;exact hr'
 | _::_::_::_,_,h2,_=>exact absurd h2 (by simp)
theorem znq(l:List (Rat × Nat)):(zly l).length=l.length:=by
 unfold zly
 split
 ·split <;> rfl
 ·rfl
end
section
open Go.RowKit Kp
open Go.Lib (decDigits)
theorem zd5{l:Nat}(h:zg6 l):aOf (l:Rat)=1∧leftOf (l:Rat)=l:=by
 unfold aOf leftOf
 rw[Rat.num_natCast,Rat.den_natCast,Int.toNat_natCast,Nat.mul_one,h.2]
 exact⟨(show Rat.divInt ((1:Nat):Int) ((1:Nat):Int)=1 by rfl),rfl⟩
theorem zfE:ze (-1)=[45,49]:=by
 have h:=zkD (-1)
 rw[show ((-1:Int):Rat) = -1 from rfl]at h
 rw[h,itoa_neg (by decide)]
 simp[decDigits]
theorem zgL(y:Rat):y*(-1) = -y:=by grind
theorem zh7:Bd 60 (-1):=⟨by decide,by decide⟩
theorem zqs{l:List (Rat × Nat)}{c:Rat × Nat}(h:c∈zly l):c∈l:=by
 unfold zly at h
 split at h
 ·split at h
  ·simp at h ⊢;rcases h with h | h
   ·exact .inr h
   ·exact .inl h
  ·exact h
 ·exact h
theorem znw{l:List (Rat × Nat)}{c:Rat × Nat}(h:c∈zeK l):c∈l:=(List.mem_filter.1 h).1
theorem zpu{n:Nat}{y:Rat}(h:Bd n y):Bd n (-y):=by
 unfold Bd
 rw[zkI,Int.natAbs_neg,zns]
 exact h
theorem zlE(x y:Rat)(l m:Nat)(hx:Term1 x l)(hy:Term1 y m)(bx:Bd 20 x)(bY:Bd 20 y)(bl:l<10 ^ 16)(bm:m<10 ^ 16)(hcb:∀ c∈zdz [(x,l)] (-y,m),Bd 50 c.1∧0<c.2∧c.2<10 ^ 16)
  (B1 B2:Nat)(v1 v2:Value)(w:World)(hE:Env w)(h1:zbA w B1 v1 x l)(h2:zbA w B2 v2 y m) :
  Calls Tryz.prog 53 #[v1,v2] w fun e w'=>∃ v',e=.returned (.tuple #[v',.int .i64 0])∧Q w w'∧w'.ownsRow w.heap.size 84 2 v' ((zly (zeK (zdz [(x,l)] (-y,m)))).map ofC).length (zcd ((zly (zeK (zdz [(x,l)] (-y,m)))).map ofC)):=by
 have HB:=LH (zgj x y l m hx hy B1 B2 v1 v2 w hE h1 h2)
 have l0:=hx.norm.1
 have m0:=hy.norm.1
 have h40:∀ n:Nat,n<10 ^ 16→Bd 40 (n:Rat):=fun n hn=>⟨by rw[Rat.num_natCast,Int.natAbs_natCast];exact Nat.lt_of_lt_of_le hn (by decide),by rw[Rat.den_natCast];exact by decide⟩
 obtain⟨pl,ql⟩:=zd5 hx.norm
 obtain⟨pm,qm⟩:=zd5 hy.norm
 have hcls:zh5 [(x,(l:Rat)),(-y,(m:Rat))]=zdz [(x,l)] (-y,m):=by
  unfold zh5
  simp only[List.foldl_cons,List.foldl_nil]
  rw[pl,ql,pm,qm,Rat.mul_one,Rat.mul_one];rfl
 have hcls1:zh5 [(x,(l:Rat))]=[(x,l)]:=by
  unfold zh5
  simp only[List.foldl_cons,List.foldl_nil]
  rw[pl,ql,Rat.mul_one];rfl
 have hny:-y≠0:=fun e=>hy.ne (by have:=congrArg (fun q=>-q) e;simpa using this)
 have cb1:CB (x,l):=⟨bx.mono (by decide),l0,Nat.lt_of_lt_of_le bl (by decide)⟩
 have cb2:CB (-y,m):=⟨(zpu bY).mono (by decide),m0,Nat.lt_of_lt_of_le bm (by decide)⟩
 have vt:∀ t∈[(x,(l:Rat)),(-y,(m:Rat))],VT t:=by
  intro t ht
  rw[List.mem_cons,List.mem_singleton]at ht
  rcases ht with rfl | rfl
  ·exact⟨hx.ne,bx.mono (by decide),by rw[Rat.num_natCast];omega,h40 l bl,by rw[pl,ql,Rat.mul_one];exact cb1⟩
  ·exact⟨hny,(zpu bY).mono (by decide),by rw[Rat.num_natCast];omega,h40 m bm,by rw[pm,qm,Rat.mul_one];exact cb2⟩
 have hpre:∀ k,k≤[(x,(l:Rat)),(-y,(m:Rat))].length→∀ c∈zh5 ([(x,(l:Rat)),(-y,(m:Rat))].take k),CB c:=by
  intro k hk
  rcases(show k=0∨k=1∨k=2 by simp at hk;omega)with rfl | rfl | rfl
  ·intro c hc;simp[zh5]at hc
  ·rw[show [(x,(l:Rat)),(-y,(m:Rat))].take 1=[(x,(l:Rat))]from rfl,hcls1]
   intro c hc;rw[List.mem_singleton]at hc;subst hc;exact cb1
  ·rw[show [(x,(l:Rat)),(-y,(m:Rat))].take 2=[(x,(l:Rat)),(-y,(m:Rat))]from rfl,hcls]
   intro c hc
   obtain⟨a1,a2,a3⟩:=hcb c hc
   exact⟨a1.mono (by decide),a2,Nat.lt_of_lt_of_le a3 (by decide)⟩
 have hlm:∀ c∈zh5 [(x,(l:Rat)),(-y,(m:Rat))],za5 c.1≤60∧za5 (c.2:Rat)≤40:=by
  rw[hcls]
  intro c hc
  obtain⟨a1,a2,a3⟩:=hcb c hc
  exact⟨by have:=za7 a1 (by decide);omega,za7 (h40 c.2 a3) (by decide)⟩
 have hsrt:Sorts (zeK (zh5 [(x,(l:Rat)),(-y,(m:Rat))])) (zly (zeK (zh5 [(x,(l:Rat)),(-y,(m:Rat))]))):=by
  rw[hcls]
  refine zo0 _ (fun c hc=>?_) ?_
  ·exact Nat.lt_of_lt_of_le (hcb c (znw hc)).2.2 (by decide)
  ·have h1:=zir (zdz [(x,l)] (-y,m))
   have h2:=zix [(x,l)] (-y,m)
   simp at h2;omega
 have hmk:=fun v w hw hs=>zjD [(x,(l:Rat)),(-y,(m:Rat))] vt hpre (by simp) hlm _ (znq _) hsrt v w hw hs
 rw[hcls,show [(x,(l:Rat)),(-y,(m:Rat))].map ofT=[ofC (x,l),ofC (-y,m)] by simp[ofT,ofC,zaO]]at hmk
 have HMK:=LH hmk
 have hsc:=fun v w hw hs=>zfP [(y,m)] (-1) zh7 (fun t ht=>by rw[List.mem_singleton]at ht;subst ht;exact bY.mono (by decide)) (by simp) v w hw hs
 rw[zfE,show (zdm (-1) [(y,m)]).map ofC=[ofC (-y,m)] by simp[zdm,zgL]]at hsc
 have HSC:=LH hsc
 have HCC:=LH (fun v1 v2 b t w hb s1 s2=>zmG [ofC (x,l)] [ofC (-y,m)] (by simp) (by simp) (by simp) (by simp) v1 v2 b t w hb s1 s2)
 have r1:Hid (w.ownsRow B1 84 2 v1 [ofC (x,l)].length (zcd [ofC (x,l)])):=LH h1
 have r2:Hid (w.ownsRow B2 84 2 v2 ([(y,m)].map ofC).length (zcd ([(y,m)].map ofC))):=LH h2
 generalize zly (zeK (zdz [(x,l)] (-y,m)))=R at *
 obtain⟨g1,c1,rfl,-,-⟩:=World.ownsRow.form h1 (by omega)
 obtain⟨g2,c2,rfl,-,-⟩:=World.ownsRow.form h2 (by omega)
 clear hx hy bx bY bl bm hcb l0 m0 h40 pl ql pm qm hcls hcls1 hny cb1 cb2 vt hpre hlm hsrt hmk hsc h1 h2
 generalize ofC (x,l)=P1 at *
 generalize ofC (-y,m)=P2 at *
 go_enter Tryz.func53,Tryz.ntmps53
 go_wp2_with fail
 refine HB.out.mono ?_
 rintro e w1⟨rfl,hq1⟩
 go_wp2_with fail
 refine(HSC.out _ _ (hE.q hq1) (TSl.of_row (zi r2.out hq1))).mono ?_
 rintro e w2⟨v3,rfl,hq2,hr3⟩
 have hQ2:=Q.trans hq1 hq2
 have R3:=LH hr3
 obtain⟨g3,c3,rfl,-,-⟩:=hr3.form (by simp)
 clear hr3
 go_wp2_with fail
 have hb:=Blk.new w2 [.slice (some ⟨g1,0,none⟩) 1 c1,.slice (some ⟨g3,0,none⟩) 1 c3] 46
 have hqa:=hQ2.alloc hQ2.size (Obj.cells [.slice (some ⟨g1,0,none⟩) 1 c1,.slice (some ⟨g3,0,none⟩) 1 c3].toArray 46)
 refine(HCC.out _ _ _ _ _ hb (TSl.of_row (zi r1.out hqa)) (TSl.of_row (R3.out.alloc _))).mono ?_
 rintro e w3⟨v4,rfl,hq3,hr4⟩
 have hQ3:=Q.trans hqa hq3
 have R4:=LH hr4
 obtain⟨g4,c4,rfl,-,-⟩:=hr4.form (by simp)
 clear hr4
 go_wp2_with fail
 refine(HMK.out _ _ (hE.q hQ3) (TSl.of_row R4.out)).mono ?_
 rintro e w4⟨v5,rfl,hq4,hr5⟩
 have hQ4:=Q.trans hQ3 hq4
 have HR5:=LH hr5
 clear hr5
 go_wp2
 go_ret2
 exact⟨_,rfl,hQ4,Joins.ownsRow_le HR5.out hQ3.size⟩
end
section
open Go.RowKit Kp
open Go.Lib (decDigits)
end
end Go.Proofs.YtbpghkdadajomaaGreatDoor
