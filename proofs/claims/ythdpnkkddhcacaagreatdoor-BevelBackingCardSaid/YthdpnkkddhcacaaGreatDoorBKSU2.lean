/-
  RE RF RG RH RJ RK RI RL LSlopes, one behind the other.
-/
import Derived.Test.YthdpnkkddhcacaaGreatDoorBK08
import Derived.Test.YthdpnkkddhcacaaGreatDoorBK04
import Derived.Shelf.Spec.SlicesGrow
set_option maxRecDepth 100000
set_option maxHeartbeats 8000000
namespace Go.Proofs.YthdpnkkddhcacaaGreatDoor
section
open Go.RowKit Kp
theorem zdr:lim 0=false:=zaN (n:=1) (by decide) (by decide)
theorem zrA(n:Nat):Lib.itoa ((10 ^ n:Nat):Int)=49::zbp n:=by
 obtain⟨h1,h2⟩:=zkT n
 rw[← zA,← h2]
 exact zbg _ (by simp) h1 (fun e=>by simp at e)
theorem zhD(x:Rat)(l P:Nat):x.num*x.num*(l:Int)*((10 ^ (2*P):Nat):Int)=((zX x l P:Nat):Int):=by
 unfold zX
 rw[Int.natCast_mul,Int.natCast_mul,Int.natAbs_mul_self (a:=x.num)]
theorem zkD{x:Rat}{l P:Nat}(bx:Bd 60 x)(hl:l<10 ^ 40)(hP:P≤64) :
  lim (x.num*x.num)=false∧lim (x.num*x.num*(l:Int))=false∧lim ((10 ^ (2*P):Nat):Int)=false∧lim ((zX x l P:Nat):Int)=false∧zX x l P<10 ^ 145*10 ^ 145:=by
 have h1:(x.num*x.num).natAbs<10 ^ 120:=zbd bx.1 bx.1
 have h2:(x.num*x.num*(l:Int)).natAbs<10 ^ 160:=zbd (m:=120) (n:=40) h1 (by rw[Int.natAbs_natCast];exact hl)
 have h3:(((10 ^ (2*P):Nat):Int)).natAbs<10 ^ 129:=by
  rw[Int.natAbs_natCast]
  exact Nat.lt_of_le_of_lt (Nat.pow_le_pow_right (by decide) (show 2*P≤128 by omega)) (by decide)
 have h4:lim ((zX x l P:Nat):Int)=false:=by
  rw[← zhD]
  exact zaN (zbd h2 h3) (by decide)
 have h5:zX x l P<10 ^ 145*10 ^ 145:=by
  have h6:zX x l P=(x.num*x.num*(l:Int)).natAbs*(((10 ^ (2*P):Nat):Int)).natAbs:=by rw[← Int.natAbs_mul,zhD,Int.natAbs_natCast]
  rw[h6]
  exact Nat.lt_of_lt_of_le (Nat.mul_lt_mul'' h2 h3) (by decide)
 exact⟨zaN h1 (by decide),zaN h2 (by decide),zaN h3 (by decide),h4,h5⟩
theorem zr6(a b:Nat):((a:Int)).fdiv (b:Int)=((a / b:Nat):Int):=by
 rw[Int.fdiv_eq_ediv_of_nonneg _ (Int.natCast_nonneg b)];rfl
theorem zr4(a b:Nat):((a:Int)).fmod (b:Int)=((a % b:Nat):Int):=by
 rw[Int.fmod_eq_emod_of_nonneg _ (Int.natCast_nonneg b)];rfl
theorem zo2(x:Rat)(l P:Nat)(bx:Bd 60 x)(hl:l<10 ^ 40)(hP:P≤64)(w:World)(hE:Env w) :
  CR 158 #[.agg #[.string ⟨(ze x).toArray⟩,.string ⟨(Lib.itoa (l:Int)).toArray⟩],.int .i64 P] w (.string ⟨(Lib.itoa (zcV x l P)).toArray⟩):=by
 have hxl:zah x=false:=bx.zah (by decide)
 obtain⟨k1,k2,k3,k4,k5⟩:=zkD bx hl hP
 have kn:=(zx hxl).1
 have kd:=(zx hxl).2
 have kl:lim (l:Int)=false:=zaN (n:=40) (by rw[Int.natAbs_natCast];exact hl) (by decide)
 have kr:=zjw k4
 have hd:=x.den_pos
 have HPA:=LH (fun w hw=>zbD x hxl w hw)
 have m1:=fun w hw=>zaq x.num x.num kn kn w hw
 have m2:=fun w hw=>zaq (x.num*x.num) (l:Int) k1 kl w hw
 have m3:=fun w hw=>zaq (x.num*x.num*(l:Int)) ((10 ^ (2*P):Nat):Int) k2 k3 w hw
 rw[zbA k1]at m1
 rw[zbA k2]at m2
 rw[zhD,zbA k4,zrA]at m3
 have HM1:=LH m1
 have HM2:=LH m2
 have HM3:=LH m3
 have HREP:=LH (fun w=>zek (2*P) (by omega) w)
 have HADD:=ziD Tryz.prog [49] (zbp (2*P)) (by rw[zbT];simp;omega)
 have HRT:=LH (fun w hw=>zhZ (zX x l P) k4 w hw)
 have dv:=fun w hw=>zcE ((zq (zX x l P):Nat):Int) (x.den:Int) kr kd (by omega) w hw
 rw[zr6,zr4]at dv
 have HDV:=LH dv
 have hnne:0<(Lib.itoa x.num).length:=by
  rcases Nat.eq_zero_or_pos (Lib.itoa x.num).length with h0 | h0
  ·exact absurd (List.length_eq_zero_iff.1 h0) (zto _)
  ·exact h0
 have hat:at0 (Lib.itoa x.num) 0=45 ↔ x.num<0:=by
  have h1:=zb6 (s:=Lib.itoa x.num) (by intro e;rw[e]at hnne;simp at hnne)
  have h2:=zbC x.num []
  rw[List.append_nil,h1]at h2
  rw[← h2]
  constructor
  ·intro e;rw[e]
  ·intro e;exact Option.some.inj e
 clear m1 m2 m3 dv bx hl
 by_cases hneg:x.num<0
 ·have sq0:lim ((zq (zX x l P):Int)*(zq (zX x l P):Int))=false:=zcl k4 (by rw[← Int.natCast_mul];have:=zfZ (zX x l P);omega)
  have m4:=fun w hw=>zaq ((zq (zX x l P):Nat):Int) ((zq (zX x l P):Nat):Int) kr kr w hw
  rw[zbA sq0,← Int.natCast_mul]at m4
  have HM4:=LH m4
  have hq:lim ((zq (zX x l P) / x.den:Nat):Int)=false:=zcl kr (by rw[Int.natAbs_natCast,Int.natAbs_natCast];exact Nat.div_le_self _ _)
  have hU:zh4 x l P=if (Lib.itoa ((zq (zX x l P)*zq (zX x l P):Nat):Int) == Lib.itoa ((zX x l P:Nat):Int))=true∧(Lib.itoa ((zq (zX x l P) % x.den:Nat):Int) == [48])=true then zq (zX x l P) / x.den else zq (zX x l P) / x.den+1:=by
   unfold zh4
   have e1:(Lib.itoa ((zq (zX x l P)*zq (zX x l P):Nat):Int) == Lib.itoa ((zX x l P:Nat):Int))=true ↔ zq (zX x l P)*zq (zX x l P)=zX x l P:=by
    rw[beq_iff_eq]
    exact⟨fun e=>by have:=zaj e;omega,fun e=>by rw[e]⟩
   have e2:(Lib.itoa ((zq (zX x l P) % x.den:Nat):Int) == [48])=true ↔ zq (zX x l P) % x.den=0:=by
    rw[beq_iff_eq,← zR]
    exact⟨fun e=>by have:=zaj e;omega,fun e=>by rw[e];rfl⟩
   simp only[e1,e2]
  have hq1:lim (((zq (zX x l P) / x.den:Nat):Int)+1)=false:=by
   refine zaN (n:=146) ?_ (by decide)
   have h1:=Nat.div_le_self (zq (zX x l P)) x.den
   have h2:=ziy k5
   have h3:(10:Nat) ^ 145+1≤10 ^ 146:=by decide
   generalize zq (zX x l P) / x.den=q at h1 ⊢
   omega
  have ad:=fun w hw=>zbx ((zq (zX x l P) / x.den:Nat):Int) 1 hq zhs w hw
  rw[zbA hq1,zan]at ad
  have HAD:=LH ad
  have sb0:=fun w hw=>zf1 0 ((zq (zX x l P) / x.den:Nat):Int) zdr hq w hw
  rw[zbA (by rw[Int.zero_sub];exact zfY hq),zR,Int.zero_sub]at sb0
  have HSB0:=LH sb0
  have sb1:=fun w hw=>zf1 0 (((zq (zX x l P) / x.den:Nat):Int)+1) zdr hq1 w hw
  rw[zbA (by rw[Int.zero_sub];exact zfY hq1),zR,Int.zero_sub]at sb1
  have HSB1:=LH sb1
  have ht:zcV x l P = -((zh4 x l P:Nat):Int):=zpM hneg l P
  rw[ht]
  have hat':(((at0 (Lib.itoa x.num) 0).toNat:Int) == 45)=true:=by rw[hat.2 hneg];rfl
  have hat'':=zbH hat'
  clear ad sb0 sb1 ht hat hneg kr kn kd k1 k2 k3 k4 k5 kl sq0 hq hq1 m4 hxl
  generalize zh4 x l P=u at *
  generalize zq (zX x l P) / x.den=q at *
  generalize Lib.itoa ((zq (zX x l P) % x.den:Nat):Int)=RS at *
  generalize Lib.itoa ((zq (zX x l P)*zq (zX x l P):Nat):Int)=RR at *
  generalize Lib.itoa ((zq (zX x l P):Nat):Int)=R at *
  generalize Lib.itoa ((zX x l P:Nat):Int)=S at *
  generalize Lib.itoa (x.num*x.num*(l:Int))=S2 at *
  generalize Lib.itoa (x.num*x.num)=S1 at *
  generalize Lib.itoa x.num=N at *
  generalize Lib.itoa (x.den:Int)=D at *
  generalize Lib.itoa (l:Int)=L at *
  generalize ze x=X at *
  generalize hq0:Lib.itoa (q:Int)=QS at *
  generalize hq1:Lib.itoa ((q:Int)+1)=QS1 at *
  clear hd
  go_enter Tryz.func158,Tryz.ntmps158
  have T:=Blk.new w [.string ⟨X.toArray⟩,.string ⟨L.toArray⟩] 47
  have hQ0:Q w (w.alloc (.cells [.string ⟨X.toArray⟩,.string ⟨L.toArray⟩].toArray 47)):=(Below.refl _ w).alloc (Nat.le_refl _) _
  go_wp2_with fail
  refine cx (HPA.out _ (hE.q hQ0)) fun w1 hq1=>?_
  have hQ1:=Q.trans hQ0 hq1
  have T1:=T.keep hq1 T.lt
  clear T hq1
  go_wp2_with fail
  refine cx (HM1.out _ (hE.q hQ1)) fun w2 hq2=>?_
  have hQ2:=Q.trans hQ1 hq2
  have T2:=T1.keep hq2 T1.lt
  have c1:=T2.cell 1
  simp only[zs4,zs5]at c1
  clear T1 hq2
  go_wp2_with fail
  clear c1 T2
  refine cx (HM2.out _ (hE.q hQ2)) fun w3 hq3=>?_
  have hQ3:=Q.trans hQ2 hq3
  go_wp2_with fail
  refine cx (HREP.out _) fun w4 hq4=>?_
  have hQ4:=Q.trans hQ3 hq4
  go_wp2_with fail
  refine cx (HM3.out _ (hE.q hQ4)) fun w5 hq5=>?_
  have hQ5:=Q.trans hQ4 hq5
  go_wp2_with fail
  refine cx (HRT.out _ (hE.q hQ5)) fun w6 hq6=>?_
  have hQ6:=Q.trans hQ5 hq6
  go_wp2_with fail
  refine cx (HDV.out _ (hE.q hQ6)) fun w7 hq7=>?_
  have hQ7:=Q.trans hQ6 hq7
  go_wp2_with fail
  refine cx (HM4.out _ (hE.q hQ7)) fun w8 hq8=>?_
  have hQ8:=Q.trans hQ7 hq8
  have HUU:=LH hU
  clear hU
  cases hb1:(RR == S)with
  | false =>
   have HU2:Hid (u=q+1):=LH (by rw[HUU.out,hb1];rfl)
   have hb1':=zay hb1
   go_wp2_with fail
   refine cx (HAD.out _ (hE.q hQ8)) fun w9 hq9=>?_
   have hQ9:=Q.trans hQ8 hq9
   go_wp2_with fail
   refine cx (HSB1.out _ (hE.q hQ9)) fun w10 hq10=>?_
   have hQ10:=Q.trans hQ9 hq10
   go_wp2
   go_ret
   exact⟨by rw[HU2.out];rfl,hQ10⟩
  | true =>
   have hb1':=zbH hb1
   cases hb2:(RS == [48])with
   | false =>
    have HU2:Hid (u=q+1):=LH (by rw[HUU.out,hb2];simp)
    have hb2':=zay hb2
    go_wp2_with fail
    refine cx (HAD.out _ (hE.q hQ8)) fun w9 hq9=>?_
    have hQ9:=Q.trans hQ8 hq9
    go_wp2_with fail
    refine cx (HSB1.out _ (hE.q hQ9)) fun w10 hq10=>?_
    have hQ10:=Q.trans hQ9 hq10
    go_wp2
    go_ret
    exact⟨by rw[HU2.out];rfl,hQ10⟩
   | true =>
    have HU2:Hid (u=q):=LH (by rw[HUU.out,hb1,hb2];simp)
    have hb2':=zbH hb2
    go_wp2_with fail
    refine cx (HSB0.out _ (hE.q hQ8)) fun w10 hq10=>?_
    have hQ10:=Q.trans hQ8 hq10
    go_wp2
    go_ret
    exact⟨by rw[HU2.out];rfl,hQ10⟩
 ·have ht:zcV x l P=((zq (zX x l P) / x.den:Nat):Int):=zpL (by omega) l P
  rw[ht]
  have hat':(((at0 (Lib.itoa x.num) 0).toNat:Int) == 45)=false:=zuC (fun e=>hneg (hat.1 e))
  have hat'':=zay hat'
  clear ht hat hneg kr kn kd k1 k2 k3 k4 k5 kl hxl
  generalize zq (zX x l P) / x.den=q at *
  generalize Lib.itoa ((zq (zX x l P) % x.den:Nat):Int)=RS at *
  generalize Lib.itoa ((zq (zX x l P):Nat):Int)=R at *
  generalize Lib.itoa ((zX x l P:Nat):Int)=S at *
  generalize Lib.itoa (x.num*x.num*(l:Int))=S2 at *
  generalize Lib.itoa (x.num*x.num)=S1 at *
  generalize Lib.itoa x.num=N at *
  generalize Lib.itoa (x.den:Int)=D at *
  generalize Lib.itoa (l:Int)=L at *
  generalize ze x=X at *
  generalize hq0:Lib.itoa (q:Int)=QS at *
  clear hd
  go_enter Tryz.func158,Tryz.ntmps158
  have T:=Blk.new w [.string ⟨X.toArray⟩,.string ⟨L.toArray⟩] 47
  have hQ0:Q w (w.alloc (.cells [.string ⟨X.toArray⟩,.string ⟨L.toArray⟩].toArray 47)):=(Below.refl _ w).alloc (Nat.le_refl _) _
  go_wp2_with fail
  refine cx (HPA.out _ (hE.q hQ0)) fun w1 hq1=>?_
  have hQ1:=Q.trans hQ0 hq1
  have T1:=T.keep hq1 T.lt
  clear T hq1
  go_wp2_with fail
  refine cx (HM1.out _ (hE.q hQ1)) fun w2 hq2=>?_
  have hQ2:=Q.trans hQ1 hq2
  have T2:=T1.keep hq2 T1.lt
  have c1:=T2.cell 1
  simp only[zs4,zs5]at c1
  clear T1 hq2
  go_wp2_with fail
  clear c1 T2
  refine cx (HM2.out _ (hE.q hQ2)) fun w3 hq3=>?_
  have hQ3:=Q.trans hQ2 hq3
  go_wp2_with fail
  refine cx (HREP.out _) fun w4 hq4=>?_
  have hQ4:=Q.trans hQ3 hq4
  go_wp2_with fail
  refine cx (HM3.out _ (hE.q hQ4)) fun w5 hq5=>?_
  have hQ5:=Q.trans hQ4 hq5
  go_wp2_with fail
  refine cx (HRT.out _ (hE.q hQ5)) fun w6 hq6=>?_
  have hQ6:=Q.trans hQ5 hq6
  go_wp2_with fail
  refine cx (HDV.out _ (hE.q hQ6)) fun w7 hq7=>?_
  have hQ7:=Q.trans hQ6 hq7
  go_wp2
  go_ret
  exact⟨rfl,hQ7⟩
theorem zc3.q{w w':World}(h:zc3 w)(hE:Env w)(hq:Q w w'):zc3 w':=by
 obtain⟨t,f,h⟩:=h
 exact⟨t,f,by rw[hq.block _ (Nat.lt_of_lt_of_le (by decide) hE.size)];exact h⟩
theorem zc3.cell{w:World}(h:zc3 w)(i:Nat)(hi:i<3):w.cell? ⟨1,i,none⟩=(#[Value.int .i64 4,.int .i64 16,.int .i64 64])[i]?:=by
 obtain⟨t,f,h⟩:=h
 simp[World.cell?,h,hi]
def VS(t:Rat × Nat):Prop:=Bd 60 t.1∧t.2<10 ^ 40
theorem zkE{x:Rat}{l P:Nat}(h:Bd 60 x)(hl:l<10 ^ 40)(hP:P≤64):(zcV x l P).natAbs≤10 ^ 146:=by
 obtain⟨-,-,-,-,h5⟩:=zkD h hl hP
 have h1:zq (zX x l P)<10 ^ 145:=ziy h5
 have h2:=Nat.div_le_self (zq (zX x l P)) x.den
 have h3:zh4 x l P≤zq (zX x l P) / x.den+1:=by unfold zh4;split <;> omega
 have h4:(10:Nat) ^ 145+1≤10 ^ 146:=by decide
 unfold zcV
 split <;> omega
theorem zqc(a:List (Rat × Nat))(t:Rat × Nat)(P:Nat):zb3 (a++[t]) P=zb3 a P+zcV t.1 t.2 P:=by
 induction a with
 | nil=>simp[zb3]
 | cons c r ih=>simp only[List.cons_append,zb3,ih];omega
theorem zod:∀ (ts:List (Rat × Nat)) (P:Nat),(∀ t∈ts,VS t)→P≤64→(zb3 ts P).natAbs≤ts.length*10 ^ 146
 | [],_,_,_=>by simp[zb3]
 | t::r,P,h,hP=>by
  have h1:=zod r P (fun x hx=>h x (by simp[hx])) hP
  have h2:=zkE (h t (by simp)).1 (h t (by simp)).2 hP
  have h3:(r.length+1)*10 ^ 146=r.length*10 ^ 146+10 ^ 146:=by rw[Nat.add_mul,Nat.one_mul]
  simp only[zb3,List.length_cons,h3]
  omega
theorem zs6{ts:List (Rat × Nat)}{P:Nat}(h:∀ t∈ts,VS t)(hn:ts.length≤1000)(hP:P≤64)(j k:Nat)(hk:k≤1000):lim (zb3 (ts.take j) P+k)=false:=by
 have h1:=zod (ts.take j) P (fun t ht=>h t (List.mem_of_mem_take ht)) hP
 have h2:(ts.take j).length≤1000:=by rw[List.length_take];omega
 have h3:(ts.take j).length*10 ^ 146≤1000*10 ^ 146:=Nat.mul_le_mul_right _ h2
 refine zaN (n:=150) ?_ (by decide)
 have h4:(1000:Nat)*10 ^ 146+1000<10 ^ 150:=by decide
 omega
def zeM(ts:List (Rat × Nat)):Value:=match zqm ts with
 | some k=>.tuple #[.int .i64 k,.int .i64 0]
 | none=>.tuple #[.int .i64 0,.int .i64 4]
theorem zfr(F:Int):(0<F∧Lib.compareInt F 0=1)∨(F=0∧Lib.compareInt F 0=0)∨(F<0∧Lib.compareInt F 0 = -1):=by
 unfold Lib.compareInt
 rcases Int.lt_trichotomy F 0 with h | h | h
 ·exact .inr (.inr ⟨h,by rw[if_pos h]⟩)
 ·exact .inr (.inl ⟨h,by rw[if_neg (by omega),if_neg (by omega)]⟩)
 ·exact .inl ⟨h,by rw[if_neg (by omega),if_pos h]⟩
theorem zjb(k P:Nat)(h:(k=0∧P=4)∨(k=1∧P=16)∨(k=2∧P=64))(w:World):(Instr.index 213 (.agg #[.int .i64 4,.int .i64 16,.int .i64 64]) (.int .i64 k)).run Tryz.prog w=.ok (.int .i64 P) w:=by
 rcases h with⟨rfl,rfl⟩|⟨rfl,rfl⟩|⟨rfl,rfl⟩
 ·kernel_rfl
 ·kernel_rfl
 ·kernel_rfl
theorem zqb(ts:List (Rat × Nat))(hts:∀ t∈ts,VS t)(hn:ts.length≤1000)(v:Value)(w:World)(hE:Env w)(hP:zc3 w)(hsl:TSl w w.heap.size v (ts.map ofC)) :
  CR 86 #[v] w (zeM ts):=by
 obtain⟨a,cap,rfl,-,hc⟩:=hsl
 rw[List.length_map]at hc
 rw[List.length_map]
 by_cases h0:ts=[]
 ·subst h0
  go_enter Tryz.func86,Tryz.ntmps86
  go_wp2
  go_ret2
  exact⟨rfl,Q.refl _⟩
 ·have hpos:0<ts.length:=List.length_pos_iff.2 h0
  have hz:((ts.length:Int) == 0)=false:=by rw[beq_eq_false_iff_ne];omega
  have HS:Hid (zqm ts=zt8 (zdz ts.length (zb3 ts 4) false) (zdz ts.length (zb3 ts 16) false) (zdz ts.length (zb3 ts 64) true)):=LH (by unfold zqm;rw[if_neg h0])
  have HL:=LH (fun P (hP:P≤64) j k (hk:k≤1000)=>zs6 hts hn hP j k hk)
  have HFL:=LH (fun P (hP:P≤64) j (hj:j<ts.length)=>zaN (n:=150) (Nat.lt_of_le_of_lt (zkE (hts ts[j] (List.getElem_mem hj)).1 (hts ts[j] (List.getElem_mem hj)).2 hP) (by decide)) (by decide))
  have HF:=LH (fun P (hP:P≤64) j (hj:j<ts.length) w hw=>zo2 ts[j].1 ts[j].2 P (hts ts[j] (List.getElem_mem hj)).1 (hts ts[j] (List.getElem_mem hj)).2 hP w hw)
  have HTK:Hid (∀ j (hj:j<ts.length) P,zb3 (ts.take (j+1)) P=zb3 (ts.take j) P+zcV ts[j].1 ts[j].2 P):=LH (fun j hj P=>by rw[List.take_succ_eq_append_getElem hj,zqc])
  have HALL:Hid (∀ P,zb3 (ts.take ts.length) P=zb3 ts P):=LH (fun P=>by rw[List.take_length])
  have HGET:Hid (∀ j (hj:j<ts.length),(ts.map ofC).getD j ([],[])=(ze ts[j].1,Lib.itoa (ts[j].2:Int))):=LH (fun j hj=>by rw[List.getD_eq_getElem?_getD,List.getElem?_map,List.getElem?_eq_getElem hj];rfl)
  have p0:=hP.cell 0 (by decide)
  have p1:=hP.cell 1 (by decide)
  have p2:=hP.cell 2 (by decide)
  simp only[List.getElem?_toArray,zs4,zs5]at p0 p1 p2
  have hc2:=LH hc
  have HNN:=LH hn
  clear h0 hts hc
  have ix0:∀ w,(Instr.index 213 (.agg #[.int .i64 4,.int .i64 16,.int .i64 64]) (.int .i64 0)).run Tryz.prog w=.ok (.int .i64 4) w:=fun w=>zjb 0 4 (.inl ⟨rfl,rfl⟩) w
  have ix1:∀ w,(Instr.index 213 (.agg #[.int .i64 4,.int .i64 16,.int .i64 64]) (.int .i64 1)).run Tryz.prog w=.ok (.int .i64 16) w:=fun w=>zjb 1 16 (.inr (.inl ⟨rfl,rfl⟩)) w
  have ix2:∀ w,(Instr.index 213 (.agg #[.int .i64 4,.int .i64 16,.int .i64 64]) (.int .i64 2)).run Tryz.prog w=.ok (.int .i64 64) w:=fun w=>zjb 2 64 (.inr (.inr ⟨rfl,rfl⟩)) w
  go_enter Tryz.func86,Tryz.ntmps86
  go_wp2
  go_loopw [17] (fun i wr=>Q w wr∧((i=.int .i64 0)∨(i=.int .i64 1∧Hid (zdz ts.length (zb3 ts 4) false=none))∨(i=.int .i64 2∧Hid (zdz ts.length (zb3 ts 4) false=none)∧Hid (zdz ts.length (zb3 ts 16) false=none))∨(i=.int .i64 3∧Hid (zqm ts=none)))) (fun i _=>3 - (intOf i).toNat)
  case atStart=>exact⟨Q.refl _,.inl rfl⟩
  case round =>
   obtain⟨hQ,hi⟩:=hrel
   rcases hi with rfl | ⟨rfl,g4⟩|⟨rfl,g4,g16⟩|⟨rfl,gn⟩
   ·go_wp2
    go_loopw [6,23] (fun s i wr2=>∃ j:Nat,j≤ts.length∧i=.int .i64 j∧Q w wr2∧s=.string ⟨(Lib.itoa (zb3 (ts.take j) 4)).toArray⟩) (fun _ i _=>ts.length - (intOf i).toNat)
    case atStart=>exact⟨0,by omega,rfl,hQ,by simp[zb3,zR]⟩
    case round =>
     obtain⟨j,hj,rfl,hQ2,rfl⟩:=hrel
     by_cases hlt:j<ts.length
     ·obtain⟨b,o,ha,hb,d0,d1⟩:=hc2.out j hlt
      subst ha
      have c0:=(hQ2.cell (p:=⟨b,o+j*2,none⟩) hb).trans d0
      have c1:=(hQ2.cell (p:=⟨b,o+j*2+1,none⟩) hb).trans d1
      rw[HGET.out j hlt]at c0 c1
      simp only at c0 c1
      have HFJ:=LH (fun w hw=>HF.out 4 (by decide) j hlt w hw)
      have ad:=fun w hw=>zbx (zb3 (ts.take j) 4) (zcV ts[j].1 ts[j].2 4) (by have:=HL.out 4 (by decide) j 0 (by decide);simpa using this) (HFL.out 4 (by decide) j hlt) w hw
      rw[← HTK.out j hlt,zbA (by have:=HL.out 4 (by decide) (j+1) 0 (by decide);simpa using this)]at ad
      have HAD:=LH ad
      have HJ:Hid (j+1≤ts.length):=LH hlt
      have lbr:=Nat.lt_of_lt_of_le hb hQ2.size
      clear d0 d1 ad
      generalize hS1:Lib.itoa (zb3 (ts.take (j+1)) 4)=S1 at *
      have HS1:=LH hS1
      clear hS1
      generalize Lib.itoa (zb3 (ts.take j) 4)=S0 at *
      generalize Lib.itoa (zcV ts[j].1 ts[j].2 4)=FJ at *
      generalize ze ts[j].1=X at *
      generalize Lib.itoa (ts[j].2:Int)=L at *
      have hq0:=hQ2.alloc hQ2.size (Obj.cells [.string ⟨X.toArray⟩,.string ⟨L.toArray⟩].toArray 47)
      go_wp2_with fail
      refine cx (HFJ.out _ (hE.q hq0)) fun w3 hq3=>?_
      have hQ3:=Q.trans hq0 hq3
      go_wp2_with fail
      refine cx (HAD.out _ (hE.q hQ3)) fun w4 hq4=>?_
      have hQ4:=Q.trans hQ3 hq4
      go_wp2
      go_roundw
      case rel=>exact⟨j+1,HJ.out,by go_num,hQ4,by rw[HS1.out]⟩
      case measure=>simp[intOf];omega
     ·obtain rfl:j=ts.length:=by omega
      rw[HALL.out 4]
      have hlF:=HL.out 4 (by decide) ts.length 0 (by decide)
      rw[HALL.out 4,show ((0:Nat):Int)=0 from rfl,Int.add_zero]at hlF
      have hlA:=HL.out 4 (by decide) ts.length
      rw[HALL.out 4]at hlA
      have HLA:=LH hlA
      have k1:=fun w=>za6 (zb3 ts 4) 0 hlF zdr w
      have k2:=fun w=>za6 (zb3 ts 4+ts.length) 0 (HLA.out ts.length HNN.out) zdr w
      rw[zR]at k1 k2
      have hcz:=zfr (zb3 ts 4)
      have hcn:=zfr (zb3 ts 4+ts.length)
      have hstep:zdz ts.length (zb3 ts 4) false=if 0<zb3 ts 4 then some 1 else if zb3 ts 4+ts.length<0∨(zb3 ts 4+ts.length=0∧false=true)then some (-1)else none:=rfl
      have HSTEP:=LH hstep
      clear hlA hlF hstep
      generalize hF:zb3 ts 4=F at *
      have HFq:=LH hF
      clear hF
      generalize Lib.compareInt F 0=cz at *
      generalize Lib.compareInt (F+(ts.length:Int)) 0=cn at *
      have HK1:=LH k1
      have HK2:=LH k2
      clear k1 k2
      go_wp2_with fail
      refine cx (HK1.out _) fun w3 hq3=>?_
      have hQ3:=Q.trans hQ2 hq3
      by_cases hpos2:0<F
      ·have hst:zdz ts.length F false=some 1:=by rw[HSTEP.out,if_pos hpos2]
       have HV:Hid (zeM ts=.tuple #[.int .i64 1,.int .i64 0]):=LH (by unfold zeM;rw[HS.out,hst];rfl)
       have hcz1:cz=1:=by omega
       subst hcz1
       clear hcn hcz hst
       go_wp2
       go_ret2
       exact⟨by rw[HV.out];rfl,hQ3⟩
      ·have hcz1:¬ 0<cz:=by omega
       clear hcz
       have HCN:=LH hcn
       have HNP:=LH hpos2
       clear hcn hpos2
       go_wp2
       go_loopw [6,45] (fun s i wr2=>∃ j:Nat,j≤ts.length∧i=.int .i64 j∧Q w wr2∧s=.string ⟨(Lib.itoa (F+j)).toArray⟩) (fun _ i _=>ts.length - (intOf i).toNat)
       case atStart=>exact⟨0,by omega,rfl,hQ3,by simp⟩
       case round =>
        obtain⟨j,hj,rfl,hQ4,rfl⟩:=hrel
        by_cases hlt2:j<ts.length
        ·have ad:=fun w hw=>zbx (F+(j:Int)) 1 (HLA.out j (by have:=HNN.out;omega)) zhs w hw
         have e1:F+(j:Int)+1=F+((j+1:Nat):Int):=by omega
         rw[e1,zbA (HLA.out (j+1) (by have:=HNN.out;omega)),zan]at ad
         have HAD:=LH ad
         have HJ:Hid (j+1≤ts.length):=LH hlt2
         clear ad e1
         generalize hS1:Lib.itoa (F+((j+1:Nat):Int))=S1 at *
         have HS1:=LH hS1
         clear hS1
         generalize Lib.itoa (F+(j:Int))=S0 at *
         go_wp2_with fail
         refine cx (HAD.out _ (hE.q hQ4)) fun w4 hq4=>?_
         have hQ5:=Q.trans hQ4 hq4
         go_wp2
         go_roundw
         case rel=>exact⟨j+1,HJ.out,by go_num,hQ5,by rw[HS1.out]⟩
         case measure=>simp[intOf];omega
        ·obtain rfl:j=ts.length:=by omega
         generalize Lib.itoa (F+(ts.length:Int))=S0 at *
         go_wp2_with fail
         refine cx (HK2.out _) fun w4 hq4=>?_
         have hQ5:=Q.trans hQ4 hq4
         have hways:(Hid (zdz ts.length F false=some (-1))∧(cn<0∨(cn=0∧false=true)))∨(Hid (zdz ts.length F false=none)∧(0<cn∨(cn=0∧false=false))):=by
          have h1:=HCN.out
          have h2:=HNP.out
          rw[HSTEP.out,if_neg (by omega)]
          by_cases h3:F+(ts.length:Int)<0∨(F+(ts.length:Int)=0∧false=true)
          ·refine .inl ⟨LH (by first | exact if_pos h3 | exact if_pos (by simpa using h3)),?_⟩
           rcases h3 with h3 | ⟨h3,h4⟩
           ·exact .inl (by omega)
           ·exact .inr ⟨by omega,h4⟩
          ·refine .inr ⟨LH (by first | exact if_neg h3 | exact if_neg (by simpa using h3)),?_⟩
           by_cases h5:F+(ts.length:Int)=0
           ·refine .inr ⟨by omega,?_⟩
            cases h6:false with
            | false=>rfl
            | true=>exact absurd (Or.inr ⟨h5,h6⟩) h3
           ·exact .inl (by omega)
         clear HCN HNP HSTEP HLA HK1 HK2
         rcases hways with⟨HST,hc1⟩|⟨HST,hc1⟩
         ·have HV:Hid (zeM ts=.tuple #[.int .i64 (-1),.int .i64 0]):=LH (by have hst:=HST.out;unfold zeM;rw[HS.out,hst];rfl)
          rcases hc1 with hc1 | ⟨rfl,hc2⟩
          ·go_wp2
           go_ret2
           exact⟨by rw[HV.out];rfl,hQ5⟩
          ·first
            | exact absurd hc2 (by decide)
            | (go_wp2;go_ret2;exact⟨by rw[HV.out];rfl,hQ5⟩)
         ·rcases hc1 with hc1 | ⟨rfl,hc2⟩
          ·have hcn1:¬ cn<0:=by omega
           have hcn0:(cn == 0)=false:=by rw[beq_eq_false_iff_ne];omega
           go_wp2
           go_roundw
           case rel=>exact⟨hQ5,.inr (.inl ⟨by go_num,LH (by rw[HFq.out];exact HST.out)⟩)⟩
           case measure=>simp[intOf]
          ·first
            | exact absurd hc2 (by decide)
            | (
              go_wp2
              go_roundw
              case rel=>exact⟨hQ5,.inr (.inl ⟨by go_num,LH (by rw[HFq.out];exact HST.out)⟩)⟩
              case measure=>simp[intOf])
   ·go_wp2
    go_loopw [6,23] (fun s i wr2=>∃ j:Nat,j≤ts.length∧i=.int .i64 j∧Q w wr2∧s=.string ⟨(Lib.itoa (zb3 (ts.take j) 16)).toArray⟩) (fun _ i _=>ts.length - (intOf i).toNat)
    case atStart=>exact⟨0,by omega,rfl,hQ,by simp[zb3,zR]⟩
    case round =>
     obtain⟨j,hj,rfl,hQ2,rfl⟩:=hrel
     by_cases hlt:j<ts.length
     ·obtain⟨b,o,ha,hb,d0,d1⟩:=hc2.out j hlt
      subst ha
      have c0:=(hQ2.cell (p:=⟨b,o+j*2,none⟩) hb).trans d0
      have c1:=(hQ2.cell (p:=⟨b,o+j*2+1,none⟩) hb).trans d1
      rw[HGET.out j hlt]at c0 c1
      simp only at c0 c1
      have HFJ:=LH (fun w hw=>HF.out 16 (by decide) j hlt w hw)
      have ad:=fun w hw=>zbx (zb3 (ts.take j) 16) (zcV ts[j].1 ts[j].2 16) (by have:=HL.out 16 (by decide) j 0 (by decide);simpa using this) (HFL.out 16 (by decide) j hlt) w hw
      rw[← HTK.out j hlt,zbA (by have:=HL.out 16 (by decide) (j+1) 0 (by decide);simpa using this)]at ad
      have HAD:=LH ad
      have HJ:Hid (j+1≤ts.length):=LH hlt
      have lbr:=Nat.lt_of_lt_of_le hb hQ2.size
      clear d0 d1 ad
      generalize hS1:Lib.itoa (zb3 (ts.take (j+1)) 16)=S1 at *
      have HS1:=LH hS1
      clear hS1
      generalize Lib.itoa (zb3 (ts.take j) 16)=S0 at *
      generalize Lib.itoa (zcV ts[j].1 ts[j].2 16)=FJ at *
      generalize ze ts[j].1=X at *
      generalize Lib.itoa (ts[j].2:Int)=L at *
      have hq0:=hQ2.alloc hQ2.size (Obj.cells [.string ⟨X.toArray⟩,.string ⟨L.toArray⟩].toArray 47)
      go_wp2_with fail
      refine cx (HFJ.out _ (hE.q hq0)) fun w3 hq3=>?_
      have hQ3:=Q.trans hq0 hq3
      go_wp2_with fail
      refine cx (HAD.out _ (hE.q hQ3)) fun w4 hq4=>?_
      have hQ4:=Q.trans hQ3 hq4
      go_wp2
      go_roundw
      case rel=>exact⟨j+1,HJ.out,by go_num,hQ4,by rw[HS1.out]⟩
      case measure=>simp[intOf];omega
     ·obtain rfl:j=ts.length:=by omega
      rw[HALL.out 16]
      have hlF:=HL.out 16 (by decide) ts.length 0 (by decide)
      rw[HALL.out 16,show ((0:Nat):Int)=0 from rfl,Int.add_zero]at hlF
      have hlA:=HL.out 16 (by decide) ts.length
      rw[HALL.out 16]at hlA
      have HLA:=LH hlA
      have k1:=fun w=>za6 (zb3 ts 16) 0 hlF zdr w
      have k2:=fun w=>za6 (zb3 ts 16+ts.length) 0 (HLA.out ts.length HNN.out) zdr w
      rw[zR]at k1 k2
      have hcz:=zfr (zb3 ts 16)
      have hcn:=zfr (zb3 ts 16+ts.length)
      have hstep:zdz ts.length (zb3 ts 16) false=if 0<zb3 ts 16 then some 1 else if zb3 ts 16+ts.length<0∨(zb3 ts 16+ts.length=0∧false=true)then some (-1)else none:=rfl
      have HSTEP:=LH hstep
      clear hlA hlF hstep
      generalize hF:zb3 ts 16=F at *
      have HFq:=LH hF
      clear hF
      generalize Lib.compareInt F 0=cz at *
      generalize Lib.compareInt (F+(ts.length:Int)) 0=cn at *
      have HK1:=LH k1
      have HK2:=LH k2
      clear k1 k2
      go_wp2_with fail
      refine cx (HK1.out _) fun w3 hq3=>?_
      have hQ3:=Q.trans hQ2 hq3
      by_cases hpos2:0<F
      ·have hst:zdz ts.length F false=some 1:=by rw[HSTEP.out,if_pos hpos2]
       have HV:Hid (zeM ts=.tuple #[.int .i64 1,.int .i64 0]):=LH (by unfold zeM;rw[HS.out,g4.out,hst];rfl)
       have hcz1:cz=1:=by omega
       subst hcz1
       clear hcn hcz hst
       go_wp2
       go_ret2
       exact⟨by rw[HV.out];rfl,hQ3⟩
      ·have hcz1:¬ 0<cz:=by omega
       clear hcz
       have HCN:=LH hcn
       have HNP:=LH hpos2
       clear hcn hpos2
       go_wp2
       go_loopw [6,45] (fun s i wr2=>∃ j:Nat,j≤ts.length∧i=.int .i64 j∧Q w wr2∧s=.string ⟨(Lib.itoa (F+j)).toArray⟩) (fun _ i _=>ts.length - (intOf i).toNat)
       case atStart=>exact⟨0,by omega,rfl,hQ3,by simp⟩
       case round =>
        obtain⟨j,hj,rfl,hQ4,rfl⟩:=hrel
        by_cases hlt2:j<ts.length
        ·have ad:=fun w hw=>zbx (F+(j:Int)) 1 (HLA.out j (by have:=HNN.out;omega)) zhs w hw
         have e1:F+(j:Int)+1=F+((j+1:Nat):Int):=by omega
         rw[e1,zbA (HLA.out (j+1) (by have:=HNN.out;omega)),zan]at ad
         have HAD:=LH ad
         have HJ:Hid (j+1≤ts.length):=LH hlt2
         clear ad e1
         generalize hS1:Lib.itoa (F+((j+1:Nat):Int))=S1 at *
         have HS1:=LH hS1
         clear hS1
         generalize Lib.itoa (F+(j:Int))=S0 at *
         go_wp2_with fail
         refine cx (HAD.out _ (hE.q hQ4)) fun w4 hq4=>?_
         have hQ5:=Q.trans hQ4 hq4
         go_wp2
         go_roundw
         case rel=>exact⟨j+1,HJ.out,by go_num,hQ5,by rw[HS1.out]⟩
         case measure=>simp[intOf];omega
        ·obtain rfl:j=ts.length:=by omega
         generalize Lib.itoa (F+(ts.length:Int))=S0 at *
         go_wp2_with fail
         refine cx (HK2.out _) fun w4 hq4=>?_
         have hQ5:=Q.trans hQ4 hq4
         have hways:(Hid (zdz ts.length F false=some (-1))∧(cn<0∨(cn=0∧false=true)))∨(Hid (zdz ts.length F false=none)∧(0<cn∨(cn=0∧false=false))):=by
          have h1:=HCN.out
          have h2:=HNP.out
          rw[HSTEP.out,if_neg (by omega)]
          by_cases h3:F+(ts.length:Int)<0∨(F+(ts.length:Int)=0∧false=true)
          ·refine .inl ⟨LH (by first | exact if_pos h3 | exact if_pos (by simpa using h3)),?_⟩
           rcases h3 with h3 | ⟨h3,h4⟩
           ·exact .inl (by omega)
           ·exact .inr ⟨by omega,h4⟩
          ·refine .inr ⟨LH (by first | exact if_neg h3 | exact if_neg (by simpa using h3)),?_⟩
           by_cases h5:F+(ts.length:Int)=0
           ·refine .inr ⟨by omega,?_⟩
            cases h6:false with
            | false=>rfl
            | true=>exact absurd (Or.inr ⟨h5,h6⟩) h3
           ·exact .inl (by omega)
         clear HCN HNP HSTEP HLA HK1 HK2
         rcases hways with⟨HST,hc1⟩|⟨HST,hc1⟩
         ·have HV:Hid (zeM ts=.tuple #[.int .i64 (-1),.int .i64 0]):=LH (by have hst:=HST.out;unfold zeM;rw[HS.out,g4.out,hst];rfl)
          rcases hc1 with hc1 | ⟨rfl,hc2⟩
          ·go_wp2
           go_ret2
           exact⟨by rw[HV.out];rfl,hQ5⟩
          ·first
            | exact absurd hc2 (by decide)
            | (go_wp2;go_ret2;exact⟨by rw[HV.out];rfl,hQ5⟩)
         ·rcases hc1 with hc1 | ⟨rfl,hc2⟩
          ·have hcn1:¬ cn<0:=by omega
           have hcn0:(cn == 0)=false:=by rw[beq_eq_false_iff_ne];omega
           go_wp2
           go_roundw
           case rel=>exact⟨hQ5,.inr (.inr (.inl ⟨by go_num,g4,LH (by rw[HFq.out];exact HST.out)⟩))⟩
           case measure=>simp[intOf]
          ·first
            | exact absurd hc2 (by decide)
            | (
              go_wp2
              go_roundw
              case rel=>exact⟨hQ5,.inr (.inr (.inl ⟨by go_num,g4,LH (by rw[HFq.out];exact HST.out)⟩))⟩
              case measure=>simp[intOf])
   ·go_wp2
    go_loopw [6,23] (fun s i wr2=>∃ j:Nat,j≤ts.length∧i=.int .i64 j∧Q w wr2∧s=.string ⟨(Lib.itoa (zb3 (ts.take j) 64)).toArray⟩) (fun _ i _=>ts.length - (intOf i).toNat)
    case atStart=>exact⟨0,by omega,rfl,hQ,by simp[zb3,zR]⟩
    case round =>
     obtain⟨j,hj,rfl,hQ2,rfl⟩:=hrel
     by_cases hlt:j<ts.length
     ·obtain⟨b,o,ha,hb,d0,d1⟩:=hc2.out j hlt
      subst ha
      have c0:=(hQ2.cell (p:=⟨b,o+j*2,none⟩) hb).trans d0
      have c1:=(hQ2.cell (p:=⟨b,o+j*2+1,none⟩) hb).trans d1
      rw[HGET.out j hlt]at c0 c1
      simp only at c0 c1
      have HFJ:=LH (fun w hw=>HF.out 64 (by decide) j hlt w hw)
      have ad:=fun w hw=>zbx (zb3 (ts.take j) 64) (zcV ts[j].1 ts[j].2 64) (by have:=HL.out 64 (by decide) j 0 (by decide);simpa using this) (HFL.out 64 (by decide) j hlt) w hw
      rw[← HTK.out j hlt,zbA (by have:=HL.out 64 (by decide) (j+1) 0 (by decide);simpa using this)]at ad
      have HAD:=LH ad
      have HJ:Hid (j+1≤ts.length):=LH hlt
      have lbr:=Nat.lt_of_lt_of_le hb hQ2.size
      clear d0 d1 ad
      generalize hS1:Lib.itoa (zb3 (ts.take (j+1)) 64)=S1 at *
      have HS1:=LH hS1
      clear hS1
      generalize Lib.itoa (zb3 (ts.take j) 64)=S0 at *
      generalize Lib.itoa (zcV ts[j].1 ts[j].2 64)=FJ at *
      generalize ze ts[j].1=X at *
      generalize Lib.itoa (ts[j].2:Int)=L at *
      have hq0:=hQ2.alloc hQ2.size (Obj.cells [.string ⟨X.toArray⟩,.string ⟨L.toArray⟩].toArray 47)
      go_wp2_with fail
      refine cx (HFJ.out _ (hE.q hq0)) fun w3 hq3=>?_
      have hQ3:=Q.trans hq0 hq3
      go_wp2_with fail
      refine cx (HAD.out _ (hE.q hQ3)) fun w4 hq4=>?_
      have hQ4:=Q.trans hQ3 hq4
      go_wp2
      go_roundw
      case rel=>exact⟨j+1,HJ.out,by go_num,hQ4,by rw[HS1.out]⟩
      case measure=>simp[intOf];omega
     ·obtain rfl:j=ts.length:=by omega
      rw[HALL.out 64]
      have hlF:=HL.out 64 (by decide) ts.length 0 (by decide)
      rw[HALL.out 64,show ((0:Nat):Int)=0 from rfl,Int.add_zero]at hlF
      have hlA:=HL.out 64 (by decide) ts.length
      rw[HALL.out 64]at hlA
      have HLA:=LH hlA
      have k1:=fun w=>za6 (zb3 ts 64) 0 hlF zdr w
      have k2:=fun w=>za6 (zb3 ts 64+ts.length) 0 (HLA.out ts.length HNN.out) zdr w
      rw[zR]at k1 k2
      have hcz:=zfr (zb3 ts 64)
      have hcn:=zfr (zb3 ts 64+ts.length)
      have hstep:zdz ts.length (zb3 ts 64) true=if 0<zb3 ts 64 then some 1 else if zb3 ts 64+ts.length<0∨(zb3 ts 64+ts.length=0∧true=true)then some (-1)else none:=rfl
      have HSTEP:=LH hstep
      clear hlA hlF hstep
      generalize hF:zb3 ts 64=F at *
      have HFq:=LH hF
      clear hF
      generalize Lib.compareInt F 0=cz at *
      generalize Lib.compareInt (F+(ts.length:Int)) 0=cn at *
      have HK1:=LH k1
      have HK2:=LH k2
      clear k1 k2
      go_wp2_with fail
      refine cx (HK1.out _) fun w3 hq3=>?_
      have hQ3:=Q.trans hQ2 hq3
      by_cases hpos2:0<F
      ·have hst:zdz ts.length F true=some 1:=by rw[HSTEP.out,if_pos hpos2]
       have HV:Hid (zeM ts=.tuple #[.int .i64 1,.int .i64 0]):=LH (by unfold zeM;rw[HS.out,g4.out,g16.out,hst];rfl)
       have hcz1:cz=1:=by omega
       subst hcz1
       clear hcn hcz hst
       go_wp2
       go_ret2
       exact⟨by rw[HV.out];rfl,hQ3⟩
      ·have hcz1:¬ 0<cz:=by omega
       clear hcz
       have HCN:=LH hcn
       have HNP:=LH hpos2
       clear hcn hpos2
       go_wp2
       go_loopw [6,45] (fun s i wr2=>∃ j:Nat,j≤ts.length∧i=.int .i64 j∧Q w wr2∧s=.string ⟨(Lib.itoa (F+j)).toArray⟩) (fun _ i _=>ts.length - (intOf i).toNat)
       case atStart=>exact⟨0,by omega,rfl,hQ3,by simp⟩
       case round =>
        obtain⟨j,hj,rfl,hQ4,rfl⟩:=hrel
        by_cases hlt2:j<ts.length
        ·have ad:=fun w hw=>zbx (F+(j:Int)) 1 (HLA.out j (by have:=HNN.out;omega)) zhs w hw
         have e1:F+(j:Int)+1=F+((j+1:Nat):Int):=by omega
         rw[e1,zbA (HLA.out (j+1) (by have:=HNN.out;omega)),zan]at ad
         have HAD:=LH ad
         have HJ:Hid (j+1≤ts.length):=LH hlt2
         clear ad e1
         generalize hS1:Lib.itoa (F+((j+1:Nat):Int))=S1 at *
         have HS1:=LH hS1
         clear hS1
         generalize Lib.itoa (F+(j:Int))=S0 at *
         go_wp2_with fail
         refine cx (HAD.out _ (hE.q hQ4)) fun w4 hq4=>?_
         have hQ5:=Q.trans hQ4 hq4
         go_wp2
         go_roundw
         case rel=>exact⟨j+1,HJ.out,by go_num,hQ5,by rw[HS1.out]⟩
         case measure=>simp[intOf];omega
        ·obtain rfl:j=ts.length:=by omega
         generalize Lib.itoa (F+(ts.length:Int))=S0 at *
         go_wp2_with fail
         refine cx (HK2.out _) fun w4 hq4=>?_
         have hQ5:=Q.trans hQ4 hq4
         have hways:(Hid (zdz ts.length F true=some (-1))∧(cn<0∨(cn=0∧true=true)))∨(Hid (zdz ts.length F true=none)∧(0<cn∨(cn=0∧true=false))):=by
          have h1:=HCN.out
          have h2:=HNP.out
          rw[HSTEP.out,if_neg (by omega)]
          by_cases h3:F+(ts.length:Int)<0∨(F+(ts.length:Int)=0∧true=true)
          ·refine .inl ⟨LH (by first | exact if_pos h3 | exact if_pos (by simpa using h3)),?_⟩
           rcases h3 with h3 | ⟨h3,h4⟩
           ·exact .inl (by omega)
           ·exact .inr ⟨by omega,h4⟩
          ·refine .inr ⟨LH (by first | exact if_neg h3 | exact if_neg (by simpa using h3)),?_⟩
           by_cases h5:F+(ts.length:Int)=0
           ·refine .inr ⟨by omega,?_⟩
            cases h6:true with
            | false=>rfl
            | true=>exact absurd (Or.inr ⟨h5,h6⟩) h3
           ·exact .inl (by omega)
         clear HCN HNP HSTEP HLA HK1 HK2
         rcases hways with⟨HST,hc1⟩|⟨HST,hc1⟩
         ·have HV:Hid (zeM ts=.tuple #[.int .i64 (-1),.int .i64 0]):=LH (by have hst:=HST.out;unfold zeM;rw[HS.out,g4.out,g16.out,hst];rfl)
          rcases hc1 with hc1 | ⟨rfl,hc2⟩
          ·go_wp2
           go_ret2
           exact⟨by rw[HV.out];rfl,hQ5⟩
          ·first
            | exact absurd hc2 (by decide)
            | (go_wp2;go_ret2;exact⟨by rw[HV.out];rfl,hQ5⟩)
         ·rcases hc1 with hc1 | ⟨rfl,hc2⟩
          ·have hcn1:¬ cn<0:=by omega
           have hcn0:(cn == 0)=false:=by rw[beq_eq_false_iff_ne];omega
           go_wp2
           go_roundw
           case rel=>exact⟨hQ5,.inr (.inr (.inr ⟨by go_num,LH (by rw[HS.out,g4.out,g16.out];exact HST.out)⟩))⟩
           case measure=>simp[intOf]
          ·first
            | exact absurd hc2 (by decide)
            | (
              go_wp2
              go_roundw
              case rel=>exact⟨hQ5,.inr (.inr (.inr ⟨by go_num,LH (by rw[HS.out,g4.out,g16.out];exact HST.out)⟩))⟩
              case measure=>simp[intOf])
   ·have HV:Hid (zeM ts=.tuple #[.int .i64 0,.int .i64 4]):=LH (by unfold zeM;rw[gn.out])
    go_wp2
    go_ret2
    exact⟨by rw[HV.out];rfl,hQ⟩
end
end Go.Proofs.YthdpnkkddhcacaaGreatDoor
namespace Go.Proofs
open Go.Shelf
def Tryz.growSurd_ren:Go.Shelf.Ren:=⟨fun | 4=>234 | n=>n,fun | 22=>40 | 25=>47 | 20=>20 | 9=>9 | 3=>3 | 4=>4 | 0=>0 | n=>n,fun | n=>n⟩
theorem Tryz.growSurd:Go.Proofs.Lays8.n4 Tryz.prog Tryz.growSurd_ren:={
 mixed:=by kernel_rfl
 f4:=⟨Tryz.f234.name,by decide,Tryz.func234.trans (congrArg some (by kernel_rfl))⟩
 t0:=Tryz.underlying0
 a0:=Tryz.isAgg0
 z0:=Tryz.sizeOf0
 v0:=Tryz.zeroValue0
 t3:=Tryz.underlying3
 a3:=Tryz.isAgg3
 z3:=Tryz.sizeOf3
 v3:=Tryz.zeroValue3
 t4:=Tryz.underlying4
 a4:=Tryz.isAgg4
 z4:=Tryz.sizeOf4
 v4:=Tryz.zeroValue4
 t9:=Tryz.underlying9
 a9:=Tryz.isAgg9
 z9:=Tryz.sizeOf9
 v9:=Tryz.zeroValue9
 t20:=Tryz.underlying20
 a20:=Tryz.isAgg20
 z20:=Tryz.sizeOf20
 v20:=Tryz.zeroValue20
 t22:=Tryz.underlying40
 a22:=Tryz.isAgg40
 z22:=Tryz.sizeOf40
 v22:=Tryz.zeroValue40 }
end Go.Proofs
namespace Go.Proofs.YthdpnkkddhcacaaGreatDoor
section
open Go.RowKit Kp
theorem TSl.open{w:World}{B:Nat}{v:Value}{l:List (Str × Str)}(h:TSl w B v l)(hl:0<l.length):∃ b o cap,v=.slice (some ⟨b,o,none⟩) l.length cap∧b<B∧B≤w.heap.size∧∀ j u,(zca l)[j]? = some u→w.cell? ((⟨b,o,none⟩:Addr).add j)=some u:=by
 obtain⟨a,cap,rfl,hB,hc⟩:=h
 obtain⟨b,o,rfl,hb,-,-⟩:=hc 0 hl
 refine⟨b,o,cap,rfl,hb,hB,fun j u hu=>?_⟩
 have hj:j<l.length*2:=by
  rw[← zgq]
  exact(List.getElem?_eq_some_iff.1 hu).1
 have hadd:(⟨b,o,none⟩:Addr).add j=⟨b,o+j,none⟩:=by unfold Addr.add;split <;> simp_all
 rw[hadd]
 obtain⟨b',o',he,-,c0,c1⟩:=hc (j / 2) (by omega)
 cases he
 obtain⟨g0,g1⟩:=zgr l (j / 2) (by omega)
 rcases Nat.mod_two_eq_zero_or_one j with hm | hm
 ·have e:j / 2*2=j:=by omega
  rw[e]at c0 g0
  rw[hu]at g0
  rw[c0,← g0]
 ·have e:j / 2*2+1=j:=by omega
  have e2:o+j / 2*2+1=o+j:=by omega
  rw[e2]at c1
  rw[e,hu]at g1
  rw[c1,← g1]
theorem zjD(n:Nat)(hn:0<n)(hn2:n≤100000)(w:World) :
  Calls Tryz.prog 234 #[.slice none 0 0,.int .i64 n] w fun e w'=>∃ v,e=.returned v∧Q w w'∧w'.ownsRow w.heap.size 47 2 v 0 []∧∃ g cap,v=.slice (some ⟨g,0,none⟩) 0 cap:=by
 obtain⟨i0,hi,hz0,hz1,hz2⟩:=zco zeo
 refine(Any8.slices_Grow_grow Tryz.growSurd i0 _ hi hz0 (by rw[hz1];decide) none 0 0 n [] w (Nat.le_refl _) (by omega) (by rw[hz2];omega) (by omega) (by simp) (fun _=>rfl) (fun a h=>by cases h)).mono ?_
 rintro e w'⟨rfl,rfl⟩
 have hcap:Go.grownCap w (0+n) 0 47≤maxLen:=Go.grownCap_le_maxLen w (0+n) 0 _ (by unfold maxLen;omega)
 have hge:0+n≤Go.grownCap w (0+n) 0 47:=Go.grownCap_ge w _ _ _
 refine⟨_,rfl,(Below.refl _ w).drew.alloc (Nat.le_refl _) _,⟨rfl,.inr ⟨w.heap.size,_,_,rfl,Nat.le_refl _,heap_alloc_new w.drew _,Nat.zero_le _,hcap,?_,by simp⟩⟩,_,_,rfl⟩
 rw[Array.size_append,Array.size_append,size_zeroCells,size_zeroCells]
 have e2:(Value.agg #[.string ⟨#[]⟩,.string ⟨#[]⟩]).cells.size=2:=rfl
 rw[e2]
 rw[show Tryz.growSurd_ren.t 25=47 from rfl]
 simp only[List.size_toArray,List.length_nil]
 omega
theorem znd(l1 l2:List (Str × Str))(h1:0<l1.length)(h2:0<l2.length)(n1:l1.length≤1000)(n2:l2.length≤1000)(v1 v2:Value)(b:Nat)(t:TypeId)(w:World)(hb:Blk w b [v1,v2] t)(s1:TSl w w.heap.size v1 l1)(s2:TSl w w.heap.size v2 l2) :
  Calls Tryz.prog 157 #[.slice (some ⟨b,0,none⟩) 2 2] w fun e w'=>∃ v,e=.returned v∧Q w w'∧w'.ownsRow w.heap.size 47 2 v (l1++l2).length (zca (l1++l2)):=by
 have S1:=LH s1
 have S2:=LH s2
 obtain⟨b1,o1,cap1,rfl,-,-,-⟩:=s1.open h1
 obtain⟨b2,o2,cap2,rfl,-,-,-⟩:=s2.open h2
 have hg:=fun w=>zjD (l1.length+l2.length) (by omega) (by omega) w
 rw[Int.natCast_add]at hg
 have HG:=LH hg
 clear s1 s2 hg
 rw[List.length_append,zgs]
 have HN1:=LH (fun(W:World) (hq:Q w W) (j:Nat) (u:Value) (hu:(zca l1)[j]? = some u)=>by
  obtain⟨b',o',cap',hv,_,_,hc⟩:=(S1.out.keep hq (Nat.le_refl _)).open h1
  cases hv
  exact hc j u hu)
 have HN2:=LH (fun(W:World) (hq:Q w W) (j:Nat) (u:Value) (hu:(zca l2)[j]? = some u)=>by
  obtain⟨b',o',cap',hv,_,_,hc⟩:=(S2.out.keep hq (Nat.le_refl _)).open h2
  cases hv
  exact hc j u hu)
 have HL1:=LH (zgq l1)
 have HL2:=LH (zgq l2)
 have HO1:=LH (zgp l1)
 have HO2:=LH (zgp l2)
 generalize zca l1=r1 at *
 generalize zca l2=r2 at *
 generalize l1.length=m1 at *
 generalize l2.length=m2 at *
 have lb:=hb.lt
 obtain⟨i0,hi,hz0,hz1,hz2⟩:=zco zeo
 have HI:=LH hi
 have HZ:=LH hz0
 have HS:=LH hz1
 have HBy:=LH hz2
 clear hi hz0 hz1 hz2
 have c0:=hb.cell 0
 have c1:=hb.cell 1
 simp only[zs4,zs5]at c0 c1
 have w1i:=Go.IntWalk.i64_in ((m1:Int)+(m2:Int)) (by omega)
 have w1j:=Go.IntWalk.i64_in ((0:Int)+(m1:Int)) (by omega)
 go_enter Tryz.func157,Tryz.ntmps157
 go_wp2
 go_loop [3,11] (fun sz i=>(i=.int .i64 0∧sz=.int .i64 0)∨(i=.int .i64 1∧sz=.int .i64 m1)∨(i=.int .i64 2∧sz=.int .i64 ((m1:Int)+(m2:Int)))) (fun _ i=>2 - (intOf i).toNat)
 case atStart=>exact .inl ⟨rfl,rfl⟩
 case round =>
  rcases hrel with⟨rfl,rfl⟩|⟨rfl,rfl⟩|⟨rfl,rfl⟩
  ·go_wp2
   go_round
   case rel=>exact .inr (.inl ⟨rfl,by go_num⟩)
   case measure=>simp[intOf]
  ·go_wp2
   go_round
   case rel=>exact .inr (.inr ⟨rfl,by go_num⟩)
   case measure=>simp[intOf]
  ·go_wp2_with fail
   refine(HG.out _).mono ?_
   rintro e w1⟨v,rfl,hq1,hr1,g1,gc1,rfl⟩
   clear c0 c1
   have hb1:=hb.keep hq1 lb
   go_wp2
   go_loopw [6,27] (fun o i wr=>Q w wr∧((i=.int .i64 0∧o=.slice (some ⟨g1,0,none⟩) 0 gc1∧wr.ownsRow w.heap.size 47 2 o 0 [])∨(i=.int .i64 1∧wr.ownsRow w.heap.size 47 2 o m1 r1)∨(i=.int .i64 2∧wr.ownsRow w.heap.size 47 2 o (m1+m2) (r1++r2)))) (fun _ i _=>2 - (intOf i).toNat)
   case atStart=>exact⟨hq1,.inl ⟨rfl,rfl,hr1⟩⟩
   case round =>
    obtain⟨hQ,⟨rfl,rfl,hrow⟩|⟨rfl,hrow⟩|⟨rfl,hrow⟩⟩:=hrel
    ·have hbr:=hb.keep hQ lb
     have c0:=hbr.cell 0
     simp only[List.getElem?_cons_zero]at c0
     have lbr:=hbr.lt
     go_wp2_with (at_builtin;refine wpList_append_lies _ (by rfl) (.tmp 31) (.tmp 32) 40 (by rfl) w.heap.size 47 i0 _ 2 32 Tryz.underlying40 HI.out HZ.out HS.out HBy.out rfl (by decide) (.slice (some ⟨g1,0,none⟩) 0 gc1) 0 [] (by rfl) hrow ⟨b1,o1,none⟩ m1 cap1 r1 (by rfl) HL1.out (HN1.out _ hQ) HO1.out h1 (by unfold maxLen;omega) (by omega) hQ.size _ (by rfl) ?_;intro g4 cap4 w4 hown4 hgrow4 hat4 hlt4)
     go_roundw
     case rel=>exact⟨hQ.grown hgrow4 hQ.size (fun k hk=>(hrow.lt k hk).1),.inr (.inl ⟨rfl,by rw[Nat.zero_add,List.nil_append]at hown4;simpa using hown4⟩)⟩
     case measure=>simp[intOf]
    ·obtain⟨g5,gc5,rfl,-,-⟩:=hrow.form h1
     have hbr:=hb.keep hQ lb
     have c1:=hbr.cell 1
     simp only[zs4,zs5]at c1
     have lbr:=hbr.lt
     go_wp2_with (at_builtin;refine wpList_append_lies _ (by rfl) (.tmp 31) (.tmp 32) 40 (by rfl) w.heap.size 47 i0 _ 2 32 Tryz.underlying40 HI.out HZ.out HS.out HBy.out rfl (by decide) (.slice (some ⟨g5,0,none⟩) m1 gc5) m1 r1 (by rfl) hrow ⟨b2,o2,none⟩ m2 cap2 r2 (by rfl) HL2.out (HN2.out _ hQ) HO2.out h2 (by unfold maxLen;omega) (by omega) hQ.size _ (by rfl) ?_;intro g4 cap4 w4 hown4 hgrow4 hat4 hlt4)
     go_roundw
     case rel=>exact⟨hQ.grown hgrow4 hQ.size (fun k hk=>(hrow.lt k hk).1),.inr (.inr ⟨rfl,hown4⟩)⟩
     case measure=>simp[intOf]
    ·go_wp2
     go_ret
     exact⟨_,rfl,hQ,hrow⟩
def zeN(c:Rat)(ts:List (Rat × Nat)):List (Rat × Nat):=ts.map fun t=>(t.1*c,t.2)
theorem zhf(c:Rat)(ts:List (Rat × Nat)):(zeN c ts).length=ts.length:=List.length_map _
theorem ziT{w:World}{base n:Nat}{t:TypeId}{v:Value}{xs:List Value}(h:w.ownsRow base t 2 v n xs):(v=.slice none 0 0∧n=0)∨∃ g cap,v=.slice (some ⟨g,0,none⟩) n cap:=by
 rcases h.2 with⟨hv,h0⟩|⟨g,cap,cur,hv,_⟩
 ·exact .inl ⟨hv,h0⟩
 ·exact .inr ⟨g,cap,hv⟩
theorem zqu{l:List (Str × Str)}{k:Nat}(h:k<l.length):zca (l.take (k+1))=zca (l.take k)++[.string ⟨(l[k]).1.toArray⟩,.string ⟨(l[k]).2.toArray⟩]:=by
 rw[List.take_succ_eq_append_getElem h,zgs];rfl
theorem znb(ts:List (Rat × Nat))(c:Rat)(bc:Bd 60 c)(hts:∀ t∈ts,Bd 60 t.1)(hn:ts.length≤1000)(v:Value)(w:World)(hE:Env w)(hsl:TSl w w.heap.size v (ts.map ofC)) :
  Calls Tryz.prog 156 #[v,.string ⟨(ze c).toArray⟩] w fun e w'=>∃ v',e=.returned (.tuple #[v',.int .i64 0])∧Q w w'∧w'.ownsRow w.heap.size 47 2 v' ((zeN c ts).map ofC).length (zca ((zeN c ts).map ofC)):=by
 obtain⟨a,cap,rfl,-,hc⟩:=hsl
 rw[List.length_map]at hc
 rw[List.length_map,List.length_map,zhf]
 obtain⟨i0,hi,hz0,hz1,hz2⟩:=zco zeo
 have HI:=LH hi
 have HZ:=LH hz0
 have HS:=LH hz1
 have HBy:=LH hz2
 clear hi hz0 hz1 hz2
 have HNN:=LH hn
 go_enter Tryz.func156,Tryz.ntmps156
 go_wp2
 go_loopw [6,13] (fun o i wr=>∃ k:Nat,k≤ts.length∧i=.int .i64 k∧Q w wr∧wr.ownsRow w.heap.size 47 2 o k (zca (((zeN c ts).map ofC).take k))) (fun _ i _=>ts.length - (intOf i).toNat)
 case atStart=>exact⟨0,by omega,rfl,Q.refl _,World.ownsRow_nil _ _ _ _⟩
 case round =>
  obtain⟨k,hk,rfl,hQ,hrow⟩:=hrel
  by_cases hlt:k<ts.length
  ·obtain⟨b,o1,ha,hb,d0,d1⟩:=hc k hlt
   subst ha
   have c0:=(hQ.cell (p:=⟨b,o1+k*2,none⟩) hb).trans d0
   have c1:=(hQ.cell (p:=⟨b,o1+k*2+1,none⟩) hb).trans d1
   have hlm:k<((zeN c ts).map ofC).length:=by rw[List.length_map,zhf];exact hlt
   have hT:Hid (zca (((zeN c ts).map ofC).take (k+1))=zca (((zeN c ts).map ofC).take k)++[.string ⟨(ze (ts[k].1*c)).toArray⟩,.string ⟨(Lib.itoa (ts[k].2:Int)).toArray⟩]):=LH (by
    rw[zqu hlm];simp only[List.getElem_map,zeN,ofC])
   have hget:(ts.map ofC).getD k ([],[])=ofC ts[k]:=by rw[List.getD_eq_getElem?_getD,List.getElem?_map,List.getElem?_eq_getElem hlt];rfl
   rw[hget]at c0 c1
   have HM:=LH (fun w hw=>zbk ts[k].1 c (hts ts[k] (List.getElem_mem hlt)) bc (by decide) w hw)
   have HR:=LH hrow
   have HK:Hid (k+1≤ts.length):=LH hlt
   have lbr:b<wr.heap.size:=Nat.lt_of_lt_of_le hb hQ.size
   simp only[ofC]at c0 c1
   clear hget d0 d1 hc hlm hts hrow
   generalize zca (((zeN c ts).map ofC).take k)=rk at *
   generalize ze (ts[k].1*c)=P at *
   generalize Lib.itoa (ts[k].2:Int)=L at *
   generalize ze ts[k].1=X at *
   generalize ze c=C at *
   rcases ziT HR.out with⟨hv0,-⟩|⟨g9,gc9,hv9⟩
   ·subst hv0
    have hq0:=hQ.alloc hQ.size (Obj.cells [.string ⟨X.toArray⟩,.string ⟨L.toArray⟩].toArray 47)
    have T:=Blk.new wr [.string ⟨X.toArray⟩,.string ⟨L.toArray⟩] 47
    go_wp2_with fail
    refine cx (HM.out _ (hE.q hq0)) fun w3 hq3=>?_
    have hQ3:=Q.trans hq0 hq3
    have T3:=T.keep hq3 T.lt
    have p1:=T3.cell 1
    have lt3:=T3.lt
    simp only[zs4,zs5]at p1
    have hown:=zn (HR.out.alloc (Obj.cells [.string ⟨X.toArray⟩,.string ⟨L.toArray⟩].toArray 47)) hq3
    have hnew:=Blk.new w3 [.string ⟨P.toArray⟩,.string ⟨L.toArray⟩] 47
    have hsz3:w.heap.size≤w3.heap.size:=hQ3.size
    have hkn:k≤1000:=by have:=HNN.out;omega
    have hown2:=hown.alloc (Obj.cells [.string ⟨P.toArray⟩,.string ⟨L.toArray⟩].toArray 47)
    clear c0 c1 hq3 hq0 T T3
    go_wp2_with (at_builtin;refine wpList_append_lies _ (by rfl) (.tmp 27) (.tmp 32) 39 (by rfl) w.heap.size 47 i0 _ 2 32 Tryz.underlying39 HI.out HZ.out HS.out HBy.out rfl (by decide) (.slice none 0 0) k rk (by rfl) hown2 ⟨w3.heap.size,0,none⟩ 1 1 [.string ⟨P.toArray⟩,.string ⟨L.toArray⟩] (by rfl) (by rfl) (World.news_of_block (cs:=#[.string ⟨P.toArray⟩,.string ⟨L.toArray⟩]) (t:=47) (fr:=(0,0)) hnew) (by simp[Value.oneCell']) (by decide) (by unfold maxLen;omega) (by omega) (by simp;omega) (w3.heap.size+1) (by simp) ?_;intro g4 cap4 w5 hown4 hgrow4 hat4 hlt4)
    go_roundw
    case rel =>
     exact⟨k+1,HK.out,by go_num,(hQ3.alloc hQ3.size _).grown hgrow4 (by simp;omega) (fun q hq=>(hown2.lt q hq).1),by rw[hT.out];exact hown4⟩
    case measure=>simp[intOf];omega
   ·subst hv9
    have hq0:=hQ.alloc hQ.size (Obj.cells [.string ⟨X.toArray⟩,.string ⟨L.toArray⟩].toArray 47)
    have T:=Blk.new wr [.string ⟨X.toArray⟩,.string ⟨L.toArray⟩] 47
    go_wp2_with fail
    refine cx (HM.out _ (hE.q hq0)) fun w3 hq3=>?_
    have hQ3:=Q.trans hq0 hq3
    have T3:=T.keep hq3 T.lt
    have p1:=T3.cell 1
    have lt3:=T3.lt
    simp only[zs4,zs5]at p1
    have hown:=zn (HR.out.alloc (Obj.cells [.string ⟨X.toArray⟩,.string ⟨L.toArray⟩].toArray 47)) hq3
    have hnew:=Blk.new w3 [.string ⟨P.toArray⟩,.string ⟨L.toArray⟩] 47
    have hsz3:w.heap.size≤w3.heap.size:=hQ3.size
    have hkn:k≤1000:=by have:=HNN.out;omega
    have hown2:=hown.alloc (Obj.cells [.string ⟨P.toArray⟩,.string ⟨L.toArray⟩].toArray 47)
    clear c0 c1 hq3 hq0 T T3
    go_wp2_with (at_builtin;refine wpList_append_lies _ (by rfl) (.tmp 27) (.tmp 32) 39 (by rfl) w.heap.size 47 i0 _ 2 32 Tryz.underlying39 HI.out HZ.out HS.out HBy.out rfl (by decide) (.slice (some ⟨g9,0,none⟩) k gc9) k rk (by rfl) hown2 ⟨w3.heap.size,0,none⟩ 1 1 [.string ⟨P.toArray⟩,.string ⟨L.toArray⟩] (by rfl) (by rfl) (World.news_of_block (cs:=#[.string ⟨P.toArray⟩,.string ⟨L.toArray⟩]) (t:=47) (fr:=(0,0)) hnew) (by simp[Value.oneCell']) (by decide) (by unfold maxLen;omega) (by omega) (by simp;omega) (w3.heap.size+1) (by simp) ?_;intro g4 cap4 w5 hown4 hgrow4 hat4 hlt4)
    go_roundw
    case rel =>
     exact⟨k+1,HK.out,by go_num,(hQ3.alloc hQ3.size _).grown hgrow4 (by simp;omega) (fun q hq=>(hown2.lt q hq).1),by rw[hT.out];exact hown4⟩
    case measure=>simp[intOf];omega
  ·obtain rfl:k=ts.length:=by omega
   rw[List.take_of_length_le (by rw[List.length_map,zhf];exact Nat.le_refl _)]at hrow
   clear hc hts
   go_wp2
   go_ret2
   exact⟨_,rfl,hQ,hrow⟩
theorem TSl.raise{w:World}{B B':Nat}{v:Value}{l:List (Str × Str)}(h:TSl w B v l)(h1:B≤B')(h2:B'≤w.heap.size):TSl w B' v l:=by
 obtain⟨a,cap,rfl,-,hc⟩:=h
 refine⟨a,cap,rfl,h2,fun i hi=>?_⟩
 obtain⟨b,o,ha,hb,c0,c1⟩:=hc i hi
 exact⟨b,o,ha,by omega,c0,c1⟩
theorem zgo{w:World}{base n:Nat}{t:TypeId}{v:Value}{xs:List Value}(h:w.ownsRow base t 2 v n xs):∃ a cap,v=.slice a n cap:=by
 rcases h.2 with⟨hv,h0⟩|⟨g,cap,cur,hv,_⟩
 ·exact⟨none,0,by rw[hv,h0]⟩
 ·exact⟨some ⟨g,0,none⟩,cap,hv⟩
theorem zqF(cs:List (Rat × Nat))(c:Rat × Nat):zex (cs++[c])=if c.1=0 then zex cs else zex cs++[c]:=by
 unfold zex
 rw[List.filter_append]
 by_cases h:c.1=0
 ·rw[if_pos h];simp[h]
 ·rw[if_neg h];simp[h]
theorem ziw(cs:List (Rat × Nat)):(zex cs).length≤cs.length:=List.length_filter_le ..
def Sorts(l r:List (Rat × Nat)):Prop:=∀ (base:Nat) (W:World) (o:Value),Env W→ng≤base→W.ownsRow base 47 2 o (l.map ofC).length (zca (l.map ofC)) →
 Calls Tryz.prog 82 #[o,.func (.func 83) #[] #[]] W fun e W'=>(∃ u,e=.returned u)∧Below base W W'∧W'.ownsRow base 47 2 o (l.map ofC).length (zca (r.map ofC))
theorem zrU(s1 s2:Str)(l m:Nat)(hl:lim (l:Int)=false)(hm:lim (m:Int)=false)(w:World)(hE:Env w) :
  CR 83 #[.agg #[.string ⟨s1.toArray⟩,.string ⟨(Lib.itoa (l:Int)).toArray⟩],.agg #[.string ⟨s2.toArray⟩,.string ⟨(Lib.itoa (m:Int)).toArray⟩]] w (.int .i64 (Lib.compareInt l m)):=by
 have HC:=LH (fun w hw=>zbY l m hl hm w hw)
 generalize Lib.itoa (l:Int)=L at *
 generalize Lib.itoa (m:Int)=M at *
 generalize Lib.compareInt (l:Int) (m:Int)=c at *
 go_enter Tryz.func83,Tryz.ntmps83
 go_wp2_with fail
 have C1:=(Blk.new w [.string ⟨s1.toArray⟩,.string ⟨L.toArray⟩] 47).alloc (.cells #[.string ⟨s2.toArray⟩,.string ⟨M.toArray⟩] 47)
 refine cx (HC.out _ (hE.q bt)) fun w1 hq1=>?_
 have hQ1:Q w w1:=Q.trans (show Below w.heap.size w _ from bt) hq1
 go_wp2
 go_ret
 exact⟨rfl,hQ1⟩
theorem zlz(s1 s2:Str)(l m:Nat)(hl:lim (l:Int)=false)(hm:lim (m:Int)=false)(base g cap:Nat)(w:World)(hE:Env w)(_hng:ng≤base)
  (hr:w.ownsRow base 47 2 (.slice (some ⟨g,0,none⟩) 2 cap) 2 [.string ⟨s1.toArray⟩,.string ⟨(Lib.itoa (l:Int)).toArray⟩,.string ⟨s2.toArray⟩,.string ⟨(Lib.itoa (m:Int)).toArray⟩]) :
  Calls Tryz.prog 223 #[.slice (some ⟨g,0,none⟩) 2 cap,.int .i64 0,.int .i64 2,.func (.func 83) #[] #[]] w fun e w'=>(∃ v,e=.returned v)∧Below base w w' ∧
   w'.ownsRow base 47 2 (.slice (some ⟨g,0,none⟩) 2 cap) 2 (if m<l then [.string ⟨s2.toArray⟩,.string ⟨(Lib.itoa (m:Int)).toArray⟩,.string ⟨s1.toArray⟩,.string ⟨(Lib.itoa (l:Int)).toArray⟩]else [.string ⟨s1.toArray⟩,.string ⟨(Lib.itoa (l:Int)).toArray⟩,.string ⟨s2.toArray⟩,.string ⟨(Lib.itoa (m:Int)).toArray⟩]):=by
 obtain⟨g',cap',hv,hbg,hgw⟩:=hr.form (by decide)
 cases hv
 have HCMP:=LH (fun w hw=>zrU s2 s1 m l hm hl w hw)
 have hcmp:(m<l∧Lib.compareInt (m:Int) (l:Int) = -1)∨(¬ m<l∧0≤Lib.compareInt (m:Int) (l:Int)):=by
  unfold Lib.compareInt
  by_cases h:m<l
  ·exact .inl ⟨h,by rw[if_pos (by omega)]⟩
  ·exact .inr ⟨h,by rw[if_neg (by omega)];split <;> decide⟩
 generalize Lib.compareInt (m:Int) (l:Int)=c at *
 have hro:=hr
 generalize Lib.itoa (l:Int)=L at *
 generalize Lib.itoa (m:Int)=M at *
 have c0:w.drew.cell? ⟨g,0,none⟩=some (.string ⟨s1.toArray⟩):=hr.cellAt 0 (by decide)
 have c1:w.drew.cell? ⟨g,1,none⟩=some (.string ⟨L.toArray⟩):=hr.cellAt 1 (by decide)
 have c2:w.drew.cell? ⟨g,2,none⟩=some (.string ⟨s2.toArray⟩):=hr.cellAt 2 (by decide)
 have c3:w.drew.cell? ⟨g,3,none⟩=some (.string ⟨M.toArray⟩):=hr.cellAt 3 (by decide)
 obtain⟨R,hR⟩:∃ R:List Value,(if m<l then [.string ⟨s2.toArray⟩,.string ⟨M.toArray⟩,.string ⟨s1.toArray⟩,.string ⟨L.toArray⟩]else [.string ⟨s1.toArray⟩,.string ⟨L.toArray⟩,.string ⟨s2.toArray⟩,.string ⟨M.toArray⟩])=R:=⟨_,rfl⟩
 rw[hR]
 have HRR:=LH hR
 have hw0:IntKind.i64.wrap 0=0:=by decide
 have hw1:IntKind.i64.wrap 1=1:=by decide
 clear hR hl hm
 go_enter Tryz.func223,Tryz.ntmps223
 go_wp2
 go_loopw [8] (fun i wr=>(i=.int .i64 1∧wr=w)∨(i=.int .i64 2∧Below base w wr∧wr.ownsRow base 47 2 (.slice (some ⟨g,0,none⟩) 2 cap) 2 R)) (fun i _=>2 - (intOf i).toNat)
 case atStart=>exact .inl ⟨rfl,rfl⟩
 case round =>
  rcases hrel with⟨rfl,rfl⟩|⟨rfl,hB,hrow⟩
  ·go_wp2
   go_loopw [9] (fun j wr2=>(j=.int .i64 1∧wr2=wr)∨(j=.int .i64 0∧Below base wr wr2∧wr2.ownsRow base 47 2 (.slice (some ⟨g,0,none⟩) 2 cap) 2 R)) (fun j _=>(intOf j).toNat)
   case atStart=>exact .inl ⟨rfl,rfl⟩
   case round =>
    rcases hrel with⟨rfl,rfl⟩|⟨rfl,hB,hrow⟩
    ·rcases hcmp with⟨hlt,rfl⟩|⟨hlt,hc0⟩
     ·go_wp2_with fail
      refine zm 17 rfl (by kernel_rfl) rfl ?_
      refine svp 0 ?_
      refine svp 1 ?_
      refine svp 2 ?_
      refine svp 3 ?_
      refine svp 4 ?_
      refine svp 5 ?_
      refine svp 6 ?_
      refine svp 7 ?_
      refine svq 8 rfl (by intro w' hq;have hc0:=za hq c2;have hc1:=za hq c3;go_simp;try with_reducible rfl) ?_
      refine svp 9 ?_
      refine svp 10 ?_
      refine svp 11 ?_
      refine svp 12 ?_
      refine svq 13 rfl (by intro w' hq;have hc0:=za hq c0;have hc1:=za hq c1;go_simp;try with_reducible rfl) ?_
      refine zh (i:=14) (v:=_) rfl rfl (by kernel_rfl) (by kernel_rfl) (fun _ _ _ h=>h) (by rfl) ?_ (fun w' hq=>HCMP.out w' (hE.q (Below.trans (Below.drew (Q.refl _)) hq))) ?_
      ·(intro w' hq;go_simp;try with_reducible rfl)
      simp only[Act.put,zs1,zs2,zs3]
      refine svp 15 ?_
      refine svp 16 ?_
      refine zi (by kernel_rfl) (fun w3 hq3=>?_)
      simp only[List.drop_succ_cons,List.drop_nil]
      have hQ3:Q wr w3:=Below.trans (Below.drew (Q.refl _)) hq3
      have hr3:=(zn hro hQ3).drew
      have k0:=hr3.cellAt 0 (by decide)
      have k1:=hr3.cellAt 1 (by decide)
      have k2:=hr3.cellAt 2 (by decide)
      have k3:=hr3.cellAt 3 (by decide)
      have f0:=hr3.frozenAt 0
      have f1:=hr3.frozenAt 1
      have f2:=hr3.frozenAt 2
      have f3:=hr3.frozenAt 3
      simp only[zs4,zs5]at k0 k1 k2 k3
      have hr3':=zn hro hQ3
      have k0':=hr3'.cellAt 0 (by decide)
      have k1':=hr3'.cellAt 1 (by decide)
      have k2':=hr3'.cellAt 2 (by decide)
      have k3':=hr3'.cellAt 3 (by decide)
      have f0':=hr3'.frozenAt 0
      have f1':=hr3'.frozenAt 1
      have f2':=hr3'.frozenAt 2
      have f3':=hr3'.frozenAt 3
      simp only[zs4,zs5]at k0' k1' k2' k3'
      have hr4:=((((hr3.stored 2 (.string ⟨s1.toArray⟩)).1.stored 3 (.string ⟨L.toArray⟩)).1.stored 0 (.string ⟨s2.toArray⟩)).1.stored 1 (.string ⟨M.toArray⟩)).1
      have HR4:Hid ((((w3.drew.setCell ⟨g,2,none⟩ (.string ⟨s1.toArray⟩)).setCell ⟨g,3,none⟩ (.string ⟨L.toArray⟩)).setCell ⟨g,0,none⟩ (.string ⟨s2.toArray⟩)).setCell ⟨g,1,none⟩ (.string ⟨M.toArray⟩) |>.ownsRow base 47 2 (.slice (some ⟨g,0,none⟩) 2 cap) 2 R):=LH (by
       rw[← HRR.out,if_pos hlt];exact hr4)
      have hB3:Below base wr w3.drew:=(hQ3.mono (Nat.le_of_lt (Nat.lt_of_le_of_lt hbg hgw))).drew
      have HB4:Hid (Below base wr ((((w3.drew.setCell ⟨g,2,none⟩ (.string ⟨s1.toArray⟩)).setCell ⟨g,3,none⟩ (.string ⟨L.toArray⟩)).setCell ⟨g,0,none⟩ (.string ⟨s2.toArray⟩)).setCell ⟨g,1,none⟩ (.string ⟨M.toArray⟩))) :=
       LH ((((hB3.setCell (p:=⟨g,2,none⟩) hbg _).setCell (p:=⟨g,3,none⟩) hbg _).setCell (p:=⟨g,0,none⟩) hbg _).setCell (p:=⟨g,1,none⟩) hbg _)
      clear hr3 hr3' hr4 hB3 hQ3 hq3 c0 c1 c2 c3 HCMP hlt
      go_wp2_with fail
      go_big_region
      all_goals go_wp2
      go_roundw
      case rel=>exact .inr ⟨rfl,HB4.out,HR4.out⟩
      case measure=>simp[intOf]
     ·have hRe:Hid (R=[.string ⟨s1.toArray⟩,.string ⟨L.toArray⟩,.string ⟨s2.toArray⟩,.string ⟨M.toArray⟩]):=LH (by rw[← HRR.out,if_neg hlt])
      have hcn:¬ c<0:=by omega
      clear hlt
      go_wp2_with fail
      refine zm 17 rfl (by kernel_rfl) rfl ?_
      refine svp 0 ?_
      refine svp 1 ?_
      refine svp 2 ?_
      refine svp 3 ?_
      refine svp 4 ?_
      refine svp 5 ?_
      refine svp 6 ?_
      refine svp 7 ?_
      refine svq 8 rfl (by intro w' hq;have hc0:=za hq c2;have hc1:=za hq c3;go_simp;try with_reducible rfl) ?_
      refine svp 9 ?_
      refine svp 10 ?_
      refine svp 11 ?_
      refine svp 12 ?_
      refine svq 13 rfl (by intro w' hq;have hc0:=za hq c0;have hc1:=za hq c1;go_simp;try with_reducible rfl) ?_
      refine zh (i:=14) (v:=_) rfl rfl (by kernel_rfl) (by kernel_rfl) (fun _ _ _ h=>h) (by rfl) ?_ (fun w' hq=>HCMP.out w' (hE.q (Below.trans (Below.drew (Q.refl _)) hq))) ?_
      ·(intro w' hq;go_simp;try with_reducible rfl)
      simp only[Act.put,zs1,zs2,zs3]
      refine svp 15 ?_
      refine svp 16 ?_
      refine zi (by kernel_rfl) (fun w3 hq3=>?_)
      simp only[List.drop_succ_cons,List.drop_nil]
      have hQ3:Q wr w3:=Below.trans (Below.drew (Q.refl _)) hq3
      have hr3:=zn hro hQ3
      have hB3:Below base wr w3:=hQ3.mono (Nat.le_of_lt (Nat.lt_of_le_of_lt hbg hgw))
      clear c0 c1 c2 c3 HCMP
      go_wp2
      go_roundw
      case rel=>exact .inr ⟨rfl,hB3,by rw[hRe.out];exact hr3⟩
      case measure=>simp[intOf]
    ·clear c0 c1 c2 c3 HCMP
     go_wp2_with fail
     refine zm 17 rfl (by kernel_rfl) rfl ?_
     refine svp 0 ?_
     refine svp 1 ?_
     refine svp 2 ?_
     refine svp 3 ?_
     refine svi 4 ?_
     refine svi 5 ?_
     refine svi 6 ?_
     refine svi 7 ?_
     refine svi 8 ?_
     refine svi 9 ?_
     refine svi 10 ?_
     refine svi 11 ?_
     refine svi 12 ?_
     refine svi 13 ?_
     refine svi 14 ?_
     refine svi 15 ?_
     refine svp 16 ?_
     refine zi (by kernel_rfl) (fun w3 hq3=>?_)
     simp only[List.drop_succ_cons,List.drop_nil]
     have hQ3:Q wr w3:=Below.trans (Below.drew (Q.refl _)) hq3
     have hr3:=zn hrow hQ3
     have hB3:=hB.trans (hQ3.mono (by have h2:=hB.size;omega))
     go_wp2
     go_roundw
     case rel=>exact .inr ⟨rfl,hB3,hr3⟩
     case measure=>simp[intOf]
  ·go_wp2
   go_end0
   exact⟨⟨_,rfl⟩,hB,hrow⟩
theorem znv(s1 s2:Str)(l m:Nat)(hl:lim (l:Int)=false)(hm:lim (m:Int)=false)(base g cap:Nat)(k:Int)(w:World)(hE:Env w)(hng:ng≤base)
  (hr:w.ownsRow base 47 2 (.slice (some ⟨g,0,none⟩) 2 cap) 2 [.string ⟨s1.toArray⟩,.string ⟨(Lib.itoa (l:Int)).toArray⟩,.string ⟨s2.toArray⟩,.string ⟨(Lib.itoa (m:Int)).toArray⟩]) :
  Calls Tryz.prog 152 #[.slice (some ⟨g,0,none⟩) 2 cap,.int .i64 0,.int .i64 2,.int .i64 k,.func (.func 83) #[] #[]] w fun e w'=>(∃ v,e=.returned v)∧Below base w w' ∧
   w'.ownsRow base 47 2 (.slice (some ⟨g,0,none⟩) 2 cap) 2 (if m<l then [.string ⟨s2.toArray⟩,.string ⟨(Lib.itoa (m:Int)).toArray⟩,.string ⟨s1.toArray⟩,.string ⟨(Lib.itoa (l:Int)).toArray⟩]else [.string ⟨s1.toArray⟩,.string ⟨(Lib.itoa (l:Int)).toArray⟩,.string ⟨s2.toArray⟩,.string ⟨(Lib.itoa (m:Int)).toArray⟩]):=by
 have HI:=LH (zlz s1 s2 l m hl hm base g cap w hE hng hr)
 generalize (if m<l then [Value.string ⟨s2.toArray⟩,.string ⟨(Lib.itoa (m:Int)).toArray⟩,.string ⟨s1.toArray⟩,.string ⟨(Lib.itoa (l:Int)).toArray⟩]else [.string ⟨s1.toArray⟩,.string ⟨(Lib.itoa (l:Int)).toArray⟩,.string ⟨s2.toArray⟩,.string ⟨(Lib.itoa (m:Int)).toArray⟩])=R at *
 clear hr hl hm
 go_enter Tryz.func152,Tryz.ntmps152
 go_wp2
 go_loop [1,2,3] (fun x y _=>x=.int .i64 0∧y=.int .i64 2) (fun _ _ _=>0)
 case atStart=>exact⟨rfl,rfl⟩
 case round =>
  obtain⟨rfl,rfl⟩:=hrel
  go_wp2_with fail
  refine HI.out.mono ?_
  rintro e w1⟨⟨v,rfl⟩,hb,hr⟩
  go_wp2
  (try simp only[Exit.inBlock,Exit.then])
  refine bodyPost_ret (results_none rfl _ _ _) rfl ?_
  exact⟨⟨_,rfl⟩,hb,hr⟩
theorem zlX(s1 s2:Str)(l m:Nat)(hl:lim (l:Int)=false)(hm:lim (m:Int)=false)(base g cap:Nat)(w:World)(hE:Env w)(hng:ng≤base)
  (hr:w.ownsRow base 47 2 (.slice (some ⟨g,0,none⟩) 2 cap) 2 [.string ⟨s1.toArray⟩,.string ⟨(Lib.itoa (l:Int)).toArray⟩,.string ⟨s2.toArray⟩,.string ⟨(Lib.itoa (m:Int)).toArray⟩]) :
  Calls Tryz.prog 82 #[.slice (some ⟨g,0,none⟩) 2 cap,.func (.func 83) #[] #[]] w fun e w'=>(∃ v,e=.returned v)∧Below base w w' ∧
   w'.ownsRow base 47 2 (.slice (some ⟨g,0,none⟩) 2 cap) 2 (if m<l then [.string ⟨s2.toArray⟩,.string ⟨(Lib.itoa (m:Int)).toArray⟩,.string ⟨s1.toArray⟩,.string ⟨(Lib.itoa (l:Int)).toArray⟩]else [.string ⟨s1.toArray⟩,.string ⟨(Lib.itoa (l:Int)).toArray⟩,.string ⟨s2.toArray⟩,.string ⟨(Lib.itoa (m:Int)).toArray⟩]):=by
 have HI:=LH (fun k=>znv s1 s2 l m hl hm base g cap k w hE hng hr)
 generalize (if m<l then [Value.string ⟨s2.toArray⟩,.string ⟨(Lib.itoa (m:Int)).toArray⟩,.string ⟨s1.toArray⟩,.string ⟨(Lib.itoa (l:Int)).toArray⟩]else [.string ⟨s1.toArray⟩,.string ⟨(Lib.itoa (l:Int)).toArray⟩,.string ⟨s2.toArray⟩,.string ⟨(Lib.itoa (m:Int)).toArray⟩])=R at *
 clear hr hl hm
 go_enter Tryz.func82,Tryz.ntmps82
 go_wp2_with fail
 refine(Tryz.bits_Len _ _ (by omega) (by omega)).mono ?_
 rintro e w1⟨rfl,rfl⟩
 go_wp2_with fail
 refine(HI.out _).mono ?_
 rintro e w1⟨⟨v,rfl⟩,hb,hr⟩
 go_wp2
 go_end0
 exact⟨⟨_,rfl⟩,hb,hr⟩
theorem zgW(ad:Option Addr)(cap:Nat)(f:Value)(w:World) :
  Calls Tryz.prog 223 #[.slice ad 0 cap,.int .i64 0,.int .i64 0,f] w fun e w'=>(∃ v,e=.returned v)∧w=w':=by
 go_enter Tryz.func223,Tryz.ntmps223
 go_wp2
 go_loop [8] (fun i=>i=.int .i64 1) (fun _=>0)
 case atStart=>rfl
 case round =>
  subst hrel
  go_wp2
  go_end0
  exact⟨⟨_,rfl⟩,rfl⟩
theorem zmg(ad:Option Addr)(cap:Nat)(k:Int)(f:Value)(w:World) :
  Calls Tryz.prog 152 #[.slice ad 0 cap,.int .i64 0,.int .i64 0,.int .i64 k,f] w fun e w'=>(∃ v,e=.returned v)∧w=w':=by
 go_enter Tryz.func152,Tryz.ntmps152
 go_wp2
 go_loop [1,2,3] (fun x y _=>x=.int .i64 0∧y=.int .i64 0) (fun _ _ _=>0)
 case atStart=>exact⟨rfl,rfl⟩
 case round =>
  obtain⟨rfl,rfl⟩:=hrel
  go_wp2_with fail
  refine(zgW ad cap f _).mono ?_
  rintro e w1⟨⟨v,rfl⟩,rfl⟩
  go_wp2
  (try simp only[Exit.inBlock,Exit.then])
  refine bodyPost_ret (results_none rfl _ _ _) rfl ?_
  exact⟨⟨_,rfl⟩,rfl⟩
theorem zkX(ad:Option Addr)(cap:Nat)(f:Value)(w:World) :
  Calls Tryz.prog 82 #[.slice ad 0 cap,f] w fun e w'=>(∃ v,e=.returned v)∧w=w':=by
 go_enter Tryz.func82,Tryz.ntmps82
 go_wp2_with fail
 refine(Tryz.bits_Len _ _ (by omega) (by omega)).mono ?_
 rintro e w1⟨rfl,rfl⟩
 go_wp2_with fail
 refine(zmg ad cap _ f _).mono ?_
 rintro e w1⟨⟨v,rfl⟩,rfl⟩
 go_wp2
 go_end0
 exact⟨⟨_,rfl⟩,rfl⟩
theorem zqk(l:List (Rat × Nat))(hl:∀ c∈l,c.2<10 ^ 80)(h2:l.length≤2):Sorts l (zgj l):=by
 intro base W o hE hng hr
 match l,hl,h2,hr with
 | [],_,_,hr =>
  obtain⟨a,cap,rfl⟩:=zgo hr
  refine(zkX a cap _ W).mono ?_
  rintro e W'⟨hu,rfl⟩
  exact⟨hu,Below.refl _ _,hr⟩
 | [c],_,_,hr =>
  obtain⟨a,cap,rfl⟩:=zgo hr
  refine(zlY a cap _ W).mono ?_
  rintro e W'⟨hu,rfl⟩
  exact⟨hu,Below.refl _ _,hr⟩
 | [c,d],hl,_,hr =>
  obtain⟨g,cap,rfl,-,-⟩:=hr.form (show 0<2 by decide)
  refine(zlX (ze c.1) (ze d.1) c.2 d.2 (zgO (hl c (by simp))) (zgO (hl d (by simp))) base g cap W hE hng hr).mono ?_
  rintro e W'⟨hu,hb,hr'⟩
  refine⟨hu,hb,?_⟩
  have e2:zgj [c,d]=if d.2<c.2 then [d,c]else [c,d]:=rfl
  rw[e2]
  by_cases h:d.2<c.2
  ·rw[if_pos h]at hr' ⊢;exact hr'
  ·rw[if_neg h]at hr' ⊢;exact hr'
 | _::_::_::_,_,h2,_=>exact absurd h2 (by simp)
theorem zoe(l:List (Rat × Nat)):(zgj l).length=l.length:=by
 unfold zgj
 split
 ·split <;> rfl
 ·rfl
end
section
open Go.RowKit Kp
open Go.Lib (decDigits)
theorem zpv{l:Nat}(h:zeG l):aOf (l:Rat)=1∧leftOf (l:Rat)=l:=by
 unfold aOf leftOf
 rw[Rat.num_natCast,Rat.den_natCast,Int.toNat_natCast,Nat.mul_one,h.2]
 exact⟨(show Rat.divInt ((1:Nat):Int) ((1:Nat):Int)=1 by rfl),rfl⟩
theorem zj0:ze (-1)=[45,49]:=by
 have h:=zit (-1)
 rw[show ((-1:Int):Rat) = -1 from rfl]at h
 rw[h,itoa_neg (by decide)]
 simp[decDigits]
theorem zlp(y:Rat):y*(-1) = -y:=by grind
theorem zmV:Bd 60 (-1):=⟨by decide,by decide⟩
theorem zot{l:List (Rat × Nat)}{c:Rat × Nat}(h:c∈zgj l):c∈l:=by
 unfold zgj at h
 split at h
 ·split at h
  ·simp at h ⊢;rcases h with h | h
   ·exact .inr h
   ·exact .inl h
  ·exact h
 ·exact h
theorem zuf{n:Nat}{y:Rat}(h:Bd n y):Bd n (-y):=by
 unfold Bd
 rw[ziu,Int.natAbs_neg,zk2]
 exact h
end
section
open Go.RowKit Kp
end
end Go.Proofs.YthdpnkkddhcacaaGreatDoor
