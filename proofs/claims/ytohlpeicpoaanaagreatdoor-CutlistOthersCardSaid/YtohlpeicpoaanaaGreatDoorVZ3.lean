/-
  VI VJ VK, one behind the other.
-/
import Derived.Test.YtohlpeicpoaanaaGreatDoorVZ2
namespace Go.Proofs.YtohlpeicpoaanaaGreatDoor
section
open Go.RowKit Kp
open Go.Lib (decDigits)
def cei (x:Rat) (l:Nat):Nat:=if flo x l*flo x l*(x.den*x.den)=sqN x l then flo x l else flo x l+1
theorem flo_lt {x:Rat} {l:Nat} (h:sqN x l<10 ^ 8*(x.den*x.den)):flo x l<10 ^ 4:=by
 have:=mill_lt h
 unfold flo
 omega
theorem ord_low {x:Rat} {l:Nat} (hp:PTerm x l):ordS (sqN x l) (x.den*x.den) ((flo x l:Int) - 1)=1:=by
 have hF:=flo_is x l
 have hd:0<x.den*x.den:=Nat.mul_pos x.den_pos x.den_pos
 have hX:0<sqN x l:=by
  have:=sqN_pos (x:=x) (l:=l) (by have:=hp.pos; omega) hp.t.norm.1 1
  simpa using this
 generalize flo x l=F at *
 unfold ordS
 by_cases h:(F:Int) - 1≤0
 ·rw [if_pos h]
 ·rw [if_neg h,if_pos]
  obtain ⟨G,rfl⟩:∃ G,F=G+1:=⟨F - 1,by omega⟩
  rw [show ((G+1:Nat):Int) - 1=(G:Int) by omega,Int.toNat_natCast]
  have h1:G*G<(G+1)*(G+1):=Nat.mul_lt_mul'' (by omega) (by omega)
  exact Nat.lt_of_lt_of_le (Nat.mul_lt_mul_of_pos_right h1 hd) hF.lo
theorem ord_mid {x:Rat} {l:Nat} (hp:PTerm x l):ordS (sqN x l) (x.den*x.den) (flo x l:Int)=if flo x l*flo x l*(x.den*x.den)=sqN x l then 0 else 1:=by
 have hF:=flo_is x l
 have hX:0<sqN x l:=by
  have:=sqN_pos (x:=x) (l:=l) (by have:=hp.pos; omega) hp.t.norm.1 1
  simpa using this
 generalize flo x l=F at *
 unfold ordS
 by_cases h:(F:Int)≤0
 ·have e:F=0:=by omega
  subst e
  rw [if_pos (by omega),if_neg (by simp; omega)]
 ·rw [if_neg h,Int.toNat_natCast]
  have:=hF.lo
  split
  ·rw [if_neg (by omega)]
  ·rw [if_pos (by omega),if_pos (by omega)]
theorem ord_high {x:Rat} {l:Nat}:ordS (sqN x l) (x.den*x.den) ((flo x l:Int)+1) = -1:=by
 have hF:=flo_is x l
 generalize flo x l=F at *
 unfold ordS
 rw [if_neg (by omega),show ((F:Int)+1).toNat=F+1 by omega]
 have:=hF.hi
 rw [if_neg (by omega),if_neg (by omega)]
set_option maxRecDepth 100000 in
set_option maxHeartbeats 2000000 in
theorem enc_of (x:Rat) (l:Nat) (hp:PTerm x l) (hV:sqN x l<10 ^ 8*(x.den*x.den)) (B:Nat) (v:Value) (w:World) (hE:Env w) (hv:Surd1 w B v x l) :
  Calls Tryz.prog 165 #[v,.string ⟨#[49]⟩] w fun e w'=>∃ L:Str,e=.returned (.tuple #[.agg #[.string ⟨L.toArray⟩,.string ⟨(Lib.itoa (cei x l:Int)).toArray⟩],.int .i64 0])∧Q w w':=by
 have hf4:=flo_lt hV
 have HN:=LH (fun w hw hv=>enc_near x l hp hV B v w hw hv)
 have hol:=fun w hw hv=>enc_order x l hp ((flo x l:Int) - 1) (by omega) B v w hw hv
 have hom:=fun w hw hv=>enc_order x l hp (flo x l:Int) (by omega) B v w hw hv
 have hoh:=fun w hw hv=>enc_order x l hp ((flo x l:Int)+1) (by omega) B v w hw hv
 rw [ord_low hp] at hol
 rw [ord_mid hp] at hom
 rw [ord_high] at hoh
 have ha1:=fun w hw=>rational_Add_bd (((flo x l:Int) - 1:Int):Rat) 1 (bd_int (n:=8) (by omega) (by decide)) bd_one (by decide) w hw
 rw [rstr_int,rstr_one,show ((((flo x l:Int) - 1:Int):Rat)+1)=((flo x l:Int):Rat) by rw [Rat.intCast_sub]; have:((1:Int):Rat)=1:=rfl; rw [this]; grind,rstr_int] at ha1
 have ha2:=fun w hw=>rational_Add_bd ((flo x l:Int):Rat) 1 (bd_int (n:=8) (by omega) (by decide)) bd_one (by decide) w hw
 rw [rstr_int,rstr_one,show (((flo x l:Int):Rat)+1)=(((flo x l:Int)+1:Int):Rat) by rw [Rat.intCast_add]; rfl,rstr_int] at ha2
 have HOL:=LH hol
 have HA1:=LH ha1
 have HA2:=LH ha2
 have HOH:=LH hoh
 have HV:=LH hv
 obtain ⟨g1,c1,rfl,-,-⟩:=World.ownsRow.form hv (by omega)
 unfold cei
 clear hol ha1 ha2 hoh hf4 hp hV
 by_cases heq:flo x l*flo x l*(x.den*x.den)=sqN x l
 ·rw [if_pos heq] at hom ⊢
  have HOM:=LH hom
  clear hom heq
  generalize Lib.itoa ((flo x l:Int) - 1)=L0 at *
  generalize Lib.itoa ((flo x l:Int)+1)=L2 at *
  generalize Lib.itoa (flo x l:Int)=L1 at *
  go_enter Tryz.func165,Tryz.ntmps165
  have hQ0:=Q.refl w
  go_wp2_with fail
  refine (HN.out _ (hE.ofQ bt) (surd1_keep HV.out bt)).mono ?_
  rintro e w1 ⟨rfl,hq1⟩
  have hs1:Q w w1:=Q.trans bt hq1
  have hQ1:Q w w1:=Q.trans hQ0 hs1
  have R:=(Blk.new w [.string ⟨#[]⟩,.string ⟨#[]⟩] 188).keep hq1 (by simp)
  go_wp2_with fail
  refine (HOL.out _ (hE.q hQ1) (surd1_keep HV.out hQ1)).mono ?_
  rintro e w2 ⟨rfl,hq2⟩
  have hs2:Q w1 w2:=Q.trans bt hq2
  have hQ2:Q w w2:=Q.trans hQ1 hs2
  replace R:=R.keep hs2 R.lt
  go_wp2
  go_loopw [6,8,9,42] (fun lo n f i wr=>Q w wr∧Blk wr w.heap.size [.string ⟨#[]⟩,.string ⟨#[]⟩] 188∧i=.int .i64 0∧lo=.string ⟨L0.toArray⟩∧n=.int .i64 1∧f=.int .i64 0) (fun _ _ _ _ _=>0)
  case atStart=>exact ⟨hQ2,R,rfl,rfl,rfl,rfl⟩
  case round =>
   clear R
   obtain ⟨hQ,R,rfl,rfl,rfl,rfl⟩:=hrel
   go_wp2_with fail
   refine (HA1.out _ (hE.q hQ)).mono ?_
   rintro e w3 ⟨rfl,hq3⟩
   have hQ3:Q w w3:=Q.trans hQ hq3
   go_wp2_with fail
   refine (HOM.out _ (hE.q hQ3) (surd1_keep HV.out hQ3)).mono ?_
   rintro e w4 ⟨rfl,hq4⟩
   have hs4:Q wr w4:=Q.trans hq3 hq4
   have hQ4:Q w w4:=Q.trans hQ3 hq4
   replace R:=R.keep hs4 R.lt
   have r0:=R.cell 0
   have r1:=R.cell 1
   have f0:=R.frozen 0
   have f1:=R.frozen 1
   have lR:=R.lt
   simp only [zs4,zs5] at r0 r1
   go_wp2
   refine bodyPost_ret (v:=.tuple #[.agg #[.string ⟨L1.toArray⟩,.string ⟨L1.toArray⟩],.int .i64 0]) (ret_c2t Tryz.results165 (.inr rfl) _ _ w.heap.size _ _ _ rfl rfl (R.set2.cell 0) (R.set2.cell 1)) rfl ⟨L1,rfl,bt⟩
 ·rw [if_neg heq] at hom ⊢
  rw [show ((flo x l+1:Nat):Int)=(flo x l:Int)+1 from rfl]
  have HOM:=LH hom
  clear hom heq
  generalize Lib.itoa ((flo x l:Int) - 1)=L0 at *
  generalize Lib.itoa ((flo x l:Int)+1)=L2 at *
  generalize Lib.itoa (flo x l:Int)=L1 at *
  go_enter Tryz.func165,Tryz.ntmps165
  have hQ0:=Q.refl w
  go_wp2_with fail
  refine (HN.out _ (hE.ofQ bt) (surd1_keep HV.out bt)).mono ?_
  rintro e w1 ⟨rfl,hq1⟩
  have hs1:Q w w1:=Q.trans bt hq1
  have hQ1:Q w w1:=Q.trans hQ0 hs1
  have R:=(Blk.new w [.string ⟨#[]⟩,.string ⟨#[]⟩] 188).keep hq1 (by simp)
  go_wp2_with fail
  refine (HOL.out _ (hE.q hQ1) (surd1_keep HV.out hQ1)).mono ?_
  rintro e w2 ⟨rfl,hq2⟩
  have hs2:Q w1 w2:=Q.trans bt hq2
  have hQ2:Q w w2:=Q.trans hQ1 hs2
  replace R:=R.keep hs2 R.lt
  go_wp2
  go_loopw [6,8,9,42] (fun lo n f i wr=>Q w wr∧Blk wr w.heap.size [.string ⟨#[]⟩,.string ⟨#[]⟩] 188∧n=.int .i64 1∧f=.int .i64 0∧((i=.int .i64 0∧lo=.string ⟨L0.toArray⟩)∨(i=.int .i64 1∧lo=.string ⟨L1.toArray⟩))) (fun _ _ _ i _=>1 - (intOf i).toNat)
  case atStart=>exact ⟨hQ2,R,rfl,rfl,.inl ⟨rfl,rfl⟩⟩
  case round =>
   clear R
   obtain ⟨hQ,R,rfl,rfl,⟨rfl,rfl⟩ | ⟨rfl,rfl⟩⟩:=hrel
   ·go_wp2_with fail
    refine (HA1.out _ (hE.q hQ)).mono ?_
    rintro e w3 ⟨rfl,hq3⟩
    have hQ3:Q w w3:=Q.trans hQ hq3
    go_wp2_with fail
    refine (HOM.out _ (hE.q hQ3) (surd1_keep HV.out hQ3)).mono ?_
    rintro e w4 ⟨rfl,hq4⟩
    have hs4:Q wr w4:=Q.trans hq3 hq4
    have hQ4:Q w w4:=Q.trans hQ3 hq4
    replace R:=R.keep hs4 R.lt
    go_wp2
    go_roundw
    case rel=>exact ⟨hQ4,R,rfl,rfl,.inr ⟨rfl,rfl⟩⟩
    case measure=>simp [intOf]
   ·go_wp2_with fail
    refine (HA2.out _ (hE.q hQ)).mono ?_
    rintro e w3 ⟨rfl,hq3⟩
    have hQ3:Q w w3:=Q.trans hQ hq3
    go_wp2_with fail
    refine (HOH.out _ (hE.q hQ3) (surd1_keep HV.out hQ3)).mono ?_
    rintro e w4 ⟨rfl,hq4⟩
    have hs4:Q wr w4:=Q.trans hq3 hq4
    have hQ4:Q w w4:=Q.trans hQ3 hq4
    replace R:=R.keep hs4 R.lt
    have r0:=R.cell 0
    have r1:=R.cell 1
    have f0:=R.frozen 0
    have f1:=R.frozen 1
    have lR:=R.lt
    simp only [zs4,zs5] at r0 r1
    go_wp2
    refine bodyPost_ret (v:=.tuple #[.agg #[.string ⟨L1.toArray⟩,.string ⟨L2.toArray⟩],.int .i64 0]) (ret_c2t Tryz.results165 (.inr rfl) _ _ w.heap.size _ _ _ rfl rfl (R.set2.cell 0) (R.set2.cell 1)) rfl ⟨L1,rfl,bt⟩
set_option maxHeartbeats 400000 in
theorem enc_unit0 (w:World):Calls Tryz.prog 166 #[.int .i64 0] w fun e w'=>e=.returned (.string ⟨#[49]⟩)∧w=w':=by
 go_enter Tryz.func166,Tryz.ntmps166
 go_wp2
 go_ret
 exact ⟨rfl,rfl⟩
set_option maxRecDepth 100000 in
set_option maxHeartbeats 1000000 in
theorem enc_Of (x:Rat) (l:Nat) (hp:PTerm x l) (hV:sqN x l<10 ^ 8*(x.den*x.den)) (B:Nat) (v:Value) (w:World) (hE:Env w) (hv:Surd1 w B v x l) :
  Calls Tryz.prog 128 #[v,.int .i64 0] w fun e w'=>∃ L:Str,e=.returned (.tuple #[.agg #[.string ⟨L.toArray⟩,.string ⟨(Lib.itoa (cei x l:Int)).toArray⟩],.int .i64 0])∧Q w w':=by
 have HC:=LH (fun w hw hv=>enc_checkSurd x l hp B v w hw hv)
 have HO:=LH (fun w hw hv=>enc_of x l hp hV B v w hw hv)
 have HV:=LH hv
 obtain ⟨g1,c1,rfl,-,-⟩:=World.ownsRow.form hv (by omega)
 clear hv hp hV
 generalize Lib.itoa (cei x l:Int)=H at *
 go_enter Tryz.func128,Tryz.ntmps128
 have hQ0:=Q.refl w
 go_wp2_with fail
 refine (HC.out _ (hE.ofQ bt) (surd1_keep HV.out bt)).mono ?_
 rintro e w1 ⟨rfl,hq1⟩
 have hs1:Q w w1:=Q.trans bt hq1
 have hQ1:Q w w1:=Q.trans hQ0 hs1
 have R:=(Blk.new w [.string ⟨#[]⟩,.string ⟨#[]⟩] 188).keep hq1 (by simp)
 go_wp2_with fail
 refine (enc_unit0 _).mono ?_
 rintro e w2 ⟨rfl,rfl⟩
 go_wp2_with fail
 refine (HO.out _ (hE.q hQ1) (surd1_keep HV.out hQ1)).mono ?_
 rintro e w2 ⟨L,rfl,hq2⟩
 have hs2:Q w1 w2:=Q.trans bt hq2
 have hQ2:Q w w2:=Q.trans hQ1 hs2
 replace R:=R.keep hs2 R.lt
 have r0:=R.cell 0
 have r1:=R.cell 1
 have f0:=R.frozen 0
 have f1:=R.frozen 1
 have lR:=R.lt
 simp only [zs4,zs5] at r0 r1
 go_wp2
 refine bodyPost_ret (v:=.tuple #[.agg #[.string ⟨L.toArray⟩,.string ⟨H.toArray⟩],.int .i64 0]) (ret_c2t Tryz.results128 (.inr rfl) _ _ w.heap.size _ _ _ rfl rfl (R.set2.cell 0) (R.set2.cell 1)) rfl ⟨L,rfl,bt⟩
set_option maxHeartbeats 400000 in
theorem rnd_ceiling (L H:Str) (w:World):Calls Tryz.prog 97 #[.agg #[.string ⟨L.toArray⟩,.string ⟨H.toArray⟩]] w fun e w'=>e=.returned (.string ⟨H.toArray⟩)∧Q w w':=by
 go_enter Tryz.func97,Tryz.ntmps97
 go_wp2
 go_ret
 exact ⟨rfl,bt⟩
set_option maxRecDepth 100000 in
set_option maxHeartbeats 1000000 in
theorem rnd_multiples1 (x:Rat) (l:Nat) (hp:PTerm x l) (hV:sqN x l<10 ^ 8*(x.den*x.den)) (u:Rat) (bu:Bd 20 u) (B:Nat) (v:Value) (w:World) (hE:Env w) (hv:Surd1 w B v x l) (p:Nat) (hpl:p<w.heap.size) (hpc:w.cell? ⟨p,0,none⟩=some (.func (.func 97) #[] #[])) :
  Calls Tryz.prog 127 #[v,.string ⟨(rstr u).toArray⟩,.pointer (some ⟨p,0,none⟩)] w fun e w'=>e=.returned (.tuple #[.string ⟨(rstr ((cei x l:Rat)*u)).toArray⟩,.int .i64 0])∧Q w w':=by
 have HO:=LH (fun w hw hv=>enc_Of x l hp hV B v w hw hv)
 have hc:cei x l<10 ^ 5:=by
  have:=flo_lt hV
  unfold cei; split <;> omega
 have hm:=fun w hw=>rational_Mul_bd (cei x l:Rat) u (show Bd 8 ((cei x l:Nat):Rat) from ⟨by rw [Rat.num_natCast,Int.natAbs_natCast]; exact Nat.lt_of_lt_of_le hc (by decide),by rw [Rat.den_natCast]; exact by decide⟩) bu (by decide) w hw
 rw [rstr_nat] at hm
 have HM:=LH hm
 have HV:=LH hv
 obtain ⟨g1,c1,rfl,-,-⟩:=World.ownsRow.form hv (by omega)
 clear hv hp hV hm bu hc
 generalize rstr ((cei x l:Rat)*u)=R at *
 generalize Lib.itoa (cei x l:Int)=H at *
 generalize rstr u=U at *
 go_enter Tryz.func127,Tryz.ntmps127
 have hQ0:=Q.refl w
 go_wp2_with fail
 refine (HO.out _ hE HV.out).mono ?_
 rintro e w1 ⟨L,rfl,hq1⟩
 have hs1:Q w w1:=Q.trans bt hq1
 have hQ1:Q w w1:=Q.trans hQ0 hs1
 have hpc1:=(hQ1.cell (p:=⟨p,0,none⟩) hpl).trans hpc
 have hpl1:p<w1.heap.size:=Nat.lt_of_lt_of_le hpl hQ1.size
 have HCE:=LH (fun w=>rnd_ceiling L H w)
 go_wp2_with fail
 refine (HCE.out _).mono ?_
 rintro e w2 ⟨rfl,hq2⟩
 have hs2:Q w1 w2:=Q.trans bt hq2
 have hQ2:Q w w2:=Q.trans hQ1 hs2
 go_wp2_with fail
 refine (HM.out _ (hE.ofQ bt)).mono ?_
 rintro e w3 ⟨rfl,hq3⟩
 have hs3:Q w2 w3:=Q.trans bt hq3
 have hQ3:Q w w3:=Q.trans hQ2 hs3
 go_wp2
 go_ret2
 exact ⟨rfl,bt⟩
set_option maxHeartbeats 400000 in
theorem rnd_multiples (k:Nat) (w:World) :
  Calls Tryz.prog 96 #[.func (.func k) #[] #[]] w fun e w'=>e=.returned (.func (.func 127) #[] #[.pointer (some ⟨w.heap.size,0,none⟩)])∧Q w w'∧w.heap.size<w'.heap.size∧w'.cell? ⟨w.heap.size,0,none⟩=some (.func (.func k) #[] #[]):=by
 go_enter Tryz.func96,Tryz.ntmps96
 go_wp2
 go_ret
 refine ⟨rfl,bt,by simp,?_⟩
 exact (Blk.new w [.func (.func k) #[] #[]] 153).cell 0
set_option maxRecDepth 100000 in
set_option maxHeartbeats 1000000 in
theorem rnd_check (x:Rat) (l:Nat) (hx:Term1 x l) (u:Rat) (su:Small8 u) (u0:0<u.num) (B:Nat) (v:Value) (w:World) (hE:Env w) (hv:Surd1 w B v x l) :
  Calls Tryz.prog 124 #[v,.string ⟨(rstr u).toArray⟩] w fun e w'=>e=.returned (.int .i64 0)∧Q w w':=by
 have HC:=LH (fun w hw hv=>surd_Check_one x l hx B v w hw hv)
 have b8:Bd 8 u:=su
 have HR:=LH (fun w hw=>rational_Check_num u (b8.rlim (by decide)) w hw)
 have hcm:=fun w=>rational_Compare_small u 0 su (show Small8 0 from ⟨by decide,by decide⟩) w
 rw [rstr_zero,show Lib.compareInt (u.num*((0:Rat).den:Int)) ((0:Rat).num*(u.den:Int))=1 by
  have e1:((0:Rat).den:Int)=1:=rfl
  have e2:(0:Rat).num=0:=rfl
  rw [e1,e2,Int.mul_one,Int.zero_mul]
  unfold Lib.compareInt
  rw [if_neg (by omega),if_pos (by omega)]] at hcm
 have HCM:=LH hcm
 have HV:=LH hv
 obtain ⟨g1,c1,rfl,-,-⟩:=World.ownsRow.form hv (by omega)
 clear hv hx b8 su u0 hcm
 generalize rstr u=U at *
 go_enter Tryz.func124,Tryz.ntmps124
 have hQ0:=Q.refl w
 go_wp2_with fail
 refine (HC.out _ hE HV.out).mono ?_
 rintro e w1 ⟨rfl,hq1⟩
 have hs1:Q w w1:=Q.trans bt hq1
 have hQ1:Q w w1:=Q.trans hQ0 hs1
 go_wp2_with fail
 refine (HR.out _ (hE.ofQ bt)).mono ?_
 rintro e w2 ⟨rfl,hq2⟩
 have hs2:Q w1 w2:=Q.trans bt hq2
 have hQ2:Q w w2:=Q.trans hQ1 hs2
 go_wp2_with fail
 refine (HCM.out _).mono ?_
 rintro e w3 ⟨rfl,hq3⟩
 have hs3:Q w2 w3:=Q.trans bt hq3
 have hQ3:Q w w3:=Q.trans hQ2 hs3
 go_wp2
 go_ret
 exact ⟨rfl,bt⟩
set_option maxRecDepth 100000 in
set_option maxHeartbeats 1000000 in
theorem rnd_units (x:Rat) (l:Nat) (hx:Term1 x l) (bx:Bd 40 x) (hl:l<10 ^ 40) (u:Rat) (su:Small8 u) (u0:0<u.num) (B:Nat) (v:Value) (w:World) (hE:Env w) (hv:Surd1 w B v x l) :
  Calls Tryz.prog 95 #[v,.string ⟨(rstr u).toArray⟩] w fun e w'=>∃ v',e=.returned (.tuple #[v',.int .i64 0])∧Q w w'∧Surd1 w' w.heap.size v' (x*(1 / u)) l:=by
 have HC:=LH (fun w hw hv=>rnd_check x l hx u su u0 B v w hw hv)
 have b8:Bd 8 u:=su
 have hd:=fun w hw=>rational_Div_bd 1 u bd_one b8 (by omega) (by decide) w hw
 rw [rstr_one] at hd
 have HD:=LH hd
 have HS:=LH (fun w hw hv=>surd_Scale_one x (1 / u) l hx bx (inv_bd b8 u0) (by decide) (fun e=>by have:=inv_pos u u0; rw [e] at this; simp at this) hl B v w hw hv)
 have HV:=LH hv
 obtain ⟨g1,c1,rfl,-,-⟩:=World.ownsRow.form hv (by omega)
 clear hv hx b8 su u0 hd bx hl
 generalize rstr (1 / u)=I at *
 generalize rstr u=U at *
 go_enter Tryz.func95,Tryz.ntmps95
 have hQ0:=Q.refl w
 go_wp2_with fail
 refine (HC.out _ hE HV.out).mono ?_
 rintro e w1 ⟨rfl,hq1⟩
 have hs1:Q w w1:=Q.trans bt hq1
 have hQ1:Q w w1:=Q.trans hQ0 hs1
 go_wp2_with fail
 refine (HD.out _ (hE.ofQ bt)).mono ?_
 rintro e w2 ⟨rfl,hq2⟩
 have hs2:Q w1 w2:=Q.trans bt hq2
 have hQ2:Q w w2:=Q.trans hQ1 hs2
 go_wp2_with fail
 refine (HS.out _ (hE.q hQ2) (surd1_keep HV.out hQ2)).mono ?_
 rintro e w3 ⟨v1,rfl,hq3,h1⟩
 have hs3:Q w2 w3:=Q.trans bt hq3
 have hQ3:Q w w3:=Q.trans hQ2 hs3
 have H1:=LH (Joins.ownsRow_le h1 hQ2.size)
 clear h1
 go_wp2
 go_ret2
 exact ⟨_,rfl,bt,H1.out⟩
set_option maxRecDepth 100000 in
set_option maxHeartbeats 1000000 in
theorem rnd_Up (x:Rat) (l:Nat) (hx:Term1 x l) (bx:Bd 40 x) (hl:l<10 ^ 40) (u:Rat) (su:Small8 u) (u0:0<u.num) (hp:PTerm (x*(1 / u)) l) (hV:sqN (x*(1 / u)) l<10 ^ 8*((x*(1 / u)).den*(x*(1 / u)).den)) (B:Nat) (v:Value) (w:World) (hE:Env w) (hv:Surd1 w B v x l) :
  Calls Tryz.prog 68 #[v,.string ⟨(rstr u).toArray⟩] w fun e w'=>e=.returned (.tuple #[.string ⟨(rstr ((cei (x*(1 / u)) l:Rat)*u)).toArray⟩,.int .i64 0])∧Q w w':=by
 have HU:=LH (fun w hw hv=>rnd_units x l hx bx hl u su u0 B v w hw hv)
 have b8:Bd 8 u:=su
 have HM:=LH (fun B v w hw hv p h1 h2=>rnd_multiples1 (x*(1 / u)) l hp hV u (b8.mono (by decide)) B v w hw hv p h1 h2)
 have HV:=LH hv
 obtain ⟨g1,c1,rfl,-,-⟩:=World.ownsRow.form hv (by omega)
 clear hv hx bx hl su u0 hp hV b8
 generalize rstr ((cei (x*(1 / u)) l:Rat)*u)=R at *
 generalize rstr u=U at *
 go_enter Tryz.func68,Tryz.ntmps68
 have hQ0:=Q.refl w
 go_wp2_with fail
 refine (HU.out _ hE HV.out).mono ?_
 rintro e w1 ⟨v1,rfl,hq1,h1⟩
 have hs1:Q w w1:=Q.trans bt hq1
 have hQ1:Q w w1:=Q.trans hQ0 hs1
 have H1:=LH h1
 obtain ⟨g2,c2,rfl,-,-⟩:=World.ownsRow.form h1 (by omega)
 clear h1
 go_wp2_with fail
 refine (rnd_multiples _ _).mono ?_
 rintro e w2 ⟨rfl,hq2,hlt,hcell⟩
 have hQ2:Q w w2:=Q.trans hQ1 hq2
 go_wp2_with fail
 refine (HM.out _ _ _ (hE.q hQ2) (surd1_keep H1.out hq2) _ hlt hcell).mono ?_
 rintro e w2 ⟨rfl,hq2⟩
 have hs2:Q w1 w2:=Q.trans bt hq2
 have hQ2:Q w w2:=Q.trans hQ1 hs2
 go_wp2
 go_ret2
 exact ⟨rfl,bt⟩
end
section
open Go.RowKit Kp
open Go.Lib (decDigits)
set_option maxRecDepth 100000 in
set_option maxHeartbeats 1000000 in
theorem true_Round {m:Nat} (hm6:6*m+2≤300) {n:Nat} (k W D:Int) (hm:MOk k W D) (f t:P3) (hf:B3 n f) (ht:B3 n t) (hn:n≤36) (hne:f≠t) (w:World) (hE:Env w) (hd:B3 m (t.sub f)) (hs:Bd 16 (t.sub f).sq) (sp:0<(t.sub f).sq.num) (u:Rat) (su:Small8 u) (u0:0<u.num)
  (hp:PTerm (aOf (t.sub f).sq*(1 / u)) (leftOf (t.sub f).sq)) (hV:sqN (aOf (t.sub f).sq*(1 / u)) (leftOf (t.sub f).sq)<10 ^ 8*((aOf (t.sub f).sq*(1 / u)).den*(aOf (t.sub f).sq*(1 / u)).den)) :
  Calls Tryz.prog 47 #[VM k W D f t,.string ⟨(rstr u).toArray⟩] w fun e w'=>e=.returned (.tuple #[.string ⟨(rstr ((cei (aOf (t.sub f).sq*(1 / u)) (leftOf (t.sub f).sq):Rat)*u)).toArray⟩,.int .i64 0])∧Q w w':=by
 have HL:=LH (fun w hw=>true_Length hm6 k W D hm f t hf ht hn hne w hw hd hs)
 have ht1:=term_of hs sp
 have ba:=aOf_bd hs sp
 have hl:leftOf (t.sub f).sq<10 ^ 40:=by
  have h:=ht1.c40.1
  rw [Rat.num_natCast,Int.natAbs_natCast] at h; exact h
 have HU:=LH (fun B v w hw hv=>rnd_Up (aOf (t.sub f).sq) (leftOf (t.sub f).sq) ht1 (ba.mono (by decide)) hl u su u0 hp hV B v w hw hv)
 have hne0:(t.sub f).sq≠0:=fun e=>by rw [e] at sp; simp at sp
 have HS:Hid (∀ w' v,LenAt w' w.heap.size v (t.sub f).sq→Surd1 w' w.heap.size v (aOf (t.sub f).sq) (leftOf (t.sub f).sq)):=LH (fun w' v h=>h.elim (fun h=>absurd h.1 hne0) (fun h=>h.2))
 have HLT:Hid (∀ w1 w' v,Q w w1→LenAt w' w1.heap.size v (t.sub f).sq→LenAt w' w.heap.size v (t.sub f).sq):=LH (fun w1 w' v hq h=>h.mono hq.size)
 unfold VM at *
 clear hm hf ht hne hd hs sp ht1 ba hl su u0 hp hV hne0
 generalize rstr ((cei (aOf (t.sub f).sq*(1 / u)) (leftOf (t.sub f).sq):Rat)*u)=R at *
 generalize rstr u=U at *
 generalize rstr f.x=X at *
 generalize rstr f.y=Y at *
 generalize rstr f.z=Z at *
 generalize rstr t.x=X' at *
 generalize rstr t.y=Y' at *
 generalize rstr t.z=Z' at *
 go_enter Tryz.func47,Tryz.ntmps47
 have hQ0:=Q.refl w
 go_wp2_with fail
 refine (HL.out _ (hE.ofQ bt)).mono ?_
 rintro e w1 ⟨v,rfl,hq1,hl⟩
 have hs1:Q w w1:=Q.trans bt hq1
 have hQ1:Q w w1:=Q.trans hQ0 hs1
 have H1:=LH (HS.out _ _ (hl.mono (by first | (simp; done) | (simp; omega))))
 clear hl
 obtain ⟨g1,c1,rfl,-,-⟩:=World.ownsRow.form H1.out (by omega)
 go_wp2_with fail
 refine (HU.out _ _ _ (hE.q hQ1) H1.out).mono ?_
 rintro e w2 ⟨rfl,hq2⟩
 have hs2:Q w1 w2:=Q.trans bt hq2
 have hQ2:Q w w2:=Q.trans hQ1 hs2
 go_wp2
 go_ret2
 exact ⟨rfl,bt⟩
def awF:P3:=⟨0,0,0⟩
theorem bd_zero {n:Nat} (hn:0<n):Bd n 0:=⟨Nat.pow_pos (by decide),Nat.one_lt_pow (by omega) (by decide)⟩
theorem awF_b:B3 1 awF:=⟨bd_zero (by decide),bd_zero (by decide),bd_zero (by decide)⟩
end
section
open Go.RowKit Kp
open Go.Lib (decDigits)
def half (a b c:Int):P3:=⟨Rat.divInt a (2:Nat),Rat.divInt b (2:Nat),Rat.divInt c (2:Nat)⟩
set_option maxHeartbeats 1000000 in
theorem rational_Int_nat (n:Nat) (hn:n<10 ^ 8) (w:World) (hE:Env w) :
  Calls Tryz.prog 48 #[.string ⟨(Lib.itoa (n:Int)).toArray⟩] w fun e w'=>e=.returned (.tuple #[.int .i64 n,.int .i64 0])∧Q w w':=by
 have b8:Bd 8 (n:Rat):=⟨by rw [Rat.num_natCast,Int.natAbs_natCast]; exact hn,by rw [Rat.den_natCast]; exact by decide⟩
 have hr:=fun w hw=>rational_read (rstr (n:Rat)) (by have:=rstr_len (b8.rlim (by decide)); omega) w hw
 rw [readV_rstr _ (b8.rlim (by decide)),Rat.num_natCast,Rat.den_natCast,rstr_nat,show ((1:Nat):Int)=1 from rfl,itoa_one] at hr
 have HR:=LH hr
 have hl:(Lib.itoa (n:Int)).length≤8:=by rw [← dec_eq_itoa]; exact (decDigits_len_le _ 8 (by decide)).2 hn
 have HA:=LH (fun w=>lib_Atoi (n:Int) (by omega) w)
 clear hr b8 hl
 generalize Lib.itoa (n:Int)=S at *
 go_enter Tryz.func48,Tryz.ntmps48
 have hQ0:=Q.refl w
 go_wp2_with fail
 refine (HR.out _ (hE.ofQ bt)).mono ?_
 rintro e w1 ⟨rfl,hq1⟩
 have hs1:Q w w1:=Q.trans bt hq1
 have hQ1:Q w w1:=Q.trans hQ0 hs1
 go_wp2_with fail
 refine (HA.out _).mono ?_
 rintro e w2 ⟨rfl,hq2⟩
 have hQ2:Q w w2:=Q.trans hQ1 (Q.trans bt hq2)
 go_wp2
 go_ret2
 exact ⟨rfl,hQ2⟩
end
end Go.Proofs.YtohlpeicpoaanaaGreatDoor
