/-
  VI VJ VK, one behind the other.; The law TruelengthMoved: its walk.
-/
import Derived.Test.YtbpghkdadajomaaGreatDoorHVZ2
import Derived.BigRegion
set_option maxRecDepth 100000
set_option maxHeartbeats 4000000
namespace Go.Proofs.YtbpghkdadajomaaGreatDoor
section
open Go.RowKit Kp
open Go.Lib (decDigits)
def cei(x:Rat)(l:Nat):Nat:=if flo x l*flo x l*(x.den*x.den)=sqN x l then flo x l else flo x l+1
theorem zru{x:Rat}{l:Nat}(h:sqN x l<10 ^ 8*(x.den*x.den)):flo x l<10 ^ 4:=by
 have:=zmI h
 unfold flo
 omega
theorem zrP{x:Rat}{l:Nat}(hp:PTerm x l):zoE (sqN x l) (x.den*x.den) ((flo x l:Int) - 1)=1:=by
 have hF:=znm x l
 have hd:0<x.den*x.den:=Nat.mul_pos x.den_pos x.den_pos
 have hX:0<sqN x l:=by
  have:=zo1 (x:=x) (l:=l) (by have:=hp.pos;omega) hp.t.norm.1 1
  simpa using this
 generalize flo x l=F at *
 unfold zoE
 by_cases h:(F:Int) - 1≤0
 ·rw[if_pos h]
 ·rw[if_neg h,if_pos]
  obtain⟨G,rfl⟩:∃ G,F=G+1:=⟨F - 1,by omega⟩
  rw[show ((G+1:Nat):Int) - 1=(G:Int) by omega,Int.toNat_natCast]
  have h1:G*G<(G+1)*(G+1):=Nat.mul_lt_mul'' (by omega) (by omega)
  exact Nat.lt_of_lt_of_le (Nat.mul_lt_mul_of_pos_right h1 hd) hF.lo
theorem zrO{x:Rat}{l:Nat}(hp:PTerm x l):zoE (sqN x l) (x.den*x.den) (flo x l:Int)=if flo x l*flo x l*(x.den*x.den)=sqN x l then 0 else 1:=by
 have hF:=znm x l
 have hX:0<sqN x l:=by
  have:=zo1 (x:=x) (l:=l) (by have:=hp.pos;omega) hp.t.norm.1 1
  simpa using this
 generalize flo x l=F at *
 unfold zoE
 by_cases h:(F:Int)≤0
 ·have e:F=0:=by omega
  subst e
  rw[if_pos (by omega),if_neg (by simp;omega)]
 ·rw[if_neg h,Int.toNat_natCast]
  have:=hF.lo
  split
  ·rw[if_neg (by omega)]
  ·rw[if_pos (by omega),if_pos (by omega)]
theorem zqB{x:Rat}{l:Nat}:zoE (sqN x l) (x.den*x.den) ((flo x l:Int)+1) = -1:=by
 have hF:=znm x l
 generalize flo x l=F at *
 unfold zoE
 rw[if_neg (by omega),show ((F:Int)+1).toNat=F+1 by omega]
 have:=hF.hi
 rw[if_neg (by omega),if_neg (by omega)]
theorem zsD(x:Rat)(l:Nat)(hp:PTerm x l)(hV:sqN x l<10 ^ 8*(x.den*x.den))(B:Nat)(v:Value)(w:World)(hE:Env w)(hv:zaJ w B v x l) :
  Calls Tryz.prog 272 #[v,.string ⟨#[49]⟩] w fun e w'=>∃ L:Str,e=.returned (.tuple #[.agg #[.string ⟨L.toArray⟩,.string ⟨(Lib.itoa (cei x l:Int)).toArray⟩],.int .i64 0])∧Q w w':=by
 have hf4:=zru hV
 have HN:=LH (fun w hw hv=>zq2 x l hp hV B v w hw hv)
 have hol:=fun w hw hv=>zi0 x l hp ((flo x l:Int) - 1) (by omega) B v w hw hv
 have hom:=fun w hw hv=>zi0 x l hp (flo x l:Int) (by omega) B v w hw hv
 have hoh:=fun w hw hv=>zi0 x l hp ((flo x l:Int)+1) (by omega) B v w hw hv
 rw[zrP hp]at hol
 rw[zrO hp]at hom
 rw[zqB]at hoh
 have ha1:=fun w hw=>zaA (((flo x l:Int) - 1:Int):Rat) 1 (zi6 (n:=8) (by omega) (by decide)) zi5 (by decide) w hw
 rw[zc0,zaM,show ((((flo x l:Int) - 1:Int):Rat)+1)=((flo x l:Int):Rat) by rw[Rat.intCast_sub];have:((1:Int):Rat)=1:=rfl;rw[this];grind,zc0]at ha1
 have ha2:=fun w hw=>zaA ((flo x l:Int):Rat) 1 (zi6 (n:=8) (by omega) (by decide)) zi5 (by decide) w hw
 rw[zc0,zaM,show (((flo x l:Int):Rat)+1)=(((flo x l:Int)+1:Int):Rat) by rw[Rat.intCast_add];rfl,zc0]at ha2
 have HOL:=LH hol
 have HA1:=LH ha1
 have HA2:=LH ha2
 have HOH:=LH hoh
 have HV:=LH hv
 obtain⟨g1,c1,rfl,-,-⟩:=World.ownsRow.form hv (by omega)
 unfold cei
 clear hol ha1 ha2 hoh hf4 hp hV
 by_cases heq:flo x l*flo x l*(x.den*x.den)=sqN x l
 ·rw[if_pos heq]at hom ⊢
  have HOM:=LH hom
  clear hom heq
  generalize Lib.itoa ((flo x l:Int) - 1)=L0 at *
  generalize Lib.itoa ((flo x l:Int)+1)=L2 at *
  generalize Lib.itoa (flo x l:Int)=L1 at *
  go_enter Tryz.func272,Tryz.ntmps272
  have hQ0:=Q.refl w
  go_wp2_with fail
  refine(HN.out _ (hE.ofQ bt) (zU HV.out bt)).mono ?_
  rintro e w1⟨rfl,hq1⟩
  have hs1:Q w w1:=Q.trans bt hq1
  have hQ1:Q w w1:=Q.trans hQ0 hs1
  have R:=(Blk.new w [.string ⟨#[]⟩,.string ⟨#[]⟩] 322).keep hq1 (by simp)
  go_wp2_with fail
  refine(HOL.out _ (hE.q hQ1) (zU HV.out hQ1)).mono ?_
  rintro e w2⟨rfl,hq2⟩
  have hs2:Q w1 w2:=Q.trans bt hq2
  have hQ2:Q w w2:=Q.trans hQ1 hs2
  replace R:=R.keep hs2 R.lt
  go_wp2
  go_loopw [6,8,9,42] (fun lo n f i wr=>Q w wr∧Blk wr w.heap.size [.string ⟨#[]⟩,.string ⟨#[]⟩] 322∧i=.int .i64 0∧lo=.string ⟨L0.toArray⟩∧n=.int .i64 1∧f=.int .i64 0) (fun _ _ _ _ _=>0)
  case atStart=>exact⟨hQ2,R,rfl,rfl,rfl,rfl⟩
  case round =>
   clear R
   obtain⟨hQ,R,rfl,rfl,rfl,rfl⟩:=hrel
   go_wp2_with fail
   refine(HA1.out _ (hE.q hQ)).mono ?_
   rintro e w3⟨rfl,hq3⟩
   have hQ3:Q w w3:=Q.trans hQ hq3
   go_wp2_with fail
   refine(HOM.out _ (hE.q hQ3) (zU HV.out hQ3)).mono ?_
   rintro e w4⟨rfl,hq4⟩
   have hs4:Q wr w4:=Q.trans hq3 hq4
   have hQ4:Q w w4:=Q.trans hQ3 hq4
   replace R:=R.keep hs4 R.lt
   have r0:=R.cell 0
   have r1:=R.cell 1
   have f0:=R.frozen 0
   have f1:=R.frozen 1
   have lR:=R.lt
   simp only[zs4,zs5]at r0 r1
   go_wp2
   refine bodyPost_ret (v:=.tuple #[.agg #[.string ⟨L1.toArray⟩,.string ⟨L1.toArray⟩],.int .i64 0]) (zmq Tryz.results272 (.inr rfl) _ _ w.heap.size _ _ _ rfl rfl (R.set2.cell 0) (R.set2.cell 1)) rfl ⟨L1,rfl,bt⟩
 ·rw[if_neg heq]at hom ⊢
  rw[show ((flo x l+1:Nat):Int)=(flo x l:Int)+1 from rfl]
  have HOM:=LH hom
  clear hom heq
  generalize Lib.itoa ((flo x l:Int) - 1)=L0 at *
  generalize Lib.itoa ((flo x l:Int)+1)=L2 at *
  generalize Lib.itoa (flo x l:Int)=L1 at *
  go_enter Tryz.func272,Tryz.ntmps272
  have hQ0:=Q.refl w
  go_wp2_with fail
  refine(HN.out _ (hE.ofQ bt) (zU HV.out bt)).mono ?_
  rintro e w1⟨rfl,hq1⟩
  have hs1:Q w w1:=Q.trans bt hq1
  have hQ1:Q w w1:=Q.trans hQ0 hs1
  have R:=(Blk.new w [.string ⟨#[]⟩,.string ⟨#[]⟩] 322).keep hq1 (by simp)
  go_wp2_with fail
  refine(HOL.out _ (hE.q hQ1) (zU HV.out hQ1)).mono ?_
  rintro e w2⟨rfl,hq2⟩
  have hs2:Q w1 w2:=Q.trans bt hq2
  have hQ2:Q w w2:=Q.trans hQ1 hs2
  replace R:=R.keep hs2 R.lt
  go_wp2
  go_loopw [6,8,9,42] (fun lo n f i wr=>Q w wr∧Blk wr w.heap.size [.string ⟨#[]⟩,.string ⟨#[]⟩] 322∧n=.int .i64 1∧f=.int .i64 0∧((i=.int .i64 0∧lo=.string ⟨L0.toArray⟩)∨(i=.int .i64 1∧lo=.string ⟨L1.toArray⟩))) (fun _ _ _ i _=>1 - (intOf i).toNat)
  case atStart=>exact⟨hQ2,R,rfl,rfl,.inl ⟨rfl,rfl⟩⟩
  case round =>
   clear R
   obtain⟨hQ,R,rfl,rfl,⟨rfl,rfl⟩|⟨rfl,rfl⟩⟩:=hrel
   ·go_wp2_with fail
    refine(HA1.out _ (hE.q hQ)).mono ?_
    rintro e w3⟨rfl,hq3⟩
    have hQ3:Q w w3:=Q.trans hQ hq3
    go_wp2_with fail
    refine(HOM.out _ (hE.q hQ3) (zU HV.out hQ3)).mono ?_
    rintro e w4⟨rfl,hq4⟩
    have hs4:Q wr w4:=Q.trans hq3 hq4
    have hQ4:Q w w4:=Q.trans hQ3 hq4
    replace R:=R.keep hs4 R.lt
    go_wp2
    go_roundw
    case rel=>exact⟨hQ4,R,rfl,rfl,.inr ⟨rfl,rfl⟩⟩
    case measure=>simp[intOf]
   ·go_wp2_with fail
    refine(HA2.out _ (hE.q hQ)).mono ?_
    rintro e w3⟨rfl,hq3⟩
    have hQ3:Q w w3:=Q.trans hQ hq3
    go_wp2_with fail
    refine(HOH.out _ (hE.q hQ3) (zU HV.out hQ3)).mono ?_
    rintro e w4⟨rfl,hq4⟩
    have hs4:Q wr w4:=Q.trans hq3 hq4
    have hQ4:Q w w4:=Q.trans hQ3 hq4
    replace R:=R.keep hs4 R.lt
    have r0:=R.cell 0
    have r1:=R.cell 1
    have f0:=R.frozen 0
    have f1:=R.frozen 1
    have lR:=R.lt
    simp only[zs4,zs5]at r0 r1
    go_wp2
    refine bodyPost_ret (v:=.tuple #[.agg #[.string ⟨L1.toArray⟩,.string ⟨L2.toArray⟩],.int .i64 0]) (zmq Tryz.results272 (.inr rfl) _ _ w.heap.size _ _ _ rfl rfl (R.set2.cell 0) (R.set2.cell 1)) rfl ⟨L1,rfl,bt⟩
theorem zpW(w:World):Calls Tryz.prog 273 #[.int .i64 0] w fun e w'=>e=.returned (.string ⟨#[49]⟩)∧w=w':=by
 go_enter Tryz.func273,Tryz.ntmps273
 go_wp2
 go_ret
 exact⟨rfl,rfl⟩
theorem zsE(x:Rat)(l:Nat)(hp:PTerm x l)(hV:sqN x l<10 ^ 8*(x.den*x.den))(B:Nat)(v:Value)(w:World)(hE:Env w)(hv:zaJ w B v x l) :
  Calls Tryz.prog 235 #[v,.int .i64 0] w fun e w'=>∃ L:Str,e=.returned (.tuple #[.agg #[.string ⟨L.toArray⟩,.string ⟨(Lib.itoa (cei x l:Int)).toArray⟩],.int .i64 0])∧Q w w':=by
 have HC:=LH (fun w hw hv=>zk0 x l hp B v w hw hv)
 have HO:=LH (fun w hw hv=>zsD x l hp hV B v w hw hv)
 have HV:=LH hv
 obtain⟨g1,c1,rfl,-,-⟩:=World.ownsRow.form hv (by omega)
 clear hv hp hV
 generalize Lib.itoa (cei x l:Int)=H at *
 go_enter Tryz.func235,Tryz.ntmps235
 have hQ0:=Q.refl w
 go_wp2_with fail
 refine(HC.out _ (hE.ofQ bt) (zU HV.out bt)).mono ?_
 rintro e w1⟨rfl,hq1⟩
 have hs1:Q w w1:=Q.trans bt hq1
 have hQ1:Q w w1:=Q.trans hQ0 hs1
 have R:=(Blk.new w [.string ⟨#[]⟩,.string ⟨#[]⟩] 322).keep hq1 (by simp)
 go_wp2_with fail
 refine(zpW _).mono ?_
 rintro e w2⟨rfl,rfl⟩
 go_wp2_with fail
 refine(HO.out _ (hE.q hQ1) (zU HV.out hQ1)).mono ?_
 rintro e w2⟨L,rfl,hq2⟩
 have hs2:Q w1 w2:=Q.trans bt hq2
 have hQ2:Q w w2:=Q.trans hQ1 hs2
 replace R:=R.keep hs2 R.lt
 have r0:=R.cell 0
 have r1:=R.cell 1
 have f0:=R.frozen 0
 have f1:=R.frozen 1
 have lR:=R.lt
 simp only[zs4,zs5]at r0 r1
 go_wp2
 refine bodyPost_ret (v:=.tuple #[.agg #[.string ⟨L.toArray⟩,.string ⟨H.toArray⟩],.int .i64 0]) (zmq Tryz.results235 (.inr rfl) _ _ w.heap.size _ _ _ rfl rfl (R.set2.cell 0) (R.set2.cell 1)) rfl ⟨L,rfl,bt⟩
theorem zmp(L H:Str)(w:World):Calls Tryz.prog 172 #[.agg #[.string ⟨L.toArray⟩,.string ⟨H.toArray⟩]] w fun e w'=>e=.returned (.string ⟨H.toArray⟩)∧Q w w':=by
 go_enter Tryz.func172,Tryz.ntmps172
 go_wp2
 go_ret
 exact⟨rfl,bt⟩
theorem zji(x:Rat)(l:Nat)(hp:PTerm x l)(hV:sqN x l<10 ^ 8*(x.den*x.den))(u:Rat)(bu:Bd 20 u)(B:Nat)(v:Value)(w:World)(hE:Env w)(hv:zaJ w B v x l)(p:Nat)(hpl:p<w.heap.size)(hpc:w.cell? ⟨p,0,none⟩=some (.func (.func 172) #[] #[])) :
  Calls Tryz.prog 234 #[v,.string ⟨(za u).toArray⟩,.pointer (some ⟨p,0,none⟩)] w fun e w'=>e=.returned (.tuple #[.string ⟨(za ((cei x l:Rat)*u)).toArray⟩,.int .i64 0])∧Q w w':=by
 have HO:=LH (fun w hw hv=>zsE x l hp hV B v w hw hv)
 have hc:cei x l<10 ^ 5:=by
  have:=zru hV
  unfold cei;split <;> omega
 have hm:=fun w hw=>zM (cei x l:Rat) u (show Bd 8 ((cei x l:Nat):Rat)from⟨by rw[Rat.num_natCast,Int.natAbs_natCast];exact Nat.lt_of_lt_of_le hc (by decide),by rw[Rat.den_natCast];exact by decide⟩) bu (by decide) w hw
 rw[zT]at hm
 have HM:=LH hm
 have HV:=LH hv
 obtain⟨g1,c1,rfl,-,-⟩:=World.ownsRow.form hv (by omega)
 clear hv hp hV hm bu hc
 generalize za ((cei x l:Rat)*u)=R at *
 generalize Lib.itoa (cei x l:Int)=H at *
 generalize za u=U at *
 go_enter Tryz.func234,Tryz.ntmps234
 have hQ0:=Q.refl w
 go_wp2_with fail
 refine(HO.out _ hE HV.out).mono ?_
 rintro e w1⟨L,rfl,hq1⟩
 have hs1:Q w w1:=Q.trans bt hq1
 have hQ1:Q w w1:=Q.trans hQ0 hs1
 have hpc1:=(hQ1.cell (p:=⟨p,0,none⟩) hpl).trans hpc
 have hpl1:p<w1.heap.size:=Nat.lt_of_lt_of_le hpl hQ1.size
 have HCE:=LH (fun w=>zmp L H w)
 go_wp2_with fail
 refine(HCE.out _).mono ?_
 rintro e w2⟨rfl,hq2⟩
 have hs2:Q w1 w2:=Q.trans bt hq2
 have hQ2:Q w w2:=Q.trans hQ1 hs2
 go_wp2_with fail
 refine(HM.out _ (hE.ofQ bt)).mono ?_
 rintro e w3⟨rfl,hq3⟩
 have hs3:Q w2 w3:=Q.trans bt hq3
 have hQ3:Q w w3:=Q.trans hQ2 hs3
 go_wp2
 go_ret2
 exact⟨rfl,bt⟩
theorem zko(k:Nat)(w:World) :
  Calls Tryz.prog 171 #[.func (.func k) #[] #[]] w fun e w'=>e=.returned (.func (.func 234) #[] #[.pointer (some ⟨w.heap.size,0,none⟩)])∧Q w w'∧w.heap.size<w'.heap.size∧w'.cell? ⟨w.heap.size,0,none⟩=some (.func (.func k) #[] #[]):=by
 go_enter Tryz.func171,Tryz.ntmps171
 go_wp2
 go_ret
 refine⟨rfl,bt,by simp,?_⟩
 exact(Blk.new w [.func (.func k) #[] #[]] 246).cell 0
theorem zph(x:Rat)(l:Nat)(hx:Term1 x l)(u:Rat)(su:zO u)(u0:0<u.num)(B:Nat)(v:Value)(w:World)(hE:Env w)(hv:zaJ w B v x l) :
  Calls Tryz.prog 233 #[v,.string ⟨(za u).toArray⟩] w fun e w'=>e=.returned (.int .i64 0)∧Q w w':=by
 have HC:=LH (fun w hw hv=>zaV x l hx B v w hw hv)
 have b8:Bd 8 u:=su
 have HR:=LH (fun w hw=>zm u (b8.zak (by decide)) w hw)
 have hcm:=fun w=>zbC u 0 su (show zO 0 from⟨by decide,by decide⟩) w
 rw[zI,show Lib.compareInt (u.num*((0:Rat).den:Int)) ((0:Rat).num*(u.den:Int))=1 by
  have e1:((0:Rat).den:Int)=1:=rfl
  have e2:(0:Rat).num=0:=rfl
  rw[e1,e2,Int.mul_one,Int.zero_mul]
  unfold Lib.compareInt
  rw[if_neg (by omega),if_pos (by omega)]]at hcm
 have HCM:=LH hcm
 have HV:=LH hv
 obtain⟨g1,c1,rfl,-,-⟩:=World.ownsRow.form hv (by omega)
 clear hv hx b8 su u0 hcm
 generalize za u=U at *
 go_enter Tryz.func233,Tryz.ntmps233
 have hQ0:=Q.refl w
 go_wp2_with fail
 refine(HC.out _ hE HV.out).mono ?_
 rintro e w1⟨rfl,hq1⟩
 have hs1:Q w w1:=Q.trans bt hq1
 have hQ1:Q w w1:=Q.trans hQ0 hs1
 go_wp2_with fail
 refine(HR.out _ (hE.ofQ bt)).mono ?_
 rintro e w2⟨rfl,hq2⟩
 have hs2:Q w1 w2:=Q.trans bt hq2
 have hQ2:Q w w2:=Q.trans hQ1 hs2
 go_wp2_with fail
 refine(HCM.out _).mono ?_
 rintro e w3⟨rfl,hq3⟩
 have hs3:Q w2 w3:=Q.trans bt hq3
 have hQ3:Q w w3:=Q.trans hQ2 hs3
 go_wp2
 go_ret
 exact⟨rfl,bt⟩
theorem zpg(x:Rat)(l:Nat)(hx:Term1 x l)(bx:Bd 40 x)(hl:l<10 ^ 40)(u:Rat)(su:zO u)(u0:0<u.num)(B:Nat)(v:Value)(w:World)(hE:Env w)(hv:zaJ w B v x l) :
  Calls Tryz.prog 170 #[v,.string ⟨(za u).toArray⟩] w fun e w'=>∃ v',e=.returned (.tuple #[v',.int .i64 0])∧Q w w'∧zaJ w' w.heap.size v' (x*(1 / u)) l:=by
 have HC:=LH (fun w hw hv=>zph x l hx u su u0 B v w hw hv)
 have b8:Bd 8 u:=su
 have hd:=fun w hw=>zcf 1 u zi5 b8 (by omega) (by decide) w hw
 rw[zaM]at hd
 have HD:=LH hd
 have HS:=LH (fun w hw hv=>zfw x (1 / u) l hx bx (zsy b8 u0) (by decide) (fun e=>by have:=inv_pos u u0;rw[e]at this;simp at this) hl B v w hw hv)
 have HV:=LH hv
 obtain⟨g1,c1,rfl,-,-⟩:=World.ownsRow.form hv (by omega)
 clear hv hx b8 su u0 hd bx hl
 generalize za (1 / u)=I at *
 generalize za u=U at *
 go_enter Tryz.func170,Tryz.ntmps170
 have hQ0:=Q.refl w
 go_wp2_with fail
 refine(HC.out _ hE HV.out).mono ?_
 rintro e w1⟨rfl,hq1⟩
 have hs1:Q w w1:=Q.trans bt hq1
 have hQ1:Q w w1:=Q.trans hQ0 hs1
 go_wp2_with fail
 refine(HD.out _ (hE.ofQ bt)).mono ?_
 rintro e w2⟨rfl,hq2⟩
 have hs2:Q w1 w2:=Q.trans bt hq2
 have hQ2:Q w w2:=Q.trans hQ1 hs2
 go_wp2_with fail
 refine(HS.out _ (hE.q hQ2) (zU HV.out hQ2)).mono ?_
 rintro e w3⟨v1,rfl,hq3,h1⟩
 have hs3:Q w2 w3:=Q.trans bt hq3
 have hQ3:Q w w3:=Q.trans hQ2 hs3
 have H1:=LH (Joins.ownsRow_le h1 hQ2.size)
 clear h1
 go_wp2
 go_ret2
 exact⟨_,rfl,bt,H1.out⟩
theorem zss(x:Rat)(l:Nat)(hx:Term1 x l)(bx:Bd 40 x)(hl:l<10 ^ 40)(u:Rat)(su:zO u)(u0:0<u.num)(hp:PTerm (x*(1 / u)) l)(hV:sqN (x*(1 / u)) l<10 ^ 8*((x*(1 / u)).den*(x*(1 / u)).den))(B:Nat)(v:Value)(w:World)(hE:Env w)(hv:zaJ w B v x l) :
  Calls Tryz.prog 113 #[v,.string ⟨(za u).toArray⟩] w fun e w'=>e=.returned (.tuple #[.string ⟨(za ((cei (x*(1 / u)) l:Rat)*u)).toArray⟩,.int .i64 0])∧Q w w':=by
 have HU:=LH (fun w hw hv=>zpg x l hx bx hl u su u0 B v w hw hv)
 have b8:Bd 8 u:=su
 have HM:=LH (fun B v w hw hv p h1 h2=>zji (x*(1 / u)) l hp hV u (b8.mono (by decide)) B v w hw hv p h1 h2)
 have HV:=LH hv
 obtain⟨g1,c1,rfl,-,-⟩:=World.ownsRow.form hv (by omega)
 clear hv hx bx hl su u0 hp hV b8
 generalize za ((cei (x*(1 / u)) l:Rat)*u)=R at *
 generalize za u=U at *
 go_enter Tryz.func113,Tryz.ntmps113
 have hQ0:=Q.refl w
 go_wp2_with fail
 refine(HU.out _ hE HV.out).mono ?_
 rintro e w1⟨v1,rfl,hq1,h1⟩
 have hs1:Q w w1:=Q.trans bt hq1
 have hQ1:Q w w1:=Q.trans hQ0 hs1
 have H1:=LH h1
 obtain⟨g2,c2,rfl,-,-⟩:=World.ownsRow.form h1 (by omega)
 clear h1
 go_wp2_with fail
 refine(zko _ _).mono ?_
 rintro e w2⟨rfl,hq2,hlt,hcell⟩
 have hQ2:Q w w2:=Q.trans hQ1 hq2
 go_wp2_with fail
 refine(HM.out _ _ _ (hE.q hQ2) (zU H1.out hq2) _ hlt hcell).mono ?_
 rintro e w2⟨rfl,hq2⟩
 have hs2:Q w1 w2:=Q.trans bt hq2
 have hQ2:Q w w2:=Q.trans hQ1 hs2
 go_wp2
 go_ret2
 exact⟨rfl,bt⟩
end
section
open Go.RowKit Kp
open Go.Lib (decDigits)
theorem znG{m:Nat}(hm6:6*m+2≤300){n:Nat}(k W D:Int)(hm:MOk k W D)(f t:P3)(hf:B3 n f)(ht:B3 n t)(hn:n≤36)(hne:f≠t)(w:World)(hE:Env w)(hd:B3 m (t.sub f))(hs:Bd 16 (t.sub f).sq)(sp:0<(t.sub f).sq.num)(u:Rat)(su:zO u)(u0:0<u.num)
  (hp:PTerm (aOf (t.sub f).sq*(1 / u)) (leftOf (t.sub f).sq))(hV:sqN (aOf (t.sub f).sq*(1 / u)) (leftOf (t.sub f).sq)<10 ^ 8*((aOf (t.sub f).sq*(1 / u)).den*(aOf (t.sub f).sq*(1 / u)).den)) :
  Calls Tryz.prog 62 #[VM k W D f t,.string ⟨(za u).toArray⟩] w fun e w'=>e=.returned (.tuple #[.string ⟨(za ((cei (aOf (t.sub f).sq*(1 / u)) (leftOf (t.sub f).sq):Rat)*u)).toArray⟩,.int .i64 0])∧Q w w':=by
 have HL:=LH (fun w hw=>zfH hm6 k W D hm f t hf ht hn hne w hw hd hs)
 have ht1:=zmi hs sp
 have ba:=zj3 hs sp
 have hl:leftOf (t.sub f).sq<10 ^ 40:=by
  have h:=ht1.c40.1
  rw[Rat.num_natCast,Int.natAbs_natCast]at h;exact h
 have HU:=LH (fun B v w hw hv=>zss (aOf (t.sub f).sq) (leftOf (t.sub f).sq) ht1 (ba.mono (by decide)) hl u su u0 hp hV B v w hw hv)
 have hne0:(t.sub f).sq≠0:=fun e=>by rw[e]at sp;simp at sp
 have HS:Hid (∀ w' v,LenAt w' w.heap.size v (t.sub f).sq→zaJ w' w.heap.size v (aOf (t.sub f).sq) (leftOf (t.sub f).sq)):=LH (fun w' v h=>h.elim (fun h=>absurd h.1 hne0) (fun h=>h.2))
 have HLT:Hid (∀ w1 w' v,Q w w1→LenAt w' w1.heap.size v (t.sub f).sq→LenAt w' w.heap.size v (t.sub f).sq):=LH (fun w1 w' v hq h=>h.mono hq.size)
 unfold VM at *
 clear hm hf ht hne hd hs sp ht1 ba hl su u0 hp hV hne0
 generalize za ((cei (aOf (t.sub f).sq*(1 / u)) (leftOf (t.sub f).sq):Rat)*u)=R at *
 generalize za u=U at *
 generalize za f.x=X at *
 generalize za f.y=Y at *
 generalize za f.z=Z at *
 generalize za t.x=X' at *
 generalize za t.y=Y' at *
 generalize za t.z=Z' at *
 go_enter Tryz.func62,Tryz.ntmps62
 have hQ0:=Q.refl w
 go_wp2_with fail
 refine(HL.out _ (hE.ofQ bt)).mono ?_
 rintro e w1⟨v,rfl,hq1,hl⟩
 have hs1:Q w w1:=Q.trans bt hq1
 have hQ1:Q w w1:=Q.trans hQ0 hs1
 have H1:=LH (HS.out _ _ (hl.mono (by first | (simp;done)|(simp;omega))))
 clear hl
 obtain⟨g1,c1,rfl,-,-⟩:=World.ownsRow.form H1.out (by omega)
 go_wp2_with fail
 refine(HU.out _ _ _ (hE.q hQ1) H1.out).mono ?_
 rintro e w2⟨rfl,hq2⟩
 have hs2:Q w1 w2:=Q.trans bt hq2
 have hQ2:Q w w2:=Q.trans hQ1 hs2
 go_wp2
 go_ret2
 exact⟨rfl,bt⟩
theorem znf(X Y Z:Str)(w:World) :
  Calls Tryz.prog 18 #[.string ⟨X.toArray⟩,.string ⟨Y.toArray⟩,.string ⟨Z.toArray⟩] w fun e w'=>e=.returned (.agg #[.string ⟨X.toArray⟩,.string ⟨Y.toArray⟩,.string ⟨Z.toArray⟩])∧Q w w':=by
 go_enter Tryz.func18,Tryz.ntmps18
 go_wp2
 have BB:=Blk.new w [.string ⟨X.toArray⟩,.string ⟨Y.toArray⟩,.string ⟨Z.toArray⟩] 32
 refine bodyPost_ret (v:=.agg #[.string ⟨X.toArray⟩,.string ⟨Y.toArray⟩,.string ⟨Z.toArray⟩]) (zlq Tryz.results18 (.inl rfl) _ _ w.heap.size _ _ _ rfl (BB.cell 0) (BB.cell 1) (BB.cell 2)) rfl ⟨rfl,bt⟩
theorem zll(B1 B2:Nat)(v1 v2:Value)(s1 s2:Str)(w:World)(h1:w.ownsRow B1 84 2 v1 1 [.string ⟨s1.toArray⟩,.string ⟨s2.toArray⟩])(h2:w.ownsRow B2 84 2 v2 1 [.string ⟨s1.toArray⟩,.string ⟨s2.toArray⟩]) :
  Calls Tryz.prog 30 #[v1,v2] w fun e w'=>e=.returned (.bool true)∧Q w w':=by
 obtain⟨g1,c1,rfl,-,-⟩:=h1.form (by omega)
 obtain⟨g2,c2,rfl,-,-⟩:=h2.form (by omega)
 refine(zjj g1 g2 c1 c2 s1 s2 w (h1.cellAt 0 (by omega)) (h1.cellAt 1 (by omega)) (h2.cellAt 0 (by omega)) (h2.cellAt 1 (by omega))).mono ?_
 rintro e w'⟨rfl,n,rfl⟩
 exact⟨rfl,Below.drewN (Q.refl w) n⟩
def awF:P3:=⟨0,0,0⟩
def awT:P3:=⟨4,4,2⟩
theorem zp4:MOk 6 80 200:=⟨by decide,by decide,by decide,by decide,by decide,by decide⟩
theorem zk5{n:Nat}(hn:0<n):Bd n 0:=⟨Nat.pow_pos (by decide),Nat.one_lt_pow (by omega) (by decide)⟩
theorem zsI:Bd 1 2:=⟨by decide,by decide⟩
theorem zk7:Bd 1 4:=⟨by decide,by decide⟩
theorem zp8:B3 1 awF:=⟨zk5 (by decide),zk5 (by decide),zk5 (by decide)⟩
theorem zmc:B3 1 awT:=⟨zk7,zk7,zsI⟩
theorem zp5:awF≠awT:=by decide
theorem zdB:awT.sub awF=awT:=by
 unfold P3.sub awT awF
 rw[Rat.sub_eq_add_neg,Rat.sub_eq_add_neg,Rat.neg_zero,Rat.add_zero,Rat.add_zero]
theorem zmX:awT.sq=36:=by kernel_rfl
theorem zp6:awT.flat.sq=32:=by kernel_rfl
theorem zfi:za 2=[50]:=by have:=zT 2;rw[show ((2:Nat):Rat)=2 from rfl]at this;rw[this];simp[Lib.itoa,Lib.decDigits]
theorem zdS:za 4=[52]:=by have:=zT 4;rw[show ((4:Nat):Rat)=4 from rfl]at this;rw[this];simp[Lib.itoa,Lib.decDigits]
theorem zpd:za 5=[53]:=by have:=zT 5;rw[show ((5:Nat):Rat)=5 from rfl]at this;rw[this];simp[Lib.itoa,Lib.decDigits]
theorem zqt:za 6=[54]:=by have:=zT 6;rw[show ((6:Nat):Rat)=6 from rfl]at this;rw[this];simp[Lib.itoa,Lib.decDigits]
theorem zqs:za 10=[49,48]:=by have:=zT 10;rw[show ((10:Nat):Rat)=10 from rfl]at this;rw[this];simp[Lib.itoa,Lib.decDigits]
theorem zpc:za (1 / 2)=[49,47,50]:=by
 have h1:(1 / 2:Rat).num=1:=by kernel_rfl
 have h2:(1 / 2:Rat).den=2:=by kernel_rfl
 unfold za
 rw[h1,h2]
 simp[Lib.itoa,Lib.decDigits]
theorem zqF:zaI 36=(6,1):=by simp[zaI,zK,zJ,za4,zl]
theorem zqG:zaI 32=(4,2):=by simp[zaI,zK,zJ,za4,zl]
theorem ztf:(36:Rat).num.toNat*(36:Rat).den=36:=by kernel_rfl
theorem ztg:(32:Rat).num.toNat*(32:Rat).den=32:=by kernel_rfl
theorem a36:aOf 36=6∧leftOf 36=1:=by unfold aOf leftOf;rw[ztf,zqF];exact⟨by kernel_rfl,rfl⟩
theorem a32:aOf 32=4∧leftOf 32=2:=by unfold aOf leftOf;rw[ztg,zqG];exact⟨by kernel_rfl,rfl⟩
theorem zns:(6*(1 / 5):Rat).num=6:=by kernel_rfl
theorem znt:(6*(1 / 5):Rat).den=5:=by kernel_rfl
theorem zry:sqN (6*(1 / 5)) 1=36:=by unfold sqN;rw[zns];rfl
theorem zsa:PTerm (6*(1 / 5)) 1:=by
 have hb:Bd 2 (6*(1 / 5)):=⟨by rw[zns];decide,by rw[znt];decide⟩
 exact⟨⟨hb.zak (by decide),fun e=>by have:=zns;rw[e]at this;exact absurd this (by decide),by have:=zbd hb (by decide);omega,zkD,(show Bd 40 ((1:Nat):Rat)from⟨by decide,by decide⟩)⟩,by rw[zns];decide,hb.mono (by decide),by rw[znt];decide,by decide⟩
theorem zsL:cei (6*(1 / 5)) 1=2:=by
 have hF:=znm (6*(1 / 5)) 1
 unfold cei
 rw[zry,znt]at *
 obtain⟨h1,h2⟩:=hF
 have h3:flo (6*(1 / 5)) 1=1:=by
  generalize flo (6*(1 / 5)) 1=F at *
  rcases Nat.lt_or_ge F 2 with h | h
  ·rcases(show F=0∨F=1 by omega)with rfl | rfl
   ·omega
   ·rfl
  ·have:=Nat.mul_le_mul h h
   omega
 rw[h3];rfl
theorem zp7(w:World)(hE:Env w):Calls Tryz.prog 21 #[.agg #[.int .i64 6,.int .i64 0,.int .i64 (-1),.string ⟨#[48]⟩,.string ⟨#[48]⟩,.string ⟨#[48]⟩,.string ⟨#[52]⟩,.string ⟨#[52]⟩,.string ⟨#[50]⟩,.int .i64 80,.int .i64 200]] w fun e w'=>∃ v,e=.returned (.tuple #[v,.int .i64 0])∧Q w w'∧w'.ownsRow w.heap.size 84 2 v 1 [.string ⟨#[54]⟩,.string ⟨#[49]⟩]:=by
 have h:=zfH (m:=1) (by decide) 6 80 200 zp4 awF awT zp8 zmc (by decide) zp5 w hE (by rw[zdB];exact zmc) (by rw[zdB,zmX];exact⟨by decide,by decide⟩)
 rw[zdB,zmX]at h
 unfold VM awF awT at h
 simp only[zI,zdS,zfi]at h
 refine h.mono fun e w' ⟨v,hv,hq,hl⟩=>⟨v,hv,hq,?_⟩
 rcases hl with⟨e,_⟩|⟨_,hl⟩
 ·exact absurd e (by decide)
 ·unfold zaJ at hl
  rw[a36.1,a36.2,zqt,show ((1:Nat):Int)=1 from rfl,zZ]at hl
  exact hl
theorem zsM(w:World)(hE:Env w):Calls Tryz.prog 60 #[.agg #[.int .i64 6,.int .i64 0,.int .i64 (-1),.string ⟨#[48]⟩,.string ⟨#[48]⟩,.string ⟨#[48]⟩,.string ⟨#[52]⟩,.string ⟨#[52]⟩,.string ⟨#[50]⟩,.int .i64 80,.int .i64 200]] w fun e w'=>∃ v,e=.returned (.tuple #[v,.int .i64 0])∧Q w w'∧w'.ownsRow w.heap.size 84 2 v 1 [.string ⟨#[52]⟩,.string ⟨#[50]⟩]:=by
 have h:=zqg (m:=1) (by decide) 6 80 200 zp4 awF awT zp8 zmc (by decide) zp5 w hE (by rw[zdB];exact⟨zk7,zk7,zk5 (by decide)⟩) (by rw[zdB,zp6];exact⟨by decide,by decide⟩)
 rw[zdB,zp6]at h
 unfold VM awF awT at h
 simp only[zI,zdS,zfi]at h
 refine h.mono fun e w' ⟨v,hv,hq,hl⟩=>⟨v,hv,hq,?_⟩
 rcases hl with⟨e,_⟩|⟨_,hl⟩
 ·exact absurd e (by decide)
 ·unfold zaJ at hl
  rw[a32.1,a32.2,zdS,show Lib.itoa ((2:Nat):Int)=[50] by simp[Lib.itoa,Lib.decDigits]]at hl
  exact hl
theorem zsb(w:World)(hE:Env w):Calls Tryz.prog 61 #[.agg #[.int .i64 6,.int .i64 0,.int .i64 (-1),.string ⟨#[48]⟩,.string ⟨#[48]⟩,.string ⟨#[48]⟩,.string ⟨#[52]⟩,.string ⟨#[52]⟩,.string ⟨#[50]⟩,.int .i64 80,.int .i64 200]] w fun e w'=>e=.returned (.tuple #[.string ⟨#[50]⟩,.int .i64 0])∧Q w w':=by
 have h:=zoL 6 80 200 zp4 awF awT zp8 zmc (by decide) zp5 w hE
 rw[show awT.z - awF.z=2 by kernel_rfl,zfi]at h
 unfold VM awF awT at h
 simp only[zI,zdS,zfi]at h
 exact h
theorem zre(w:World)(hE:Env w):Calls Tryz.prog 62 #[.agg #[.int .i64 6,.int .i64 0,.int .i64 (-1),.string ⟨#[48]⟩,.string ⟨#[48]⟩,.string ⟨#[48]⟩,.string ⟨#[52]⟩,.string ⟨#[52]⟩,.string ⟨#[50]⟩,.int .i64 80,.int .i64 200],.string ⟨#[53]⟩] w fun e w'=>e=.returned (.tuple #[.string ⟨#[49,48]⟩,.int .i64 0])∧Q w w':=by
 have h:=znG (m:=1) (by decide) 6 80 200 zp4 awF awT zp8 zmc (by decide) zp5 w hE (by rw[zdB];exact zmc) (by rw[zdB,zmX];exact⟨by decide,by decide⟩) (by rw[zdB,zmX];decide) 5 ⟨by decide,by decide⟩ (by decide)
  (by rw[zdB,zmX,a36.1,a36.2];exact zsa) (by rw[zdB,zmX,a36.1,a36.2,zry,znt];decide)
 rw[zdB,zmX,a36.1,a36.2,zsL,show (((2:Nat):Rat)*5)=10 by kernel_rfl,zqs]at h
 unfold VM awF awT at h
 simp only[zI,zdS,zfi,zpd]at h
 exact h
theorem zrf(w:World)(hE:Env w):Calls Tryz.prog 63 #[.agg #[.int .i64 6,.int .i64 0,.int .i64 (-1),.string ⟨#[48]⟩,.string ⟨#[48]⟩,.string ⟨#[48]⟩,.string ⟨#[52]⟩,.string ⟨#[52]⟩,.string ⟨#[50]⟩,.int .i64 80,.int .i64 200],.string ⟨#[49,47,50]⟩] w fun e w'=>e=.returned (.tuple #[.agg #[.string ⟨#[50]⟩,.string ⟨#[50]⟩,.string ⟨#[49]⟩],.int .i64 0])∧Q w w':=by
 have n1:(1 / 2:Rat).num=1:=by kernel_rfl
 have n2:(1 / 2:Rat).den=2:=by kernel_rfl
 have h:=znH (n:=1) (m:=1) 6 80 200 zp4 awF awT zp8 zmc (by decide) zp5 (by rw[zdB];exact zmc) (1 / 2) ⟨by rw[n1];decide,by rw[n2];decide⟩ (by rw[n1];decide) (by rw[n1,n2];decide) (by decide) w hE
 rw[zdB,show awF.add (awT.scale (1 / 2))=⟨2,2,1⟩ by kernel_rfl]at h
 unfold VM V3 awF awT at h
 simp only[zI,zdS,zfi,zpc,zaM]at h
 exact h
theorem znd(w:World):(Builtin.max_ #[42,42,42,42,42] 42 #[.int .i64 0,.int .i64 0,.int .i64 0,.int .i64 0,.int .i64 0]).run Tryz.prog w=.ok (.int .i64 0) w:=by kernel_rfl
theorem zr9(w:World)(hE:Env w):Calls Tryz.prog 22 #[] w fun e w'=>e=.returned (.bool true)∧Q w w':=by
 have HL:=LH (fun w hw=>zp7 w hw)
 have HR:=LH (fun w hw=>zsM w hw)
 have HZ:=LH (fun w hw=>zsb w hw)
 have HU:=LH (fun w hw=>zre w hw)
 have HA:=LH (fun w hw=>zrf w hw)
 have HS:=LH (fun X Y Z w=>znf X Y Z w)
 have hmax:=znd
 go_enter Tryz.func22,Tryz.ntmps22
 have hQ0:=Q.refl w
 go_wp2_with fail
 refine(HS.out [48] [48] [48] _).mono ?_
 rintro e w1⟨rfl,hq1⟩
 have hs1:Q w w1:=Q.trans bt hq1
 have hQ1:Q w w1:=Q.trans hQ0 hs1
 go_wp2_with fail
 refine(HS.out [52] [52] [50] _).mono ?_
 rintro e w2⟨rfl,hq2⟩
 have hs2:Q w1 w2:=Q.trans bt hq2
 have hQ2:Q w w2:=Q.trans hQ1 hs2
 go_wp2_with fail
 refine(HL.out _ (hE.ofQ bt)).mono ?_
 rintro e w3⟨v1,rfl,hq3,r1⟩
 have hs3:Q w2 w3:=Q.trans bt hq3
 have hQ3:Q w w3:=Q.trans hQ2 hs3
 have M:=(Blk.new w2 [.int .i64 6,.int .i64 0,.int .i64 (-1),.string ⟨#[48]⟩,.string ⟨#[48]⟩,.string ⟨#[48]⟩,.string ⟨#[52]⟩,.string ⟨#[52]⟩,.string ⟨#[50]⟩,.int .i64 80,.int .i64 200] 34).keep hq3 (by simp)
 replace m0:=M.cell 0
 replace m1:=M.cell 1
 replace m2:=M.cell 2
 replace m3:=M.cell 3
 replace m4:=M.cell 4
 replace m5:=M.cell 5
 replace m6:=M.cell 6
 replace m7:=M.cell 7
 replace m8:=M.cell 8
 replace m9:=M.cell 9
 replace m10:=M.cell 10
 simp only[zs4,zs5]at m0 m1 m2 m3 m4 m5 m6 m7 m8 m9 m10
 replace lM:=M.lt
 go_wp2_with fail
 refine(HR.out _ (hE.ofQ bt)).mono ?_
 rintro e w4⟨v2,rfl,hq4,r2⟩
 have hs4:Q w3 w4:=Q.trans bt hq4
 have hQ4:Q w w4:=Q.trans hQ3 hs4
 replace r1:=zf r1 hs4
 replace M:=M.keep hs4 M.lt
 replace m0:=M.cell 0
 replace m1:=M.cell 1
 replace m2:=M.cell 2
 replace m3:=M.cell 3
 replace m4:=M.cell 4
 replace m5:=M.cell 5
 replace m6:=M.cell 6
 replace m7:=M.cell 7
 replace m8:=M.cell 8
 replace m9:=M.cell 9
 replace m10:=M.cell 10
 simp only[zs4,zs5]at m0 m1 m2 m3 m4 m5 m6 m7 m8 m9 m10
 replace lM:=M.lt
 go_wp2_with fail
 refine(HZ.out _ (hE.ofQ bt)).mono ?_
 rintro e w5⟨rfl,hq5⟩
 have hs5:Q w4 w5:=Q.trans bt hq5
 have hQ5:Q w w5:=Q.trans hQ4 hs5
 replace r1:=zf r1 hs5
 replace r2:=zf r2 hs5
 replace M:=M.keep hs5 M.lt
 replace m0:=M.cell 0
 replace m1:=M.cell 1
 replace m2:=M.cell 2
 replace m3:=M.cell 3
 replace m4:=M.cell 4
 replace m5:=M.cell 5
 replace m6:=M.cell 6
 replace m7:=M.cell 7
 replace m8:=M.cell 8
 replace m9:=M.cell 9
 replace m10:=M.cell 10
 simp only[zs4,zs5]at m0 m1 m2 m3 m4 m5 m6 m7 m8 m9 m10
 replace lM:=M.lt
 go_wp2_with fail
 refine(HU.out _ (hE.ofQ bt)).mono ?_
 rintro e w6⟨rfl,hq6⟩
 have hs6:Q w5 w6:=Q.trans bt hq6
 have hQ6:Q w w6:=Q.trans hQ5 hs6
 replace r1:=zf r1 hs6
 replace r2:=zf r2 hs6
 replace M:=M.keep hs6 M.lt
 replace m0:=M.cell 0
 replace m1:=M.cell 1
 replace m2:=M.cell 2
 replace m3:=M.cell 3
 replace m4:=M.cell 4
 replace m5:=M.cell 5
 replace m6:=M.cell 6
 replace m7:=M.cell 7
 replace m8:=M.cell 8
 replace m9:=M.cell 9
 replace m10:=M.cell 10
 simp only[zs4,zs5]at m0 m1 m2 m3 m4 m5 m6 m7 m8 m9 m10
 replace lM:=M.lt
 go_wp2_with fail
 refine(HA.out _ (hE.ofQ bt)).mono ?_
 rintro e w7⟨rfl,hq7⟩
 have hs7:Q w6 w7:=Q.trans bt hq7
 have hQ7:Q w w7:=Q.trans hQ6 hs7
 replace r1:=zf r1 hs7
 replace r2:=zf r2 hs7
 replace M:=M.keep hs7 M.lt
 replace m0:=M.cell 0
 replace m1:=M.cell 1
 replace m2:=M.cell 2
 replace m3:=M.cell 3
 replace m4:=M.cell 4
 replace m5:=M.cell 5
 replace m6:=M.cell 6
 replace m7:=M.cell 7
 replace m8:=M.cell 8
 replace m9:=M.cell 9
 replace m10:=M.cell 10
 simp only[zs4,zs5]at m0 m1 m2 m3 m4 m5 m6 m7 m8 m9 m10
 replace lM:=M.lt
 clear M lM m0 m1 m2 m3 m4 m5 m6 m7 m8 m9 m10
 clear HL HR HZ HU HA
 obtain⟨W0,hW0⟩:∃ W0,w7.alloc (.cells #[.string ⟨#[50]⟩,.string ⟨#[50]⟩,.string ⟨#[49]⟩] 32)=W0:=⟨_,rfl⟩
 have hq0:Q w7 W0:=by rw[← hW0];exact bt
 have D:Blk W0 w7.heap.size [.string ⟨#[50]⟩,.string ⟨#[50]⟩,.string ⟨#[49]⟩] 32:=by rw[← hW0];exact Blk.new w7 _ _
 have k1:=LH (zf r1 (Q.trans hq0 (Below.drew (Q.refl W0))))
 have k2:=LH (zf r2 (Q.trans hq0 (Below.drew (Q.refl W0))))
 have hQ0':Q w W0:=Q.trans hQ7 hq0
 clear hQ0 hQ1 hQ2 hQ3 hQ4 hQ5 hQ6 hQ7 hs1 hs2 hs3 hs4 hs5 hs6 hs7 hq1 hq2 hq3 hq4 hq5 hq6 hq7
 go_wp2_with fail
 clear hW0 hq0
 have d0:=D.drew.cell 0
 have d1:=D.drew.cell 1
 have d2:=D.drew.cell 2
 simp only[zs4,zs5]at d0 d1 d2
 obtain⟨g1,c1,rfl,-,-⟩:=r1.form (by omega)
 obtain⟨g2,c2,rfl,-,-⟩:=r2.form (by omega)
 clear r1 r2
 refine zo 32 (by kernel_rfl) (by kernel_rfl) rfl ?_
 refine svp 0 ?_
 refine svp 1 ?_
 refine svp 2 ?_
 refine svp 3 ?_
 refine svp 4 ?_
 refine svp 5 ?_
 refine svp 6 ?_
 refine svp 7 ?_
 refine svp 8 ?_
 refine svp 9 ?_
 refine za5 (i:=10) (fun w'=>.slice (some ⟨w'.heap.size,0,none⟩) 1 1) (.cells #[.string ⟨#[54]⟩,.string ⟨#[49]⟩] 84) rfl rfl (by kernel_rfl) (by rfl) (fun w' hq=>?_) (fun w8 hq8=>?_)
 ·go_simp;try with_reducible rfl
 simp only[Act.put,zs1,zs2,zs3]
 have hqa:Q W0.drew (w8.alloc (.cells #[.string ⟨#[54]⟩,.string ⟨#[49]⟩] 84)):=zkt hq8 _
 have L1:=LH (World.ownsRow_lit (base:=w8.heap.size) (e:=84) (size:=2) w8 #[.string ⟨#[54]⟩,.string ⟨#[49]⟩] 1 (Nat.le_refl _) (by decide) rfl)
 refine zh (i:=11) (v:=_) rfl rfl (by kernel_rfl) (by kernel_rfl) (fun _ _ _ h=>h) (by rfl) ?_ (fun w' hq=>zll _ _ _ _ [54] [49] w' (zf k1.out (Q.trans hqa hq)) (zf L1.out hq)) ?_
 ·(intro w' hq;go_simp;try with_reducible rfl)
 simp only[Act.put,zs1,zs2,zs3]
 refine svp 12 ?_
 refine svp 13 ?_
 refine svp 14 ?_
 refine svp 15 ?_
 refine za5 (i:=16) (fun w'=>.slice (some ⟨w'.heap.size,0,none⟩) 1 1) (.cells #[.string ⟨#[52]⟩,.string ⟨#[50]⟩] 84) rfl rfl (by kernel_rfl) (by rfl) (fun w' hq=>?_) (fun w9 hq9=>?_)
 ·go_simp;try with_reducible rfl
 simp only[Act.put,zs1,zs2,zs3]
 have hqb:Q W0.drew (w9.alloc (.cells #[.string ⟨#[52]⟩,.string ⟨#[50]⟩] 84)):=zkt (Q.trans hqa hq9) _
 have L2:=LH (World.ownsRow_lit (base:=w9.heap.size) (e:=84) (size:=2) w9 #[.string ⟨#[52]⟩,.string ⟨#[50]⟩] 1 (Nat.le_refl _) (by decide) rfl)
 have e0:=ze hqb d0
 have e1:=ze hqb d1
 have e2:=ze hqb d2
 clear d0 d1 d2
 refine zh (i:=17) (v:=_) rfl rfl (by kernel_rfl) (by kernel_rfl) (fun _ _ _ h=>h) (by rfl) ?_ (fun w' hq=>zll _ _ _ _ [52] [50] w' (zf k2.out (Q.trans hqb hq)) (zf L2.out hq)) ?_
 ·(intro w' hq;go_simp;try with_reducible rfl)
 simp only[Act.put,zs1,zs2,zs3]
 refine svp 18 ?_
 refine svp 19 ?_
 refine svp 20 ?_
 refine svp 21 ?_
 refine svp 22 ?_
 refine svp 23 ?_
 refine svp 24 ?_
 refine svp 25 ?_
 refine svp 26 ?_
 refine svp 27 ?_
 refine svq 28 rfl (by intro w' hq;have hc0:=ze hq e0;have hc1:=ze hq e1;have hc2:=ze hq e2;go_simp;try with_reducible rfl) ?_
 refine zh (i:=29) (v:=_) rfl rfl (by kernel_rfl) (by kernel_rfl) (fun _ _ _ h=>h) (by rfl) ?_ (fun w' hq=>HS.out [50] [50] [49] w') ?_
 ·(intro w' hq;go_simp;try with_reducible rfl)
 simp only[Act.put,zs1,zs2,zs3]
 refine svp 30 ?_
 refine svp 31 ?_
 refine zi (by kernel_rfl) (fun w10 hq10=>?_)
 simp only[List.drop_succ_cons,List.drop_zero]
 have hQ10:Q w w10:=Q.trans hQ0' (Q.trans (Q.trans (Below.drew (Q.refl W0)) hqb) hq10)
 clear e0 e1 e2 L1 L2 k1 k2
 go_wp2
 go_ret
 exact⟨rfl,hQ10⟩
end
section
open Go.RowKit Kp
open Go.Lib (decDigits)
theorem zkQ(n:Int)(k:Nat)(hk:0<k)(hn:n.natAbs<100000000000000000)(hd:k<100000000000000000)(w:World)(hE:Env w) :
  Calls Tryz.prog 19 #[.int .i64 n,.int .i64 k] w fun e w'=>e=.returned (.string ⟨(za (Rat.divInt n k)).toArray⟩)∧Q w w':=by
 have HO:=LH (fun w hw=>zaH n k hk hn hd w hw)
 generalize za (Rat.divInt n k)=R at *
 go_enter Tryz.func19,Tryz.ntmps19
 have hQ0:=Q.refl w
 go_wp2_with fail
 refine(HO.out _ (hE.ofQ bt)).mono ?_
 rintro e w1⟨rfl,hq1⟩
 have hs1:Q w w1:=Q.trans bt hq1
 have hQ1:Q w w1:=Q.trans hQ0 hs1
 go_wp2
 go_ret
 exact⟨rfl,bt⟩
def half(a b c:Int):P3:=⟨Rat.divInt a (2:Nat),Rat.divInt b (2:Nat),Rat.divInt c (2:Nat)⟩
end
section
open Go.RowKit Kp
open Go.Lib (decDigits)
theorem zpw:MOk 1 60 180:=⟨by decide,by decide,by decide,by decide,by decide,by decide⟩
end
end Go.Proofs.YtbpghkdadajomaaGreatDoor
