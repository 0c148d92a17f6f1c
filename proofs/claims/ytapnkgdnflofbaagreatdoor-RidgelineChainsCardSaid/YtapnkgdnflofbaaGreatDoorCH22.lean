/-
  The reference's check of a number of at most nine bytes: its digits are native ints.; Walks of the reference's check of a member.; The reference's quotient of short numbers: native ints.; Walks of the reference's check of a line whose coordinates have at most nine bytes.; The reference's check of a line whose coordinates have at most six bytes: what it accepts is right.
-/
import Derived.Test.YtapnkgdnflofbaaGreatDoorCH21
import Derived.Test.YtapnkgdnflofbaaGreatDoorCH11
import Derived.Test.YtapnkgdnflofbaaGreatDoorCH12
import Derived.Test.YtapnkgdnflofbaaGreatDoorCH05
set_option maxRecDepth 100000
set_option maxHeartbeats 8000000
namespace Go.Proofs.YtapnkgdnflofbaaGreatDoor
section
open Go.RowKit Kp
theorem zcQ(a:Str)(hl:a.length≤9)(w:World) :
  CR 55 #[.string ⟨a.toArray⟩] w (.int .i64 (zcg a)):=by
 have HSP:=LH (zft a (by omega) w)
 unfold splitV at HSP
 have hul:=zdF a
 have hw:=zrU a _ _ _ _ rfl rfl rfl rfl
 have hnl:(zq (zo a)).length≤9:=by have:=zd8 (zo a);omega
 have hdl:(zaD (zo a)).length≤9:=by
  have:=zee (zo a)
  unfold zaD;split
  ·omega
  ·simp
 generalize zcg a=R at *
 generalize zq (zo a)=n at *
 generalize zaD (zo a)=d at *
 generalize zC (zo a)=f at *
 generalize decide (a.head? = some 45)=mi at *
 have HDN:=LH (zhk n (by omega))
 have HDD:=LH (zhk d (by omega))
 have wrong:∀ s t:Str,(s=t→(s == t)=true)∧(s≠t→(s == t)=false):=fun s t=>⟨fun h=>by rw[beq_iff_eq];exact h,fun h=>by rw[beq_eq_false_iff_ne];exact h⟩
 rcases hw with⟨rfl,hw⟩|⟨h1,h2,hw⟩
 ·rcases hw with h1 | ⟨h1,rfl,h3⟩|⟨h1,rfl,h3,h4⟩|⟨h1,rfl,h3,h4,h5⟩|⟨h1,rfl,h3,h4,h5,rfl,h7⟩|⟨h1,rfl,rfl,h4⟩
  ·rw[h1]at HDN
   clear h1 HDD wrong
   go_enter Tryz.func55,Tryz.ntmps55
   go_wp2_with fail
   refine HSP.out.mono ?_
   rintro e w1⟨rfl,hqr⟩
   go_wp2_with fail
   refine(HDN.out _).mono ?_
   rintro e w2⟨rfl,rfl⟩
   go_wp2
   go_ret
   exact⟨rfl,hqr⟩
  ·rw[h1]at HDN
   rw[h3]at HDD
   clear h1 h3 wrong
   go_enter Tryz.func55,Tryz.ntmps55
   go_wp2_with fail
   refine HSP.out.mono ?_
   rintro e w1⟨rfl,hqr⟩
   go_wp2_with fail
   refine(HDN.out _).mono ?_
   rintro e w2⟨rfl,rfl⟩
   go_wp2_with fail
   refine(HDD.out _).mono ?_
   rintro e w2⟨rfl,rfl⟩
   go_wp2
   go_ret
   exact⟨rfl,hqr⟩
  ·have b4:=(wrong d [48]).1 h4
   rw[h1]at HDN
   rw[h3]at HDD
   clear h1 h3 wrong h4
   go_enter Tryz.func55,Tryz.ntmps55
   go_wp2_with fail
   refine HSP.out.mono ?_
   rintro e w1⟨rfl,hqr⟩
   go_wp2_with fail
   refine(HDN.out _).mono ?_
   rintro e w2⟨rfl,rfl⟩
   go_wp2_with fail
   refine(HDD.out _).mono ?_
   rintro e w2⟨rfl,rfl⟩
   go_wp2
   go_ret
   exact⟨rfl,hqr⟩
  ·have b4:=(wrong d [48]).2 h4
   have b5:=(wrong d [49]).1 h5
   rw[h1]at HDN
   rw[h3]at HDD
   clear h1 h3 wrong h4 h5
   go_enter Tryz.func55,Tryz.ntmps55
   go_wp2_with fail
   refine HSP.out.mono ?_
   rintro e w1⟨rfl,hqr⟩
   go_wp2_with fail
   refine(HDN.out _).mono ?_
   rintro e w2⟨rfl,rfl⟩
   go_wp2_with fail
   refine(HDD.out _).mono ?_
   rintro e w2⟨rfl,rfl⟩
   go_wp2
   go_ret
   exact⟨rfl,hqr⟩
  ·have b4:=(wrong d [48]).2 h4
   have b5:=(wrong d [49]).2 h5
   have b7:=(wrong n [48]).1 h7
   rw[h1]at HDN
   rw[h3]at HDD
   clear h1 h3 wrong h4 h5 h7
   go_enter Tryz.func55,Tryz.ntmps55
   go_wp2_with fail
   refine HSP.out.mono ?_
   rintro e w1⟨rfl,hqr⟩
   go_wp2_with fail
   refine(HDN.out _).mono ?_
   rintro e w2⟨rfl,rfl⟩
   go_wp2_with fail
   refine(HDD.out _).mono ?_
   rintro e w2⟨rfl,rfl⟩
   go_wp2
   go_ret
   exact⟨rfl,hqr⟩
  ·have b7:=(wrong n [48]).1 h4
   rw[h1]at HDN
   clear h1 wrong h4 HDD
   go_enter Tryz.func55,Tryz.ntmps55
   go_wp2_with fail
   refine HSP.out.mono ?_
   rintro e w1⟨rfl,hqr⟩
   go_wp2_with fail
   refine(HDN.out _).mono ?_
   rintro e w2⟨rfl,rfl⟩
   go_wp2
   go_ret
   exact⟨rfl,hqr⟩
 ·rw[h1]at HDN
  have hn48:mi=false∨(mi=true∧(n == [48])=false):=by
   cases mi with
   | false=>exact .inl rfl
   | true=>exact .inr ⟨rfl,(wrong n [48]).2 (h2 rfl)⟩
  clear h1 h2
  rcases hw with⟨rfl,rfl,hw⟩|⟨rfl,h3,h4,h5,hw⟩
  ·clear HDD wrong
   rcases hw with⟨hlen,rfl⟩|⟨hlen,rfl⟩
   ·omega
   ·have hlen':¬ (300:Int)<(n.length:Int):=by omega
    clear hlen
    rcases hn48 with rfl | ⟨rfl,hb⟩
    all_goals
     go_enter Tryz.func55,Tryz.ntmps55
     go_wp2_with fail
     refine HSP.out.mono ?_
     rintro e w1⟨rfl,hqr⟩
     go_wp2_with fail
     refine(HDN.out _).mono ?_
     rintro e w2⟨rfl,rfl⟩
     go_wp2
     go_ret
     exact⟨rfl,hqr⟩
  ·have b4:=(wrong d [48]).2 h4
   have b5:=(wrong d [49]).2 h5
   rw[h3]at HDD
   clear h3 h4 h5
   rcases hw with⟨hlen,rfl⟩|⟨hlen,hlen2,rfl⟩|⟨hlen,hlen2,x,k,rfl,rfl,lx,lk,hr⟩
   ·omega
   ·omega
   ·have hlen':¬ (300:Int)<((Lib.itoa (x:Int)).length:Int):=by omega
    have hlen2':¬ (300:Int)<((Lib.itoa (k:Int)).length:Int):=by omega
    have h9:(Lib.itoa (x:Int)).length≤9∧(Lib.itoa (k:Int)).length≤9:=⟨by omega,by omega⟩
    have h9a:((Lib.itoa (x:Int)).length:Int)≤9:=by omega
    have h9b:((Lib.itoa (k:Int)).length:Int)≤9:=by omega
    have bx:=ziN h9.1
    have bk:=ziN h9.2
    have hs1:=fun w=>zd3 (Lib.itoa (x:Int)) (by rw[← zB];exact zY x) (by omega) w
    have hs2:=fun w=>zd3 (Lib.itoa (k:Int)) (by rw[← zB];exact zY k) (by omega) w
    have e1:nval (Lib.itoa (x:Int))=x:=by rw[← zB,z8]
    have e2:nval (Lib.itoa (k:Int))=k:=by rw[← zB,z8]
    rw[e1]at hs1
    rw[e2]at hs2
    have HS1:=LH hs1
    have HS2:=LH hs2
    have HG:=LH (fun w=>zpU x k w (by omega) (by omega))
    have hR:((((Nat.gcd x k:Nat):Int) == 1)=true∧R=0)∨((((Nat.gcd x k:Nat):Int) == 1)=false∧R=11):=by
     by_cases h:Nat.gcd x k=1
     ·rw[if_pos h]at hr;exact .inl ⟨by rw[beq_iff_eq];omega,hr⟩
     ·rw[if_neg h]at hr;exact .inr ⟨by rw[beq_eq_false_iff_ne];omega,hr⟩
    clear hr
    generalize Nat.gcd x k=g at *
    generalize Lib.itoa (x:Int)=n at *
    generalize Lib.itoa (k:Int)=d at *
    clear hs1 hs2 e1 e2 h9 hlen hlen2 wrong lx lk
    rcases hR with⟨hg1,rfl⟩|⟨hg1,rfl⟩
    all_goals
     first | have hg2:=zbR hg1 | have hg2:=zaB hg1
     rcases hn48 with rfl | ⟨rfl,hb⟩
     all_goals
      go_enter Tryz.func55,Tryz.ntmps55
      go_wp2_with fail
      refine HSP.out.mono ?_
      rintro e w1⟨rfl,hqr⟩
      go_wp2_with fail
      refine(HDN.out _).mono ?_
      rintro e w2⟨rfl,rfl⟩
      go_wp2_with fail
      refine(HDD.out _).mono ?_
      rintro e w2⟨rfl,rfl⟩
      go_wp2_with fail
      refine(HS1.out _).mono ?_
      rintro e w2⟨rfl,rfl⟩
      go_wp2_with fail
      refine(HS2.out _).mono ?_
      rintro e w2⟨rfl,rfl⟩
      go_wp2_with fail
      refine cx (HG.out _) fun w2 hq2=>?_
      replace hq2:=Q.trans hqr hq2
      go_wp2
      go_ret
      exact⟨rfl,hq2⟩
theorem zck(q:Rat)(h:zam q=false)(hl:(ze q).length≤9)(w:World) :
  CR 55 #[.string ⟨(ze q).toArray⟩] w (.int .i64 0):=by
 have H:=zcQ (ze q) hl w
 rw[zb5,h]at H
 exact H
theorem zks(q:Rat)(h:zam q=false)(hl:(ze q).length≤9)(w:World) :
  CR 118 #[.string ⟨(ze q).toArray⟩] w (.tuple #[.string ⟨(Lib.itoa q.num).toArray⟩,.string ⟨(Lib.itoa (q.den:Int)).toArray⟩,.int .i64 0]):=by
 have H1:=LH (zck q h hl w)
 have H2:=LH (fun w=>zmN q h w)
 generalize ze q=X at *
 generalize Lib.itoa q.num=Y at *
 generalize Lib.itoa (q.den:Int)=Z at *
 go_enter Tryz.func118,Tryz.ntmps118
 go_wp2_with fail
 refine H1.out.mono ?_
 rintro e w1⟨rfl,hq1⟩
 go_wp2_with fail
 refine cx (H2.out _) fun w2 hq2=>?_
 have hQ2:=Q.trans hq1 hq2
 go_wp2
 go_ret3
 exact⟨rfl,hQ2⟩
end
section
open Go.RowKit Go.Shelf Kp
attribute [local go_sem] Oper.semAt_some
theorem zd2(X Y Z:Str)(lX:X.length≤9)(lY:Y.length≤9)(lZ:Z.length≤9)(w:World)(hE:Env w) :
  CR 30 #[.agg #[.string ⟨X.toArray⟩,.string ⟨Y.toArray⟩,.string ⟨Z.toArray⟩]] w (.int .i64 (zk2 X Y Z)):=by
 have HX:=LH (fun w (_:Env w)=>zcQ X lX w)
 have HY:=LH (fun w (_:Env w)=>zcQ Y lY w)
 have HZ:=LH (fun w (_:Env w)=>zcQ Z lZ w)
 obtain⟨c,hc⟩:∃ c,zk2 X Y Z=c:=⟨_,rfl⟩
 rw[hc]
 unfold zk2 at hc
 generalize zcg X=cX at *
 generalize zcg Y=cY at *
 generalize zcg Z=cZ at *
 have HC:=LH hc
 clear hc lX lY lZ
 obtain⟨W0,hW0⟩:∃ W0,w.alloc (.cells #[.string ⟨X.toArray⟩,.string ⟨Y.toArray⟩,.string ⟨Z.toArray⟩] 32)=W0:=⟨_,rfl⟩
 have hq0:Q w W0:=by rw[← hW0];exact bt
 have BS:Blk W0 w.heap.size [.string ⟨X.toArray⟩,.string ⟨Y.toArray⟩,.string ⟨Z.toArray⟩] 32:=by rw[← hW0];exact Blk.new w _ _
 have hE0:=hE.ofQ hq0
 go_enter Tryz.func30,Tryz.ntmps30
 have hQ0:=Q.refl W0
 replace s0:=BS.cell
 replace lBS:=BS.lt
 go_wp2_with fail
 clear hW0
 refine cx (HX.out _ hE0) fun G1 hg1=>?_
 replace BS:=BS.keep hg1 BS.lt
 have hQ1:=Q.trans hq0 hg1
 clear s0 lBS
 replace s0:=BS.cell
 replace lBS:=BS.lt
 by_cases h0:cX=0
 ·have hb:(cX == 0)=true:=by rw[h0];rfl
  have hb2:(cX != 0)=false:=by rw[h0];rfl
  go_wp2_with fail
  refine cx (HY.out _ (hE.ofQ hQ1)) fun G2 hg2=>?_
  replace BS:=BS.keep hg2 BS.lt
  have hQ2:=Q.trans hQ1 hg2
  clear s0 lBS
  replace s0:=BS.cell
  replace lBS:=BS.lt
  by_cases h1:cY=0
  ·have hb3:(cY == 0)=true:=by rw[h1];rfl
   have hb4:(cY != 0)=false:=by rw[h1];rfl
   go_wp2_with fail
   refine cx (HZ.out _ (hE.ofQ hQ2)) fun G3 hg3=>?_
   have hQ3:=Q.trans hQ2 hg3
   have hc:c=cZ:=by rw[← HC.out,if_neg (by simpa using h0),if_neg (by simpa using h1)]
   go_wp2
   go_ret
   exact⟨by rw[hc];rfl,hQ3⟩
  ·have hb3:(cY == 0)=false:=by simpa using h1
   have hb4:(cY != 0)=true:=by simpa using h1
   have hc:c=cY:=by rw[← HC.out,if_neg (by simpa using h0),if_pos h1]
   go_wp2
   go_ret
   exact⟨by rw[hc];rfl,hQ2⟩
 ·have hb:(cX == 0)=false:=by simpa using h0
  have hb2:(cX != 0)=true:=by simpa using h0
  have hc:c=cX:=by rw[← HC.out,if_pos h0]
  go_wp2
  go_ret
  exact⟨by rw[hc];rfl,hQ1⟩
end
section
open Go.RowKit Kp
theorem zog(a:Str):a.length≤(zo a).length+1:=by
 unfold zo;split
 ·rw[List.length_tail];omega
 ·omega
end
section
open Go.RowKit Go.Shelf Kp
attribute [local go_sem] Oper.semAt_some
theorem zkr(x y:Rat)(hx:zam x=false)(hy:zam y=false)(lx:(ze x).length≤9)(ly:(ze y).length≤9)(w:World) :
  CR 120 #[.string ⟨(ze x).toArray⟩,.string ⟨(ze y).toArray⟩] w (.int .i64 0):=by
 have H1:=LH (zck x hx lx w)
 have H2:=LH (fun w=>zck y hy ly w)
 generalize ze x=X at *
 generalize ze y=Y at *
 go_enter Tryz.func120,Tryz.ntmps120
 go_wp2_with fail
 refine H1.out.mono ?_
 rintro e w1⟨rfl,hq1⟩
 go_wp2_with fail
 refine cx (H2.out _) fun w2 hq2=>?_
 have hQ2:=Q.trans hq1 hq2
 go_wp2
 go_ret
 exact⟨rfl,hQ2⟩
def zi7(x y:Rat):Int:=if x<y then -1 else if x=y then 0 else 1
theorem zqP(x y:Rat):(x.num*(y.den:Int)<y.num*(x.den:Int)∧zi7 x y = -1)∨(¬ x.num*(y.den:Int)<y.num*(x.den:Int)∧y.num*(x.den:Int)<x.num*(y.den:Int)∧zi7 x y=1)∨(¬ x.num*(y.den:Int)<y.num*(x.den:Int)∧¬ y.num*(x.den:Int)<x.num*(y.den:Int)∧zi7 x y=0):=by
 have e1:=Rat.lt_iff x y
 have e2:=Rat.lt_iff y x
 unfold zi7
 by_cases h1:x<y
 ·exact .inl ⟨e1.1 h1,by rw[if_pos h1]⟩
 ·have h1':¬ x.num*(y.den:Int)<y.num*(x.den:Int):=fun e=>h1 (e1.2 e)
  by_cases h3:x=y
  ·subst h3
   exact .inr (.inr ⟨h1',h1',by rw[if_neg h1,if_pos rfl]⟩)
  ·have h5:y<x:=by
    rcases Rat.le_total (a:=x) (b:=y)with h | h
    ·exact absurd (Rat.lt_of_le_of_ne h h3) h1
    ·exact Rat.lt_of_le_of_ne h (fun e=>h3 e.symm)
   exact .inr (.inl ⟨h1',e2.1 h5,by rw[if_neg h1,if_neg h3]⟩)
theorem zb4(x y:Rat)(hx:Bd 9 x)(hy:Bd 9 y)(lx:(ze x).length≤9)(ly:(ze y).length≤9)(w:World) :
  CR 58 #[.string ⟨(ze x).toArray⟩,.string ⟨(ze y).toArray⟩] w (.tuple #[.int .i64 (zi7 x y),.int .i64 0]):=by
 have HC:=LH (zkr x y (hx.zam (by decide)) (hy.zam (by decide)) lx ly w)
 have hw:=zqP x y
 obtain⟨b1,b2⟩:=hx
 obtain⟨b3,b4⟩:=hy
 have p9:(10:Nat) ^ 9=1000000000:=by decide
 rw[p9]at b1 b2 b3 b4
 have m1:=zt6 b1 b4
 have m2:=zt6 b3 b2
 have HI1:=LH (fun w=>zej x ⟨b1,b2⟩ w)
 have HI2:=LH (fun w=>zej y ⟨b3,b4⟩ w)
 have hw1:=Go.IntWalk.i64_in (x.num*(y.den:Int)) (by rw[← Int.natAbs_natCast y.den,← Int.natAbs_mul]at m1;omega)
 have hw2:=Go.IntWalk.i64_in (y.num*(x.den:Int)) (by rw[← Int.natAbs_natCast x.den,← Int.natAbs_mul]at m2;omega)
 clear m1 m2 b1 b2 b3 b4 lx ly p9
 generalize zi7 x y=c at *
 generalize ze x=X at *
 generalize ze y=Y at *
 generalize x.num=n at *
 generalize y.num=m at *
 generalize (x.den:Int)=d at *
 generalize (y.den:Int)=k at *
 rcases hw with⟨h1,rfl⟩|⟨h1,h2,rfl⟩|⟨h1,h2,rfl⟩
 all_goals
  go_enter Tryz.func58,Tryz.ntmps58
  go_wp2_with fail
  refine HC.out.mono ?_
  rintro e w1⟨rfl,hq1⟩
  go_wp2_with fail
  refine cx (HI1.out _) fun w2 hq2=>?_
  have hQ2:=Q.trans hq1 hq2
  go_wp2_with fail
  refine cx (HI2.out _) fun w3 hq3=>?_
  have hQ3:=Q.trans hQ2 hq3
  go_wp2
  go_ret2
  exact⟨rfl,hQ3⟩
theorem zkp(x y:Rat)(hx:Bd 9 x)(hy:Bd 9 y)(lx:(ze x).length≤9)(ly:(ze y).length≤9)(w:World) :
  CR 33 #[.string ⟨(ze x).toArray⟩,.string ⟨(ze y).toArray⟩] w (.int .i64 (zi7 x y)):=by
 have HC:=LH (zb4 x y hx hy lx ly w)
 clear hx hy lx ly
 generalize zi7 x y=c at *
 generalize ze x=X at *
 generalize ze y=Y at *
 go_enter Tryz.func33,Tryz.ntmps33
 go_wp2_with fail
 refine HC.out.mono ?_
 rintro e w1⟨rfl,hq1⟩
 go_wp2
 go_ret
 exact⟨rfl,hq1⟩
theorem zhj(a:Str)(ha:a≠[])(hl:a.length≤1000)(w:World) :
  Calls Tryz.prog 119 #[.string ⟨a.toArray⟩] w fun e w'=>e=.returned (.int .i64 ((zo a).length:Int))∧w=w':=by
 have hpos:(0:Int)<(a.length:Int):=by have:=List.length_pos_iff.2 ha;omega
 have hn:¬ a.length=0:=by have:=List.length_pos_iff.2 ha;omega
 by_cases hm:a.head? = some 45
 ·have hc:=zdG hm
  have ha0:(((at0 a 0).toNat:Int) == 45)=true:=by rw[hc];rfl
  have e:((zo a).length:Int)=(a.length:Int) - 1:=by
   have:a.length=(zo a).length+1:=congrArg List.length hc
   omega
  have hi:=Go.IntWalk.i64_in ((a.length:Int) - 1) (by omega)
  rw[e]
  clear hm hc e
  go_enter Tryz.func119,Tryz.ntmps119
  go_wp2
  go_ret
  exact⟨rfl,rfl⟩
 ·have h45:(((at0 a 0).toNat:Int) == 45)=false:=ztT (fun e=>hm (by rw[zbP ha,e]))
  rw[za3 hm]
  clear hm
  go_enter Tryz.func119,Tryz.ntmps119
  go_wp2
  go_ret
  exact⟨rfl,rfl⟩
theorem zgR{n:Nat}(q:Rat)(h:Bd n q)(hn:n≤36)(hl:(ze q).length≤9)(w:World) :
  CR 56 #[.string ⟨(ze q).toArray⟩] w (.bool false):=by
 have HP:=LH (fun w=>zks q (h.zam (by omega)) hl w)
 obtain⟨l1,l2⟩:=zk5 h
 have k1:Lib.itoa q.num≠[]:=zqh q.num
 have k2:Lib.itoa (q.den:Int)≠[]:=zqh (q.den:Int)
 have u1:=zog (Lib.itoa q.num)
 have u2:=zdF (Lib.itoa (q.den:Int))
 have H1:=LH (fun w=>zhj _ k1 (by omega) w)
 have H2:=LH (fun w=>zhj _ k2 (by omega) w)
 have b1:decide ((36:Int)<((zo (Lib.itoa q.num)).length:Int))=false:=decide_eq_false (by omega)
 have b2:decide ((36:Int)<((zo (Lib.itoa (q.den:Int))).length:Int))=false:=decide_eq_false (by omega)
 clear h l1 l2 hl k1 k2 u1 u2
 generalize ze q=S at *
 generalize ((zo (Lib.itoa (q.den:Int))).length:Int)=D' at *
 generalize ((zo (Lib.itoa q.num)).length:Int)=N' at *
 generalize Lib.itoa (q.den:Int)=D at *
 generalize Lib.itoa q.num=a at *
 go_enter Tryz.func56,Tryz.ntmps56
 go_wp2_with fail
 refine cx (HP.out _) fun w1 hq1=>?_
 go_wp2_with fail
 refine(H1.out _).mono ?_
 rintro e w2⟨rfl,rfl⟩
 go_wp2_with fail
 refine(H2.out _).mono ?_
 rintro e w2⟨rfl,rfl⟩
 go_wp2
 go_ret
 exact⟨rfl,hq1⟩
theorem zfe{n:Nat}(p:P3)(h:B3 n p)(hn:n≤36)(lx:(ze p.x).length≤9)(ly:(ze p.y).length≤9)(lz:(ze p.z).length≤9)(w:World) :
  CR 31 #[V3 p] w (.bool false):=by
 have H1:=LH (fun w=>zgR p.x h.1 hn lx w)
 have H2:=LH (fun w=>zgR p.y h.2.1 hn ly w)
 have H3:=LH (fun w=>zgR p.z h.2.2 hn lz w)
 unfold V3
 clear h lx ly lz
 generalize ze p.x=X at *
 generalize ze p.y=Y at *
 generalize ze p.z=Z at *
 obtain⟨W0,hW0⟩:∃ W0,w.alloc (.cells #[.string ⟨X.toArray⟩,.string ⟨Y.toArray⟩,.string ⟨Z.toArray⟩] 32)=W0:=⟨_,rfl⟩
 have hq0:Q w W0:=by rw[← hW0];exact bt
 have BS:Blk W0 w.heap.size [.string ⟨X.toArray⟩,.string ⟨Y.toArray⟩,.string ⟨Z.toArray⟩] 32:=by rw[← hW0];exact Blk.new w _ _
 go_enter Tryz.func31,Tryz.ntmps31
 have hQ0:=Q.refl W0
 replace s0:=BS.cell
 replace lBS:=BS.lt
 go_wp2_with fail
 refine cx (H1.out _) fun G1 hq1=>?_
 have hs1:Q W0 G1:=Q.trans bt hq1
 have hQ1:Q W0 G1:=Q.trans hQ0 hs1
 replace BS:=BS.keep hs1 BS.lt
 replace s0:=BS.cell
 replace lBS:=BS.lt
 clear hW0
 go_wp2_with fail
 refine cx (H2.out _) fun G2 hq2=>?_
 have hs2:Q G1 G2:=Q.trans bt hq2
 have hQ2:Q W0 G2:=Q.trans hQ1 hs2
 replace BS:=BS.keep hs2 BS.lt
 replace s0:=BS.cell
 replace lBS:=BS.lt
 go_wp2_with fail
 refine cx (H3.out _) fun G3 hq3=>?_
 have hs3:Q G2 G3:=Q.trans bt hq3
 have hQ3:Q W0 G3:=Q.trans hQ2 hs3
 replace BS:=BS.keep hs3 BS.lt
 replace s0:=BS.cell
 replace lBS:=BS.lt
 have hQ:=Q.trans hq0 hQ3
 go_wp2
 go_ret
 exact⟨rfl,hQ⟩
def zgw(k l r:Int):Bool:=if l < -1∨r < -1∨24≤l∨24≤r then false else if zlc k=true then decide (0≤l∧0≤r∧l≠r)else decide ((l<0∧¬ r<0)∨(¬ l<0∧r<0))
theorem zlx(k:Int)(w:World) :
  Calls Tryz.prog 57 #[.int .i64 k] w fun e w'=>e=.returned (.bool (zlc k))∧w=w':=by
 have key:∀ k0:Int,k=k0→(k0=1∨k0=2∨k0=3∨k0=6)→Calls Tryz.prog 57 #[.int .i64 k0] w fun e w'=>e=.returned (.bool true)∧w=w':=by
  rintro k0 - (rfl | rfl | rfl | rfl)
  all_goals
   go_enter Tryz.func57,Tryz.ntmps57
   go_wp2
   go_ret
   exact⟨rfl,rfl⟩
 by_cases h:k=1∨k=2∨k=3∨k=6
 ·rw[show zlc k=true from decide_eq_true h]
  exact key k rfl h
 ·rw[show zlc k=false from decide_eq_false h]
  have b1:(k == 1)=false:=by rw[beq_eq_false_iff_ne];omega
  have b2:(k == 2)=false:=by rw[beq_eq_false_iff_ne];omega
  have b3:(k == 3)=false:=by rw[beq_eq_false_iff_ne];omega
  have b6:(k == 6)=false:=by rw[beq_eq_false_iff_ne];omega
  clear h key
  go_enter Tryz.func57,Tryz.ntmps57
  go_wp2
  go_ret
  exact⟨rfl,rfl⟩
theorem zmK(k:Int)(w:World) :
  Calls Tryz.prog 34 #[.int .i64 k] w fun e w'=>e=.returned (.bool (zoY k))∧w=w':=by
 have key:∀ k0:Int,k=k0→(k0=1∨k0=7∨k0=8)→Calls Tryz.prog 34 #[.int .i64 k0] w fun e w'=>e=.returned (.bool true)∧w=w':=by
  rintro k0 - (rfl | rfl | rfl)
  all_goals
   go_enter Tryz.func34,Tryz.ntmps34
   go_wp2
   go_ret
   exact⟨rfl,rfl⟩
 by_cases h:k=1∨k=7∨k=8
 ·rw[show zoY k=true from decide_eq_true h]
  exact key k rfl h
 ·rw[show zoY k=false from decide_eq_false h]
  have b1:(k == 1)=false:=by rw[beq_eq_false_iff_ne];omega
  have b2:(k == 7)=false:=by rw[beq_eq_false_iff_ne];omega
  have b3:(k == 8)=false:=by rw[beq_eq_false_iff_ne];omega
  clear h key
  go_enter Tryz.func34,Tryz.ntmps34
  go_wp2
  go_ret
  exact⟨rfl,rfl⟩
theorem zmL(x:Ln)(w:World) :
  CR 32 #[.agg (lnC x).toArray] w (.bool (zgw x.k x.l x.r)):=by
 obtain⟨k,X,Y,Z,X',Y',Z',l,r⟩:=x
 unfold lnC
 simp only
 have HD:=LH (fun w=>zlx k w)
 obtain⟨W0,hW0⟩:∃ W0,w.alloc (.cells #[.int .i64 k,.string ⟨X.toArray⟩,.string ⟨Y.toArray⟩,.string ⟨Z.toArray⟩,.string ⟨X'.toArray⟩,.string ⟨Y'.toArray⟩,.string ⟨Z'.toArray⟩,.int .i64 l,.int .i64 r] 34)=W0:=⟨_,rfl⟩
 have hq0:Q w W0:=by rw[← hW0];exact bt
 have BL:Blk W0 w.heap.size [.int .i64 k,.string ⟨X.toArray⟩,.string ⟨Y.toArray⟩,.string ⟨Z.toArray⟩,.string ⟨X'.toArray⟩,.string ⟨Y'.toArray⟩,.string ⟨Z'.toArray⟩,.int .i64 l,.int .i64 r] 34:=by rw[← hW0];exact Blk.new w _ _
 by_cases hb:l < -1∨r < -1∨24≤l∨24≤r
 ·rw[show zgw k l r=false from by unfold zgw;rw[if_pos hb]]
  have hw:l < -1∨(¬ l < -1∧r < -1)∨(¬ l < -1∧¬ r < -1∧24≤l)∨(¬ l < -1∧¬ r < -1∧¬ 24≤l∧24≤r):=by omega
  clear hb
  have hQ0:=Q.refl W0
  replace n0:=BL.cell
  replace lBL:=BL.lt
  rcases hw with h1 | ⟨h1,h2⟩|⟨h1,h2,h3⟩|⟨h1,h2,h3,h4⟩
  all_goals
   go_enter Tryz.func32,Tryz.ntmps32
   go_wp2
   go_ret
   exact⟨rfl,hq0⟩
 ·have e:zgw k l r=if zlc k=true then decide (0≤l∧0≤r∧l≠r)else decide ((l<0∧¬ r<0)∨(¬ l<0∧r<0)):=by unfold zgw;rw[if_neg hb]
  rw[e]
  have h1:¬ l < -1:=by omega
  have h2:¬ r < -1:=by omega
  have h3:¬ 24≤l:=by omega
  have h4:¬ 24≤r:=by omega
  clear e hb
  have hQ0:=Q.refl W0
  replace n0:=BL.cell
  replace lBL:=BL.lt
  generalize zlc k=tb at *
  cases tb
  ·have hw:(l<0∧¬ r<0)∨(¬ l<0∧r<0)∨(l<0∧r<0)∨(¬ l<0∧¬ r<0):=by omega
   rcases hw with⟨g1,g2⟩|⟨g1,g2⟩|⟨g1,g2⟩|⟨g1,g2⟩
   all_goals
    go_enter Tryz.func32,Tryz.ntmps32
    go_wp2_with fail
    refine(HD.out _).mono ?_
    rintro e V⟨rfl,rfl⟩
    go_wp2
    go_ret
    refine⟨?_,hq0⟩
    first
    | (simp[g1,g2];done)
    | (
      have d1:decide (l<0)=false:=decide_eq_false (by omega)
      have d2:decide (r<0)=false:=decide_eq_false (by omega)
      simp[d1,d2])
  ·have hw:¬ 0≤l∨(0≤l∧¬ 0≤r)∨(0≤l∧0≤r∧l=r)∨(0≤l∧0≤r∧l≠r):=by by_cases h:l=r <;> omega
   rcases hw with g1 | ⟨g1,g2⟩|⟨g1,g2,g3⟩|⟨g1,g2,g3⟩
   all_goals
    try have g4:(l != r)=true:=bne_iff_ne.2 g3
    try subst g3
    go_enter Tryz.func32,Tryz.ntmps32
    go_wp2_with fail
    refine(HD.out _).mono ?_
    rintro e V⟨rfl,rfl⟩
    go_wp2
    go_ret
    refine⟨?_,hq0⟩
    clear HD BL n0 lBL hQ0 hq0 hW0
    first | (simp;done)|(simp;omega)|(simp;intros;omega)|(simp;done)
theorem zoA(X Y Z X' Y' Z':Str)(h1:zk2 X Y Z=0)(h2:zk2 X' Y' Z'=0)(lX:X.length≤9)(lY:Y.length≤9)(lZ:Z.length≤9)(lX':X'.length≤9)(lY':Y'.length≤9)(lZ':Z'.length≤9)(w:World)(hE:Env w) :
  CR 59 #[.agg #[.string ⟨X.toArray⟩,.string ⟨Y.toArray⟩,.string ⟨Z.toArray⟩],.agg #[.string ⟨X'.toArray⟩,.string ⟨Y'.toArray⟩,.string ⟨Z'.toArray⟩]] w (.int .i64 0):=by
 have H1:=LH (fun w hw=>zd2 X Y Z lX lY lZ w hw)
 have H2:=LH (fun w hw=>zd2 X' Y' Z' lX' lY' lZ' w hw)
 rw[h1]at H1
 rw[h2]at H2
 clear h1 h2 lX lY lZ lX' lY' lZ'
 obtain⟨W0,hW0⟩:∃ W0,(w.alloc (.cells #[.string ⟨X.toArray⟩,.string ⟨Y.toArray⟩,.string ⟨Z.toArray⟩] 32)).alloc (.cells #[.string ⟨X'.toArray⟩,.string ⟨Y'.toArray⟩,.string ⟨Z'.toArray⟩] 32)=W0:=⟨_,rfl⟩
 have hq0:Q w W0:=by rw[← hW0];exact bt
 have BA:Blk W0 w.heap.size [.string ⟨X.toArray⟩,.string ⟨Y.toArray⟩,.string ⟨Z.toArray⟩] 32:=by rw[← hW0];exact(Blk.new w _ _).alloc _
 have BB:Blk W0 (w.heap.size+1) [.string ⟨X'.toArray⟩,.string ⟨Y'.toArray⟩,.string ⟨Z'.toArray⟩] 32:=by rw[← hW0];exact Blk.new1 w _ _ _
 have hQ0:=Q.refl W0
 replace a0:=BA.cell
 replace lBA:=BA.lt
 replace b0:=BB.cell
 replace lBB:=BB.lt
 go_enter Tryz.func59,Tryz.ntmps59
 go_wp2_with fail
 refine cx (H1.out _ (hE.ofQ hq0)) fun G1 hq1=>?_
 have hs1:Q W0 G1:=Q.trans bt hq1
 have hQ1:Q W0 G1:=Q.trans hQ0 hs1
 replace BA:=BA.keep hs1 BA.lt
 replace a0:=BA.cell
 replace lBA:=BA.lt
 replace BB:=BB.keep hs1 BB.lt
 replace b0:=BB.cell
 replace lBB:=BB.lt
 clear hW0
 go_wp2_with fail
 refine cx (H2.out _ (hE.ofQ (Q.trans hq0 hQ1))) fun G2 hq2=>?_
 have hs2:Q G1 G2:=Q.trans bt hq2
 have hQ2:Q W0 G2:=Q.trans hQ1 hs2
 replace BA:=BA.keep hs2 BA.lt
 replace a0:=BA.cell
 replace lBA:=BA.lt
 replace BB:=BB.keep hs2 BB.lt
 replace b0:=BB.cell
 replace lBB:=BB.lt
 have hQ:=Q.trans hq0 hQ2
 go_wp2
 go_ret
 exact⟨rfl,hQ⟩
def zs6(p q:P3):Int:=if zi7 p.x q.x≠0 then zi7 p.x q.x else if zi7 p.y q.y≠0 then zi7 p.y q.y else zi7 p.z q.z
theorem zkq(p q:P3)(hp:B3 9 p)(hq:B3 9 q)(hpl:(ze p.x).length≤9∧(ze p.y).length≤9∧(ze p.z).length≤9)(hql:(ze q.x).length≤9∧(ze q.y).length≤9∧(ze q.z).length≤9)(w:World)(hE:Env w) :
  CR 35 #[V3 p,V3 q] w (.tuple #[.int .i64 (zs6 p q),.int .i64 0]):=by
 obtain⟨p1,p2,p3⟩:=hpl
 obtain⟨q1,q2,q3⟩:=hql
 have ch:∀ {s:P3},B3 9 s→zk2 (ze s.x) (ze s.y) (ze s.z)=0:=fun h=>by
  unfold zk2
  rw[zb5,zb5,zb5,h.1.zam (by decide),h.2.1.zam (by decide),h.2.2.zam (by decide)]
  rfl
 have HB:=LH (fun w hw=>zoA _ _ _ _ _ _ (ch hp) (ch hq) p1 p2 p3 q1 q2 q3 w hw)
 have HX:=LH (fun w=>zb4 p.x q.x hp.1 hq.1 p1 q1 w)
 have HY:=LH (fun w=>zb4 p.y q.y hp.2.1 hq.2.1 p2 q2 w)
 have HZ:=LH (fun w=>zb4 p.z q.z hp.2.2 hq.2.2 p3 q3 w)
 clear ch hp hq p1 p2 p3 q1 q2 q3
 obtain⟨c,hc⟩:∃ c,zs6 p q=c:=⟨_,rfl⟩
 rw[hc]
 unfold zs6 at hc
 unfold V3 at *
 generalize zi7 p.x q.x=cu at *
 generalize zi7 p.y q.y=cy at *
 generalize zi7 p.z q.z=cz at *
 generalize ze p.x=X at *
 generalize ze p.y=Y at *
 generalize ze p.z=Z at *
 generalize ze q.x=X' at *
 generalize ze q.y=Y' at *
 generalize ze q.z=Z' at *
 obtain⟨W0,hW0⟩:∃ W0,(w.alloc (.cells #[.string ⟨X.toArray⟩,.string ⟨Y.toArray⟩,.string ⟨Z.toArray⟩] 32)).alloc (.cells #[.string ⟨X'.toArray⟩,.string ⟨Y'.toArray⟩,.string ⟨Z'.toArray⟩] 32)=W0:=⟨_,rfl⟩
 have hq0:Q w W0:=by rw[← hW0];exact bt
 have BA:Blk W0 w.heap.size [.string ⟨X.toArray⟩,.string ⟨Y.toArray⟩,.string ⟨Z.toArray⟩] 32:=by rw[← hW0];exact(Blk.new w _ _).alloc _
 have BB:Blk W0 (w.heap.size+1) [.string ⟨X'.toArray⟩,.string ⟨Y'.toArray⟩,.string ⟨Z'.toArray⟩] 32:=by rw[← hW0];exact Blk.new1 w _ _ _
 have hQ0:=Q.refl W0
 replace a0:=BA.cell
 replace lBA:=BA.lt
 replace b0:=BB.cell 0
 replace b1:=BB.cell 1
 replace b2:=BB.cell 2
 simp only[zs4,zs5]at b0 b1 b2
 replace lBB:=BB.lt
 go_enter Tryz.func35,Tryz.ntmps35
 go_wp2_with fail
 refine cx (HB.out _ (hE.ofQ hq0)) fun G1 hq1=>?_
 have hs1:Q W0 G1:=Q.trans bt hq1
 have hQ1:Q W0 G1:=Q.trans hQ0 hs1
 replace BA:=BA.keep hs1 BA.lt
 replace a0:=BA.cell
 replace lBA:=BA.lt
 replace BB:=BB.keep hs1 BB.lt
 replace b0:=BB.cell 0
 replace b1:=BB.cell 1
 replace b2:=BB.cell 2
 simp only[zs4,zs5]at b0 b1 b2
 replace lBB:=BB.lt
 clear hW0
 go_wp2_with fail
 refine cx (HX.out _) fun G2 hq2=>?_
 have hs2:Q G1 G2:=Q.trans bt hq2
 have hQ2:Q W0 G2:=Q.trans hQ1 hs2
 replace BA:=BA.keep hs2 BA.lt
 replace a0:=BA.cell
 replace lBA:=BA.lt
 replace BB:=BB.keep hs2 BB.lt
 replace b0:=BB.cell 0
 replace b1:=BB.cell 1
 replace b2:=BB.cell 2
 simp only[zs4,zs5]at b0 b1 b2
 replace lBB:=BB.lt
 have hQx:=Q.trans hq0 hQ2
 by_cases hx:cu=0
 ·have b1:(cu == 0)=true:=by rw[hx];rfl
  have b1':(cu != 0)=false:=by rw[hx];rfl
  go_wp2_with fail
  refine cx (HY.out _) fun G3 hq3=>?_
  have hs3:Q G2 G3:=Q.trans bt hq3
  have hQ3:Q W0 G3:=Q.trans hQ2 hs3
  replace BA:=BA.keep hs3 BA.lt
  replace a0:=BA.cell
  replace lBA:=BA.lt
  replace BB:=BB.keep hs3 BB.lt
  replace b0:=BB.cell 0
  replace b1:=BB.cell 1
  replace b2:=BB.cell 2
  simp only[zs4,zs5]at b0 b1 b2
  replace lBB:=BB.lt
  have hQy:=Q.trans hq0 hQ3
  by_cases hy:cy=0
  ·have b2:(cy == 0)=true:=by rw[hy];rfl
   have b2':(cy != 0)=false:=by rw[hy];rfl
   rw[if_neg (by simpa using hx),if_neg (by simpa using hy)]at hc
   subst hc
   go_wp2_with fail
   refine cx (HZ.out _) fun G4 hq4=>?_
   have hs4:Q G3 G4:=Q.trans bt hq4
   have hQ4:Q W0 G4:=Q.trans hQ3 hs4
   replace BA:=BA.keep hs4 BA.lt
   replace a0:=BA.cell
   replace lBA:=BA.lt
   replace BB:=BB.keep hs4 BB.lt
   replace b0:=BB.cell 0
   replace b1:=BB.cell 1
   replace b2:=BB.cell 2
   simp only[zs4,zs5]at b0 b1 b2
   replace lBB:=BB.lt
   have hQz:=Q.trans hq0 hQ4
   go_wp2
   go_ret2
   exact⟨rfl,hQz⟩
  ·have b2:(cy == 0)=false:=by simpa using hy
   have b2':(cy != 0)=true:=by simpa using hy
   rw[if_neg (by simpa using hx),if_pos hy]at hc
   subst hc
   go_wp2
   go_ret2
   exact⟨rfl,hQy⟩
 ·have b1:(cu == 0)=false:=by simpa using hx
  have b1':(cu != 0)=true:=by simpa using hx
  rw[if_pos hx]at hc
  subst hc
  go_wp2
  go_ret2
  exact⟨rfl,hQx⟩
structure Ln.six (x:Ln):Prop where
 fx:x.fx.length≤6
 fy:x.fy.length≤6
 fz:x.fz.length≤6
 tx:x.tx.length≤6
 ty:x.ty.length≤6
 tz:x.tz.length≤6
def LnR(x:Ln):Prop:=∃ y:Lv,lnC x=y.c∧LvOk y
theorem zk1{x y:Rat}(h:zi7 x y<0):x<y:=by
 unfold zi7 at h
 split at h
 ·assumption
 ·split at h <;> omega
theorem znn{x y:Rat}(h:zi7 x y=0):x=y:=by
 unfold zi7 at h
 split at h
 ·omega
 ·split at h
  ·assumption
  ·omega
theorem zsZ{p q:P3}(h:zs6 p q<0)(hz:p.z=q.z):p.x<q.x∨(p.x=q.x∧p.y<q.y):=by
 unfold zs6 at h
 split at h
 ·exact .inl (zk1 h)
 ·rename_i h1
  have h1':=znn (by simpa using h1)
  split at h
  ·exact .inr ⟨h1',zk1 h⟩
  ·have:=zk1 h
   rw[hz]at this
   exact absurd this (Rat.lt_irrefl)
theorem zqC{k l r:Int}(h:zgw k l r=true):(-1≤l∧l<24∧-1≤r∧r<24)∧(zlc k=true→0≤l∧0≤r∧l≠r)∧(zlc k=false→(l<0∧¬ r<0)∨(¬ l<0∧r<0)):=by
 unfold zgw at h
 split at h
 ·cases h
 ·refine⟨by omega,fun h2=>?_,fun h2=>?_⟩
  ·rw[if_pos h2]at h
   exact of_decide_eq_true h
  ·rw[if_neg (by rw[h2];decide)]at h
   exact of_decide_eq_true h
theorem zmM(x:Ln)(h6:x.six)(w:World)(hE:Env w) :
  Calls Tryz.prog 14 #[.agg (lnC x).toArray] w fun e w'=>∃ E:Int,e=.returned (.int .i64 E)∧Q w w'∧(E=0→LnR x):=by
 have up:∀ {a:Nat},a≤6→a≤9:=fun h=>Nat.le_trans h (by decide)
 have HF:=LH (fun w hw=>zd2 x.fx x.fy x.fz (up h6.fx) (up h6.fy) (up h6.fz) w hw)
 have HT:=LH (fun w hw=>zd2 x.tx x.ty x.tz (up h6.tx) (up h6.ty) (up h6.tz) w hw)
 have HA:=LH (fun w=>zmL x w)
 have HLV:=LH (fun w=>zmK x.k w)
 have good:zk2 x.fx x.fy x.fz=0→zk2 x.tx x.ty x.tz=0→∃ f t:P3,B3 9 f∧B3 9 t∧(ze f.x=x.fx∧ze f.y=x.fy∧ze f.z=x.fz)∧(ze t.x=x.tx∧ze t.y=x.ty∧ze t.z=x.tz):=fun h1 h2=>by
  have g1:=zml h1
  have g2:=zml h2
  exact⟨⟨rval x.fx,rval x.fy,rval x.fz⟩,⟨rval x.tx,rval x.ty,rval x.tz⟩,⟨ze1 g1.1 (up h6.fx) (by decide),ze1 g1.2.1 (up h6.fy) (by decide),ze1 g1.2.2 (up h6.fz) (by decide)⟩,
   ⟨ze1 g2.1 (up h6.tx) (by decide),ze1 g2.2.1 (up h6.ty) (by decide),ze1 g2.2.2 (up h6.tz) (by decide)⟩,⟨(zcZ g1.1).1,(zcZ g1.2.1).1,(zcZ g1.2.2).1⟩,⟨(zcZ g2.1).1,(zcZ g2.2.1).1,(zcZ g2.2.2).1⟩⟩
 obtain⟨k,X,Y,Z,X',Y',Z',l,r⟩:=x
 obtain⟨l1,l2,l3,l4,l5,l6⟩:=h6
 simp only at *
 unfold lnC at *
 simp only at *
 obtain⟨W0,hW0⟩:∃ W0,w.alloc (.cells #[.int .i64 k,.string ⟨X.toArray⟩,.string ⟨Y.toArray⟩,.string ⟨Z.toArray⟩,.string ⟨X'.toArray⟩,.string ⟨Y'.toArray⟩,.string ⟨Z'.toArray⟩,.int .i64 l,.int .i64 r] 34)=W0:=⟨_,rfl⟩
 have hq0:Q w W0:=by rw[← hW0];exact bt
 have BL:Blk W0 w.heap.size [.int .i64 k,.string ⟨X.toArray⟩,.string ⟨Y.toArray⟩,.string ⟨Z.toArray⟩,.string ⟨X'.toArray⟩,.string ⟨Y'.toArray⟩,.string ⟨Z'.toArray⟩,.int .i64 l,.int .i64 r] 34:=by rw[← hW0];exact Blk.new w _ _
 have hE0:=hE.ofQ hq0
 clear up
 by_cases hk:k<1∨(¬ k<1∧8<k)
 ·clear HF HT HA HLV good l1 l2 l3 l4 l5 l6
  have hQ0:=Q.refl W0
  replace n0:=BL.cell
  replace lBL:=BL.lt
  rcases hk with h1 | ⟨h1,h2⟩
  all_goals
   go_enter Tryz.func14,Tryz.ntmps14
   go_wp2
   go_ret
   exact⟨8,rfl,hq0,fun h=>by cases h⟩
 have k1:¬ k<1:=by omega
 have k2:¬ 8<k:=by omega
 clear hk
 by_cases hc1:zk2 X Y Z=0
 case' neg =>
  have hb:(zk2 X Y Z == 0)=false:=by simpa using hc1
  have hb':(zk2 X Y Z != 0)=true:=by simpa using hc1
  have hz:=LH hc1
  generalize zk2 X Y Z=c1 at *
  clear hc1 HT HA HLV good l1 l2 l3 l4 l5 l6
  have hQ0:=Q.refl W0
  replace n0:=BL.cell
  replace lBL:=BL.lt
  go_enter Tryz.func14,Tryz.ntmps14
  go_wp2_with fail
  refine cx (HF.out _ hE0) fun G1 hg1=>?_
  have hQ:=Q.trans hq0 hg1
  go_wp2
  go_ret
  exact⟨_,rfl,hQ,fun h=>absurd h hz.out⟩
 rw[hc1]at HF
 by_cases hc2:zk2 X' Y' Z'=0
 case' neg =>
  have hb:(zk2 X' Y' Z' == 0)=false:=by simpa using hc2
  have hb':(zk2 X' Y' Z' != 0)=true:=by simpa using hc2
  have hz:=LH hc2
  generalize zk2 X' Y' Z'=c2 at *
  clear hc1 hc2 HA HLV good l1 l2 l3 l4 l5 l6
  have hQ0:=Q.refl W0
  replace n0:=BL.cell
  replace lBL:=BL.lt
  go_enter Tryz.func14,Tryz.ntmps14
  go_wp2_with fail
  refine cx (HF.out _ hE0) fun G1 hq1=>?_
  have hs1:Q W0 G1:=Q.trans bt hq1
  have hQ1:Q W0 G1:=Q.trans hQ0 hs1
  replace BL:=BL.keep hs1 BL.lt
  replace n0:=BL.cell
  replace lBL:=BL.lt
  go_wp2_with fail
  refine cx (HT.out _ (hE0.ofQ hQ1)) fun G2 hq2=>?_
  have hs2:Q G1 G2:=Q.trans bt hq2
  have hQ2:Q W0 G2:=Q.trans hQ1 hs2
  replace BL:=BL.keep hs2 BL.lt
  replace n0:=BL.cell
  replace lBL:=BL.lt
  have hQ:=Q.trans hq0 hQ2
  go_wp2
  go_ret
  exact⟨_,rfl,hQ,fun h=>absurd h hz.out⟩
 rw[hc2]at HT
 obtain⟨f,t,bf,bt',⟨rfl,rfl,rfl⟩,⟨rfl,rfl,rfl⟩⟩:=good hc1 hc2
 have up:∀ {a:Nat},a≤6→a≤9:=fun h=>Nat.le_trans h (by decide)
 have HL1:=LH (fun w=>zfe f bf (by decide) (up l1) (up l2) (up l3) w)
 have HL2:=LH (fun w=>zfe t bt' (by decide) (up l4) (up l5) (up l6) w)
 have HZ:=LH (fun w=>zkp f.z t.z bf.2.2 bt'.2.2 (up l3) (up l6) w)
 have HS:=LH (fun w hw=>zkq f t bf bt' ⟨up l1,up l2,up l3⟩ ⟨up l4,up l5,up l6⟩ w hw)
 have HN:Hid ((ze f.x == ze t.x && ze f.y == ze t.y)=false→zgw k l r=true→(zoY k=true→zi7 f.z t.z=0∧zs6 f t<0)→(zoY k=false→zi7 f.z t.z<0)→LnR ⟨k,ze f.x,ze f.y,ze f.z,ze t.x,ze t.y,ze t.z,l,r⟩):=LH (fun h1 h2 h3 h4=>by
  obtain⟨⟨f1,f2,f3,f4⟩,f5,f6⟩:=zqC h2
  refine⟨⟨k,f,t,l,r⟩,rfl,⟨by show 1≤k;omega,by show k≤8;omega,⟨bf.1.mono (by decide),bf.2.1.mono (by decide),bf.2.2.mono (by decide)⟩,⟨bt'.1.mono (by decide),bt'.2.1.mono (by decide),bt'.2.2.mono (by decide)⟩,?_,f1,f2,f3,f4,f5,f6,fun h=>?_,fun h=>zk1 (h4 h)⟩⟩
  ·rintro⟨e1,e2⟩
   have e1':f.x=t.x:=e1
   have e2':f.y=t.y:=e2
   rw[e1',e2']at h1
   simp at h1
  ·obtain⟨g1,g2⟩:=h3 h
   exact⟨znn g1,zsZ g2 (znn g1)⟩)
 clear l1 l2 l3 l4 l5 l6 good hc1 hc2 up
 unfold V3 at *
 generalize zi7 f.z t.z=n at *
 generalize zs6 f t=m at *
 generalize zgw k l r=fb at *
 generalize zoY k=lv at *
 obtain⟨bx,hbx⟩:∃ b,(ze f.x == ze t.x)=b:=⟨_,rfl⟩
 obtain⟨by',hby⟩:∃ b,(ze f.y == ze t.y)=b:=⟨_,rfl⟩
 rw[hbx,hby]at HN
 generalize LnR _=P at *
 clear bf bt'
 generalize ze f.x=X at *
 generalize ze f.y=Y at *
 generalize ze f.z=Z at *
 generalize ze t.x=X' at *
 generalize ze t.y=Y' at *
 generalize ze t.z=Z' at *
 have hQ0:=Q.refl W0
 replace n0:=BL.cell
 replace lBL:=BL.lt
 go_enter Tryz.func14,Tryz.ntmps14
 go_wp2_with fail
 refine cx (HF.out _ hE0) fun G1 hq1=>?_
 have hs1:Q W0 G1:=Q.trans bt hq1
 have hQ1:Q W0 G1:=Q.trans hQ0 hs1
 replace BL:=BL.keep hs1 BL.lt
 replace n0:=BL.cell
 replace lBL:=BL.lt
 go_wp2_with fail
 refine cx (HT.out _ (hE0.ofQ hQ1)) fun G2 hq2=>?_
 have hs2:Q G1 G2:=Q.trans bt hq2
 have hQ2:Q W0 G2:=Q.trans hQ1 hs2
 replace BL:=BL.keep hs2 BL.lt
 replace n0:=BL.cell
 replace lBL:=BL.lt
 clear HF HT
 go_wp2_with fail
 refine cx (HL1.out _) fun G3 hq3=>?_
 have hs3:Q G2 G3:=Q.trans bt hq3
 have hQ3:Q W0 G3:=Q.trans hQ2 hs3
 replace BL:=BL.keep hs3 BL.lt
 replace n0:=BL.cell
 replace lBL:=BL.lt
 go_wp2_with fail
 refine cx (HL2.out _) fun G4 hq4=>?_
 have hs4:Q G3 G4:=Q.trans bt hq4
 have hQ4:Q W0 G4:=Q.trans hQ3 hs4
 replace BL:=BL.keep hs4 BL.lt
 replace n0:=BL.cell
 replace lBL:=BL.lt
 clear HL1 HL2 hW0
 have hQb:=Q.trans hq0 hQ4
 rcases(show (bx=true∧by'=true)∨bx=false∨(bx=true∧by'=false) by cases bx <;> cases by' <;> simp)with⟨rfl,rfl⟩ | rfl | ⟨rfl,rfl⟩
 ·clear HN HA HLV HZ HS
  go_wp2
  go_ret
  exact⟨12,rfl,hQb,fun h=>by cases h⟩
 all_goals
  have hn:=LH (HN.out (by simp))
  clear HN
  go_wp2_with fail
  refine cx (HA.out _) fun G5 hg5=>?_
  replace hQb:=Q.trans hQb hg5
  replace BL:=BL.keep hg5 BL.lt
  clear HA n0 lBL hs1 hs2 hs3 hs4 hQ0 hQ1 hQ2 hQ3 hQ4 hq1 hq2 hq3 hq4
  have hQ0:=Q.refl G5
  replace n0:=BL.cell
  replace lBL:=BL.lt
  cases fb
  ·clear hn HLV HZ HS
   go_wp2
   go_ret
   exact⟨18,rfl,hQb,fun h=>by cases h⟩
  ·go_wp2_with fail
   refine cx (HZ.out _) fun G6 hg6=>?_
   replace hQb:=Q.trans hQb hg6
   replace BL:=BL.keep hg6 BL.lt
   clear HZ n0 lBL hQ0 hg6 hg5
   have hQ0:=Q.refl G6
   replace n0:=BL.cell
   replace lBL:=BL.lt
   go_wp2_with fail
   refine(HLV.out _).mono ?_
   rintro e G7⟨rfl,rfl⟩
   cases lv
   ·by_cases hm:0≤n
    ·clear hn HLV HS
     go_wp2
     go_ret
     exact⟨10,rfl,hQb,fun h=>by cases h⟩
    ·have hr:=LH (hn.out (by trivial) (fun h=>by cases h) (fun _=>by omega))
     clear hn HLV HS
     go_wp2
     go_ret
     exact⟨0,rfl,hQb,fun _=>hr.out⟩
   ·go_wp2_with fail
    refine cx (HS.out _ (hE.ofQ hQb)) fun G8 hg8=>?_
    replace hQb:=Q.trans hQb hg8
    by_cases hz:n=0
    ·have b1:(n == 0)=true:=by rw[hz];rfl
     have b1':(n != 0)=false:=by rw[hz];rfl
     by_cases hm:0≤m
     ·clear hn HLV HS hz
      go_wp2
      go_ret
      exact⟨10,rfl,hQb,fun h=>by cases h⟩
     ·have hr:=LH (hn.out (by trivial) (fun _=>⟨hz,by omega⟩) (fun h=>by cases h))
      clear hn HLV HS hz
      go_wp2
      go_ret
      exact⟨0,rfl,hQb,fun _=>hr.out⟩
    ·have b1:(n == 0)=false:=by simpa using hz
     have b1':(n != 0)=true:=by simpa using hz
     clear hn HLV HS hz
     go_wp2
     go_ret
     exact⟨10,rfl,hQb,fun h=>by cases h⟩
end
end Go.Proofs.YtapnkgdnflofbaaGreatDoor
