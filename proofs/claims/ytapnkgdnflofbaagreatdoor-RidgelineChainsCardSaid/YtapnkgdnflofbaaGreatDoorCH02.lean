/-
  Walks: the package integer where numbers are short.; Walks: the functions of package integer at short numerals (at most 18 bytes).; Numbers with short parts, as the program reads them (nativeOf): just the numbers whose parts have at most 8 digits.; Fractions and their numerals.; The form of a number's string, as rational.cut asks it.; Square roots of integers, and the normal form of the root of an integer: plain mathematics.
-/
import Derived.Test.YtapnkgdnflofbaaGreatDoorCH01
import Derived.Test.YtapnkgdnflofbaaGreatDoorCH00
import Derived.Test.YtapnkgdnflofbaaGreatDoorCHMA
import Derived.Lib.BitFns
set_option maxRecDepth 100000
set_option maxHeartbeats 800000
namespace Go.Proofs.YtapnkgdnflofbaaGreatDoor
section
open Go.RowKit Kp
theorem ztc{c:UInt8}(h:c≠48):((c.toNat:Int) == 48)=false:=by rw[zmA];simpa using h
theorem zgp(w:World) :
  CR 196 #[.string ⟨[48].toArray⟩] w (.int .i64 0):=by
 go_enter Tryz.func196,Tryz.ntmps196
 go_wp2_with (first | (go_at_call 155;refine(zP [48] _).mono ?_;rintro e w1 ⟨rfl,rfl⟩;rw[show zo [48]=[48]from rfl])|(go_at_call 259;refine(zdv [48] (by decide) _).mono ?_;rintro e w1 ⟨rfl,hq⟩;rw[show zoV [48]=[]from by decide]))
 go_ret
 exact⟨rfl,hq⟩
theorem zcb(a:Str)(hl:a.length≤1000000000)(w:World) :
  CR 196 #[.string ⟨a.toArray⟩] w (.int .i64 (zdc a)):=by
 by_cases h48:a=[48]
 ·subst h48;rw[zqq];exact zgp w
 have hu:=zdF a
 by_cases hn:zo a=[]
 ·rw[zjT hn]
  go_enter Tryz.func196,Tryz.ntmps196
  go_wp2_with (go_at_call 155;refine(zP a _).mono ?_;rintro e w1 ⟨rfl,rfl⟩;rw[hn])
  go_ret
  exact⟨rfl,Below.refl _ _⟩
 have hne:(zo a).isEmpty=false:=by simpa using hn
 have hpos:0<(zo a).length:=List.length_pos_iff.2 hn
 by_cases h0:at0 (zo a) 0=48
 ·rw[zmb hn h0 h48]
  have hb:((((at0 (zo a) 0).toNat:Int)) == 48)=true:=by rw[h0];rfl
  clear h0
  go_enter Tryz.func196,Tryz.ntmps196
  go_wp2_with (go_at_call 155;refine(zP a _).mono ?_;rintro e w1 ⟨rfl,rfl⟩)
  go_ret
  exact⟨rfl,Below.refl _ _⟩
 have hb:=ztc h0
 by_cases hd:zay (zo a)
 ·have hN:(zoV (zo a)).isEmpty=true:=by rw[(zlM _).2 hd];rfl
  have HC:=LH (zmc hn h0 hd)
  clear h0 hd
  by_cases h3:300<(zo a).length
  all_goals
   go_enter Tryz.func196,Tryz.ntmps196
   go_wp2_with (first | (go_at_call 155;refine(zP a _).mono ?_;rintro e w1 ⟨rfl,rfl⟩)|(go_at_call 259;refine(zdv _ (by omega) _).mono ?_;rintro e w1 ⟨rfl,hq⟩))
   go_ret
   refine⟨zcH ?_,hq⟩
   rw[HC.out]
   simp[h3]
 ·have hN:(zoV (zo a)).isEmpty=false:=by
   have:zoV (zo a)≠[]:=fun e=>hd ((zlM _).1 e)
   simpa using this
  rw[ziV hd]
  clear h0 hd
  go_enter Tryz.func196,Tryz.ntmps196
  go_wp2_with (first | (go_at_call 155;refine(zP a _).mono ?_;rintro e w1 ⟨rfl,rfl⟩)|(go_at_call 259;refine(zdv _ (by omega) _).mono ?_;rintro e w1 ⟨rfl,hq⟩))
  go_ret
  exact⟨rfl,hq⟩
theorem zl8(a b:Str)(ha:a.length≤1000000000)(hb:b.length≤1000000000)(w:World) :
  CR 141 #[.string ⟨a.toArray⟩,.string ⟨b.toArray⟩] w (.int .i64 (if zdc a=0 then zdc b else zdc a)):=by
 by_cases h:zdc a=0
 ·have H:=LH h
  have hb2:(zdc a == 0)=true:=by simpa using h
  have hb3:(zdc a != 0)=false:=by simpa using h
  clear h
  go_enter Tryz.func141,Tryz.ntmps141
  go_wp2_with fail
  refine cx (zcb a ha _) fun w1 hq=>?_
  go_wp2_with fail
  refine cx (zcb b hb _) fun w2 hq2=>?_
  go_wp2
  go_ret
  exact⟨zcH (by first | rfl | (rw[if_pos H.out];rfl)),hq.trans (hq2.mono hq.size)⟩
 ·have H:=LH h
  have hb2:(zdc a == 0)=false:=by simpa using h
  have hb3:(zdc a != 0)=true:=by simpa using h
  clear h
  go_enter Tryz.func141,Tryz.ntmps141
  go_wp2_with fail
  refine cx (zcb a ha _) fun w1 hq=>?_
  go_wp2_with fail
  go_ret
  exact⟨zcH (by first | rfl | (rw[if_neg H.out];rfl)),hq⟩
theorem zbE(x y:Int)(hx:(Lib.itoa x).length≤18)(hy:(Lib.itoa y).length≤18)(w:World) :
  CR 142 #[.string ⟨(Lib.itoa x).toArray⟩,.string ⟨(Lib.itoa y).toArray⟩,.int .i64 18] w (.tuple #[.int .i64 x,.int .i64 y,.bool true]):=by
 go_enter Tryz.func142,Tryz.ntmps142
 go_wp2_with fail
 refine cx (zgk x hx _) fun w1 hq=>?_
 go_wp2_with fail
 refine cx (zgk y hy _) fun w2 hq2=>?_
 go_wp2_with fail
 go_quiet (fail)
 go_wp2
 go_ret3
 exact⟨rfl,Below.drewN (hq.trans (hq2.mono hq.size)) _⟩
theorem zZ(x y:Int)(hx:lim x=false)(hy:lim y=false)(w:World) :
  CR 141 #[.string ⟨(Lib.itoa x).toArray⟩,.string ⟨(Lib.itoa y).toArray⟩] w (.int .i64 0):=by
 have h1:=zU x hx
 have h2:=zU y hy
 refine(zl8 (Lib.itoa x) (Lib.itoa y) (by omega) (by omega) w).mono ?_
 rintro e w'⟨rfl,hq⟩
 exact⟨zcH (by rw[zcc,hx,zcc,hy];rfl),hq⟩
def zti(w:World)(g:Nat)(x y:Value)(wr:World):Prop :=
 ∃ (p q:Int),x=.int .i64 p∧y=.int .i64 q∧p.natAbs≤1000000000000000000∧q.natAbs≤1000000000000000000∧Nat.gcd p.natAbs q.natAbs=g∧Q w wr∧Env wr
theorem zp6(p:Int):max p (-p)=p.natAbs:=by omega
theorem zdS(x y:Int)(hx:(Lib.itoa x).length≤18)(hy:(Lib.itoa y).length≤18)(w:World)(hE:Env w) :
  CR 149 #[.string ⟨(Lib.itoa x).toArray⟩,.string ⟨(Lib.itoa y).toArray⟩] w (.tuple #[.string ⟨(Lib.itoa (Nat.gcd x.natAbs y.natAbs:Int)).toArray⟩,.int .i64 0]):=by
 have hx1:=zaC hx
 have hy1:=zaC hy
 go_enter Tryz.func149,Tryz.ntmps149
 go_wp2_with fail
 refine cx (zZ x y (zbo hx) (zbo hy) _) fun w1 hq=>?_
 go_wp2_with fail
 refine cx (zbE x y hx hy _) fun w2 hq2=>?_
 have hQ2:Q w w2:=hq.trans (hq2.mono hq.size)
 have hE2:=hE.q hQ2
 go_wp2_with fail
 go_loopw [7,8] (zti w (Nat.gcd x.natAbs y.natAbs)) (fun _ y _=>(intOf y).natAbs)
 case atStart=>exact⟨x,y,rfl,rfl,by omega,by omega,rfl,hQ2,hE2⟩
 case round =>
  obtain⟨p,q,rfl,rfl,hp,hq,hg,hQ,hEr⟩:=hrel
  have HG:=LH hg;clear hg
  by_cases h0:q=0
  ·subst h0
   have hmx:=zp6 p
   go_wp2_with fail
   refine cx (zaq _ (by omega) (by omega) _ hEr) fun w3 hq3=>?_
   go_wp2
   go_ret2
   have:=HG.out
   simp at this
   exact⟨by rw[← this];rfl,hQ.trans (hq3.mono hQ.size)⟩
  ·have hne:(q == 0)=false:=by simp;omega
   have h1:(p.tmod q).natAbs=p.natAbs % q.natAbs:=Int.natAbs_tmod ..
   have hm:=Nat.mod_lt p.natAbs (show 0<q.natAbs by omega)
   go_wp2_with fail
   go_quiet (fail)
   go_wp2
   go_roundw
   case rel=>exact⟨q,p.tmod q,rfl,rfl,by omega,by omega,by rw[← HG.out,h1,← zhV],Below.drewN hQ _,hEr.drewN _⟩
   case measure=>simp only[intOf];omega
theorem zg9(x y:Int)(hx:(Lib.itoa x).length+(Lib.itoa y).length≤18)(w:World)(hE:Env w) :
  CR 77 #[.string ⟨(Lib.itoa x).toArray⟩,.string ⟨(Lib.itoa y).toArray⟩] w (.tuple #[.string ⟨(Lib.itoa (x*y)).toArray⟩,.int .i64 0]):=by
 have hx1:=zaC (x:=x) (by omega)
 have hb:=zlP hx
 go_enter Tryz.func77,Tryz.ntmps77
 go_wp2_with fail
 refine cx (zZ x y (zbo (by omega)) (zbo (by omega)) _) fun w1 hq=>?_
 go_wp2_with fail
 refine cx (zbE x y (by omega) (by omega) _) fun w2 hq2=>?_
 have hQ2:Q w w2:=hq.trans (hq2.mono hq.size)
 have hE2:=hE.q hQ2
 go_wp2_with fail
 refine cx (zaq _ (by omega) (by omega) _ hE2) fun w3 hq3=>?_
 go_wp2
 go_ret2
 exact⟨rfl,hQ2.trans (hq3.mono hQ2.size)⟩
theorem zha(x y:Int)(hx:(Lib.itoa x).length≤18)(hy:(Lib.itoa y).length≤18)(w:World)(hE:Env w) :
  CR 276 #[.string ⟨(Lib.itoa x).toArray⟩,.string ⟨(Lib.itoa y).toArray⟩] w (.tuple #[.string ⟨(Lib.itoa (x+y)).toArray⟩,.int .i64 0]):=by
 have hx1:=zaC hx
 have hy1:=zaC hy
 go_enter Tryz.func276,Tryz.ntmps276
 go_wp2_with fail
 refine cx (zZ x y (zbo hx) (zbo hy) _) fun w1 hq=>?_
 go_wp2_with fail
 refine cx (zbE x y hx hy _) fun w2 hq2=>?_
 have hQ2:Q w w2:=hq.trans (hq2.mono hq.size)
 have hE2:=hE.q hQ2
 go_wp2_with fail
 refine cx (zaq _ (by omega) (by omega) _ hE2) fun w3 hq3=>?_
 go_wp2
 go_ret2
 exact⟨rfl,hQ2.trans (hq3.mono hQ2.size)⟩
theorem zg7(x y:Int)(hx:(Lib.itoa x).length≤18)(hy:(Lib.itoa y).length≤18)(w:World)(hE:Env w) :
  CR 74 #[.string ⟨(Lib.itoa x).toArray⟩,.string ⟨(Lib.itoa y).toArray⟩] w (.tuple #[.string ⟨(Lib.itoa (x - y)).toArray⟩,.int .i64 0]):=by
 have hx1:=zaC hx
 have hy1:=zaC hy
 go_enter Tryz.func74,Tryz.ntmps74
 go_wp2_with fail
 refine cx (zZ x y (zbo hx) (zbo hy) _) fun w1 hq=>?_
 go_wp2_with fail
 refine cx (zbE x y hx hy _) fun w2 hq2=>?_
 have hQ2:Q w w2:=hq.trans (hq2.mono hq.size)
 have hE2:=hE.q hQ2
 go_wp2_with fail
 refine cx (zaq _ (by omega) (by omega) _ hE2) fun w3 hq3=>?_
 go_wp2
 go_ret2
 exact⟨rfl,hQ2.trans (hq3.mono hQ2.size)⟩
theorem zeR(x y:Int)(hx:(Lib.itoa x).length≤18)(hy:(Lib.itoa y).length≤18)(w:World) :
  CR 83 #[.string ⟨(Lib.itoa x).toArray⟩,.string ⟨(Lib.itoa y).toArray⟩] w (.tuple #[.int .i64 (Lib.compareInt x y),.int .i64 0]):=by
 go_enter Tryz.func83,Tryz.ntmps83
 go_wp2_with fail
 refine cx (zZ x y (zbo hx) (zbo hy) _) fun w1 hq=>?_
 go_wp2_with fail
 refine cx (zbE x y hx hy _) fun w2 hq2=>?_
 have hQ2:Q w w2:=hq.trans (hq2.mono hq.size)
 go_wp2_with fail
 refine(Tryz.cmp_Compare_int _ _ _).mono ?_
 rintro e w3⟨rfl,rfl⟩
 go_wp2
 go_ret2
 exact⟨rfl,hQ2⟩
theorem zaP(x y:Int)(hx:(Lib.itoa x).length≤18)(hy:(Lib.itoa y).length≤18)(hy0:y≠0)(w:World)(hE:Env w) :
  CR 150 #[.string ⟨(Lib.itoa x).toArray⟩,.string ⟨(Lib.itoa y).toArray⟩] w (.tuple #[.string ⟨(Lib.itoa (x.fdiv y)).toArray⟩,.string ⟨(Lib.itoa (x.fmod y)).toArray⟩,.int .i64 0]):=by
 have hx1:=zaC hx
 have hy1:=zaC hy
 have hn:(Lib.itoa y == [48])=false:=by
  rw[beq_eq_false_iff_ne,← zae];exact fun e=>hy0 (zak e)
 have hy2:(y == 0)=false:=by simpa using hy0
 have hd1:=znv x y
 have hm1:=zq6 x y hy0
 have hd2:-1000000000000000000≤x.tdiv y:=by omega
 have hd3:x.tdiv y≤1000000000000000000:=by omega
 have hd4:-1000000000000000000≤x.tmod y:=by omega
 have hd5:x.tmod y≤1000000000000000000:=by omega
 obtain⟨f1,f2,f3⟩:=zmx (x:=x) hy0
 have F1:=LH f1
 have F2:=LH f2
 have F3:=LH f3
 clear f1 f2 f3 hd1 hm1
 go_enter Tryz.func150,Tryz.ntmps150
 go_wp2_with fail
 refine cx (zZ x y (zbo hx) (zbo hy) _) fun w1 hq=>?_
 go_wp2_with fail
 refine cx (zbE x y hx hy _) fun w2 hq2=>?_
 have hQ2:Q w w2:=hq.trans (hq2.mono hq.size)
 have hE2:=hE.q hQ2
 go_wp2_with fail
 go_quiet (fail)
 go_wp2_with fail
 ·have ht:x.tmod y=0:=by assumption
  have HF:=LH (F1.out ht)
  refine cx (zaq _ (by omega) (by omega) _ (hE2.drewN _)) fun w3 hq3=>?_
  have hQ3:Q w w3:=hQ2.trans ((Below.drewN (Below.refl _ w2) _).trans hq3 |>.mono hQ2.size)
  go_wp2_with fail
  refine cx (zaq _ (by omega) (by omega) _ (hE.q hQ3)) fun w4 hq4=>?_
  go_wp2
  go_ret3
  exact⟨by rw[HF.out.1,HF.out.2];first | rfl | (rw[ht];rfl),hQ3.trans (hq4.mono hQ3.size)⟩
 ·have ht:¬ x.tmod y=0:=by assumption
  have hs:(x.tmod y != 0)=true∧(!decide (x.tmod y<0) == decide (y<0))=true:=by assumption
  have HF:=LH (F3.out ht (by simpa using hs.2))
  clear hs
  refine cx (zaq _ (by omega) (by omega) _ (hE2.drewN _)) fun w3 hq3=>?_
  have hQ3:Q w w3:=hQ2.trans ((Below.drewN (Below.refl _ w2) _).trans hq3 |>.mono hQ2.size)
  go_wp2_with fail
  refine cx (zaq _ (by omega) (by omega) _ (hE.q hQ3)) fun w4 hq4=>?_
  go_wp2
  go_ret3
  exact⟨by rw[HF.out.1,HF.out.2];rfl,hQ3.trans (hq4.mono hQ3.size)⟩
 ·have ht:¬ x.tmod y=0:=by assumption
  have hs:(x.tmod y != 0)=false∨(!decide (x.tmod y<0) == decide (y<0))=false:=by assumption
  have HF:=LH (F2.out ht (hs.elim (fun h=>absurd h (by simp[ht])) (fun h=>by simpa using h)))
  clear hs
  refine cx (zaq _ (by omega) (by omega) _ (hE2.drewN _)) fun w3 hq3=>?_
  have hQ3:Q w w3:=hQ2.trans ((Below.drewN (Below.refl _ w2) _).trans hq3 |>.mono hQ2.size)
  go_wp2_with fail
  refine cx (zaq _ (by omega) (by omega) _ (hE.q hQ3)) fun w4 hq4=>?_
  go_wp2
  go_ret3
  exact⟨by rw[HF.out.1,HF.out.2];rfl,hQ3.trans (hq4.mono hQ3.size)⟩
end
end Go.Proofs.YtapnkgdnflofbaaGreatDoor
namespace Kp
open Go.Lib (decDigits itoa nDigits)
theorem zkJ(s:Str):zay (s.take (zbg s))∧zbg s≤s.length∧zbg s≤9∧(zbg s=s.length∨zbg s=9∨zar (at0 s (zbg s))=false):=by
 suffices h:∃ k,zay (s.take k)∧k≤s.length∧k≤9∧(k=s.length∨k=9∨zar (at0 s k)=false) by
  obtain⟨k,h1,h2,h3,h4⟩:=h
  have:=ziD h1 h2 h3 h4
  rw[this];exact⟨h1,h2,h3,h4⟩
 have step:∀ n k,9 - k=n→zay (s.take k)→k≤s.length→k≤9→∃ k,zay (s.take k)∧k≤s.length∧k≤9∧(k=s.length∨k=9∨zar (at0 s k)=false):=by
  intro n
  induction n with
  | zero=>intro k hk h1 h2 h3;exact⟨k,h1,h2,h3,.inr (.inl (by omega))⟩
  | succ n ih =>
   intro k hk h1 h2 h3
   by_cases hl:k=s.length
   ·exact⟨k,h1,h2,h3,.inl hl⟩
   ·cases hd:zar (at0 s k)with
    | false=>exact⟨k,h1,h2,h3,.inr (.inr hd)⟩
    | true=>exact ih (k+1) (by omega) (h1.snoc (by omega) hd) (by omega) (by omega)
 exact step 9 0 rfl (by simp[zay]) (by omega) (by omega)
theorem zfH{s:Str}(h:zbT s=true):s=decDigits (zbO s)++zy s∧zbO s<100000000∧(zy s=[]∨zar (at0 (zy s) 0)=false):=by
 obtain⟨h1,h2,h3,h4⟩:=zkJ s
 have hk:=h
 unfold zbT at hk
 rw[decide_eq_true_eq]at hk
 obtain⟨k0,k8,kz⟩:=hk
 have en:zbO s=nval (s.take (zbg s)):=by unfold zbO;rw[h];rfl
 have er:zy s=s.drop (zbg s):=by unfold zy;rw[h];rfl
 have hne:s.take (zbg s)≠[]:=by
  intro e
  have:=congrArg List.length e
  rw[List.length_take,List.length_nil]at this;omega
 have hd:decDigits (zbO s)=s.take (zbg s):=by
  rw[en]
  refine zbL _ hne h1 (fun e=>?_)
  have h00:at0 s 0=48:=by
   cases s with
   | nil=>simp at h2;omega
   | cons c r =>
    rw[show zbg (c::r)=(zbg (c::r) - 1)+1 by omega,List.take_succ_cons]at e
    simp only[List.head?_cons,Option.some.injEq]at e
    exact e
  have h1':zbg s=1:=by
   by_cases h':1<zbg s
   ·exact absurd ⟨h',h00⟩ kz
   ·omega
  rw[h1']
  cases s with
  | nil=>simp at h2;omega
  | cons c r=>simp only[at0,List.getD_cons_zero]at h00;subst h00;rfl
 refine⟨by rw[hd,er,List.take_append_drop],?_,?_⟩
 ·have h8:zbO s<10 ^ 8:=by
   rw[en];exact Nat.lt_of_lt_of_le (zeH h1) (Nat.pow_le_pow_right (by decide) k8)
  simpa using h8
 ·rw[er]
  rcases h4 with e | e | e
  ·left;rw[e];exact List.drop_length
  ·omega
  ·right
   have:at0 (s.drop (zbg s)) 0=at0 s (zbg s):=by
    unfold at0;rw[List.getD_eq_getElem?_getD,List.getElem?_drop,← List.getD_eq_getElem?_getD];rfl
   rw[this];exact e
theorem zkK{n:Nat}{r:Str}(hn:n<100000000)(hr:r=[]∨zar (at0 r 0)=false) :
  zbT (decDigits n++r)=true∧zbO (decDigits n++r)=n∧zy (decDigits n++r)=r:=by
 have hlen:(decDigits n).length≤8:=(zm n 8 (by decide)).2 (by simpa using hn)
 have hpos:=List.length_pos_iff.2 (zat n)
 have htake:(decDigits n++r).take (decDigits n).length=decDigits n:=List.take_left
 have hdrop:(decDigits n++r).drop (decDigits n).length=r:=List.drop_left
 have hpre:zbg (decDigits n++r)=(decDigits n).length:=by
  refine ziD (by rw[htake];exact zY n) (by simp) (by omega) ?_
  rcases hr with rfl | hr
  ·left;simp
  ·right;right
   have:at0 (decDigits n++r) (decDigits n).length=at0 r 0:=by
    unfold at0
    rw[List.getD_eq_getElem?_getD,List.getElem?_append_right (Nat.le_refl _),Nat.sub_self,← List.getD_eq_getElem?_getD]
   rw[this];exact hr
 have hz:(decDigits n).length=1∨at0 (decDigits n++r) 0≠48:=by
  by_cases h0:0<n
  ·right
   intro e
   have hh:=zdB n h0
   cases hd:decDigits n with
   | nil=>exact zat n hd
   | cons c t =>
    rw[hd]at e hh
    simp only[at0,List.cons_append,List.getD_cons_zero]at e
    subst e;exact hh rfl
  ·left
   have:n=0:=by omega
   subst this;simp[decDigits]
 obtain⟨a,b,c⟩:=zkH hpre (by omega) hlen hz
 exact⟨a,by rw[b,htake,z8],by rw[c,hdrop]⟩
def zcm(a:Str):Option (Int × Int) :=
 if zbT (zo a)=false∨(a.head? = some 45∧zbO (zo a)=0)then none
 else if zy (zo a)=[]then some (if a.head? = some 45 then -(zbO (zo a):Int)else zbO (zo a),1)
 else if at0 (zy (zo a)) 0≠47 then none
 else if zbT (zaR (zy (zo a)) 1)=false∨zy (zaR (zy (zo a)) 1)≠[]∨zbO (zaR (zy (zo a)) 1)<2∨Nat.gcd (zbO (zo a)) (zbO (zaR (zy (zo a)) 1))≠1 then none
 else some (if a.head? = some 45 then -(zbO (zo a):Int)else zbO (zo a),zbO (zaR (zy (zo a)) 1))
def zR(q:Rat):Prop:=q.num.natAbs<100000000∧q.den<100000000
theorem zdG{a:Str}(h:a.head? = some 45):a=45::zo a:=by
 cases a with
 | nil=>cases h
 | cons c r=>simp only[List.head?_cons,Option.some.injEq]at h;subst h;simp[zo]
theorem za3{a:Str}(h:a.head?≠some 45):zo a=a:=by unfold zo;rw[if_neg h]
theorem zgZ{a:Str}{n d:Int}(h:zcm a=some (n,d)):∃ q:Rat,a=ze q∧q.num=n∧(q.den:Int)=d∧zR q:=by
 unfold zcm at h
 split at h
 ·cases h
 ·next hc1 =>
  simp only[not_or,Bool.not_eq_false,not_and]at hc1
  obtain⟨ok1,hz⟩:=hc1
  obtain⟨e1,b1,_⟩:=zfH ok1
  have hit:∀ r,zo a=decDigits (zbO (zo a))++r→a=itoa (if a.head? = some 45 then -(zbO (zo a):Int)else zbO (zo a))++r:=by
   intro r er
   by_cases hm:a.head? = some 45
   ·rw[if_pos hm]
    have hz':=hz hm
    rw[itoa_neg (by omega),show (-(zbO (zo a):Int)).natAbs=zbO (zo a) by omega,List.cons_append,← er]
    exact zdG hm
   ·rw[if_neg hm,itoa_nonneg (by omega),Int.toNat_natCast,← er]
    exact(za3 hm).symm
  have hab:((if a.head? = some 45 then -(zbO (zo a):Int)else zbO (zo a)):Int).natAbs=zbO (zo a):=by split <;> omega
  split at h
  ·next hr =>
   simp only[Option.some.injEq,Prod.mk.injEq]at h
   have ea:=hit [] (by rw[← hr];exact e1)
   rw[List.append_nil]at ea
   rw[h.1]at ea hab
   refine⟨⟨n,1,by decide,by simp⟩,?_,rfl,by simpa using h.2,by rw[zR];exact⟨by simp only;omega,by simp⟩⟩
   unfold ze;rw[if_pos rfl];exact ea
  ·next hr =>
   split at h
   ·cases h
   ·next h47 =>
    split at h
    ·cases h
    ·next hc2 =>
     simp only[not_or,Bool.not_eq_false,Classical.not_not]at hc2
     obtain⟨ok2,r2,d2,hg⟩:=hc2
     obtain⟨e2,b2,_⟩:=zfH ok2
     simp only[Option.some.injEq,Prod.mk.injEq]at h
     have h47':at0 (zy (zo a)) 0=47:=Classical.not_not.1 h47
     have er:zy (zo a)=47::decDigits (zbO (zaR (zy (zo a)) 1)):=by
      rw[r2,List.append_nil]at e2
      rw[← e2]
      cases hh:zy (zo a)with
      | nil=>exact absurd hh hr
      | cons c t=>rw[hh]at h47';simp only[at0,List.getD_cons_zero]at h47';subst h47';rfl
     have ea:=hit _ e1
     rw[er]at ea
     rw[h.1]at ea hab
     refine⟨⟨n,zbO (zaR (zy (zo a)) 1),by omega,by rw[Nat.Coprime,hab];exact hg⟩,?_,rfl,h.2,⟨by simp only;omega,by simp only;omega⟩⟩
     unfold ze;simp only;rw[if_neg (by omega)];exact ea
theorem zcd(z:Int)(r:Str):(itoa z++r).head? = some 45 ↔ z<0:=by
 by_cases h:z<0
 ·rw[itoa_neg h];simp[h]
 ·rw[itoa_nonneg (by omega),head?_app _ _ (zat _)]
  simp only[h,iff_false]
  exact zF _
theorem zfd(z:Int)(r:Str):zo (itoa z++r)=decDigits z.natAbs++r:=by
 by_cases h:z<0
 ·rw[itoa_neg h];simp[zo]
 ·rw[za3 (fun e=>h ((zcd z r).1 e)),itoa_nonneg (by omega),show z.toNat=z.natAbs by omega]
theorem zib(z:Int)(r:Str):(if (itoa z++r).head? = some 45 then -(z.natAbs:Int)else z.natAbs)=z:=by
 by_cases h:z<0
 ·rw[if_pos ((zcd z r).2 h)];omega
 ·rw[if_neg (fun e=>h ((zcd z r).1 e))];omega
theorem zm3{q:Rat}(h:zR q):zcm (ze q)=some (q.num,(q.den:Int)):=by
 obtain⟨h1,h2⟩:=h
 unfold ze
 split
 ·next hd =>
  have e:=zfd q.num []
  have es:=zib q.num []
  have hh:=zcd q.num []
  rw[List.append_nil,List.append_nil]at e
  rw[List.append_nil]at es hh
  obtain⟨a,b,c⟩:=zkK (r:=[]) h1 (.inl rfl)
  rw[List.append_nil]at a b c
  unfold zcm
  rw[e,a,b,c,if_neg (by
   rintro(x | ⟨x,y⟩);· cases x
   ·have:=hh.1 x;omega),if_pos rfl,es,hd];rfl
 ·next hd =>
  have e:=zfd q.num (47::decDigits q.den)
  have es:=zib q.num (47::decDigits q.den)
  have hh:=zcd q.num (47::decDigits q.den)
  obtain⟨a,b,c⟩:=zkK (r:=47::decDigits q.den) h1 (.inr rfl)
  obtain⟨a2,b2,c2⟩:=zkK (r:=[]) h2 (.inl rfl)
  rw[List.append_nil]at a2 b2 c2
  have ed:zaR (47::decDigits q.den) 1=decDigits q.den:=rfl
  have hnz:=q.den_nz
  unfold zcm
  rw[e,a,b,c,if_neg (by
   rintro(x | ⟨x,y⟩);· cases x
   ·have:=hh.1 x;omega),if_neg (by simp),if_neg (by simp[at0]),ed,a2,b2,c2,if_neg,es]
  rintro(x | x | x | x)
  ·cases x
  ·exact x rfl
  ·omega
  ·exact x q.reduced
theorem zgg{q:Rat}(h:¬ zR q):zcm (ze q)=none:=by
 cases hn:zcm (ze q)with
 | none=>rfl
 | some p =>
  obtain⟨q',e,_,_,hs⟩:=zgZ (n:=p.1) (d:=p.2) (by rw[hn])
  rw[← zbt e]at hs
  exact absurd hs h
theorem zos{q:Rat}(h:zR q):zam q=false:=by
 unfold zam
 rw[zca (x:=q.num) (by have:=h.1;omega),zca (x:=(q.den:Int)) (by have:=h.2;omega)];rfl
theorem zlO{a:Str}(h:zcg a≠0):zcm a=none:=by
 cases hn:zcm a with
 | none=>rfl
 | some p =>
  obtain⟨q',e,_,_,hs⟩:=zgZ (n:=p.1) (d:=p.2) (by rw[hn])
  rw[e,zb5,zos hs]at h
  exact absurd rfl h
theorem zkL(s:Str):zbO s<100000000:=by
 cases h:zbT s with
 | true=>exact(zfH h).2.1
 | false=>unfold zbO;rw[h];simp
theorem znN{s:Str}(h:zbT s=true):s≠[]:=by
 intro e;subst e;simp[zbT,zbg]at h
theorem ziC(s:Str):(zy s).length≤s.length:=by
 unfold zy;split
 ·simp
 ·simp
end Kp
namespace Kp
open Go.Lib (decDigits itoa nDigits)
theorem zfo(n:Int)(g:Nat){B:Int}(h:(n.natAbs:Int)≤B):-B≤n.tdiv g∧n.tdiv g≤B:=by
 have:=znv n g
 omega
theorem zcp(n:Int)(k:Nat)(hk:0<k):(Rat.divInt n k).num=n.tdiv (Nat.gcd n.natAbs k)∧((Rat.divInt n k).den:Int)=(k:Int) / (Nat.gcd n.natAbs k:Int):=by
 have e:Rat.divInt n k=Rat.normalize n k (by omega):=by rw[Rat.normalize_eq_mkRat,Rat.divInt_ofNat]
 rw[e,Rat.normalize_eq]
 simp only
 have h1:((Nat.gcd n.natAbs k:Nat):Int) ∣ n:=by rw[← Int.dvd_natAbs];exact Int.natCast_dvd_natCast.2 (Nat.gcd_dvd_left ..)
 refine⟨?_,?_⟩
 ·rw[Int.tdiv_eq_ediv_of_dvd h1]
 ·rw[Int.natCast_ediv]
theorem zfp(n:Int)(k:Nat)(hk:0<k) :
  ze (Rat.divInt n k)=if (k:Int) / (Nat.gcd n.natAbs k:Int)=1 then itoa (n.tdiv (Nat.gcd n.natAbs k))else itoa (n.tdiv (Nat.gcd n.natAbs k))++47::itoa ((k:Int) / (Nat.gcd n.natAbs k:Int)):=by
 obtain⟨h1,h2⟩:=zcp n k hk
 unfold ze
 rw[zB,h1,h2]
 by_cases h:(Rat.divInt n k).den=1
 ·rw[if_pos h,if_pos (by omega)]
 ·rw[if_neg h,if_neg (by omega)]
end Kp
namespace Kp
open Go.Lib (decDigits itoa nDigits)
def zcw(s:Str):Nat:=if 1<(s.takeWhile zar).length∧at0 s 0=48 then 0 else(s.takeWhile zar).length
theorem zeh{s:Str}{k:Nat}(h:zay (s.take k))(hk:k≤s.length)(stop:k=s.length∨zar (at0 s k)=false):(s.takeWhile zar).length=k:=by
 by_cases hl:k=s.length
 ·rw[hl,List.take_length]at h
  rw[za4 _ _ h,hl]
 ·have hd:=stop.resolve_left hl
  have hlt:k<s.length:=by omega
  have e:s=s.take k++at0 s k::s.drop (k+1):=by
   rw[zcJ s k hlt,← List.drop_eq_getElem_cons,List.take_append_drop]
  have:=zbI zar (at0 s k) (s.drop (k+1)) hd (s.take k) h
  rw[← e]at this
  rw[this,List.length_take];omega
theorem zhB(s:Str):(s.takeWhile zar).length≤s.length:=(List.takeWhile_sublist _).length_le
theorem zjd{s:Str}(h:(s.takeWhile zar).length=s.length):zay s:=by
 have e:s.takeWhile zar=s:=(List.takeWhile_prefix _).eq_of_length h
 intro c hc
 have:=List.all_takeWhile (p:=zar) (l:=s)
 rw[List.all_eq_true,e]at this
 exact this c hc
theorem zmh{s:Str}:(zcw s≠0∧¬ zcw s<s.length) ↔ (s≠[]∧zay s∧(s.head? = some 48→s=[48])):=by
 have hle:=zhB s
 constructor
 ·rintro⟨h0,h1⟩
  unfold zcw at h0 h1
  split at h0
  ·exact absurd rfl h0
  ·next hz =>
   rw[if_neg hz]at h1
   have hfull:(s.takeWhile zar).length=s.length:=by omega
   have hne:s≠[]:=by intro e;subst e;simp at h0
   refine⟨hne,zjd hfull,fun e=>?_⟩
   rw[zbP hne]at e
   have e48:=Option.some.inj e
   have h1':s.length=1:=by
    by_cases hc:1<s.length
    ·exact absurd ⟨by omega,e48⟩ hz
    ·have:=List.length_pos_iff.2 hne;omega
   obtain⟨c,rfl⟩:=List.length_eq_one_iff.1 h1'
   simp only[at0,List.getD_cons_zero]at e48;rw[e48]
 ·rintro⟨hne,hd,hz⟩
  have hl:(s.takeWhile zar).length=s.length:=by rw[za4 _ _ hd]
  have hpos:=List.length_pos_iff.2 hne
  have e:zcw s=s.length:=by
   unfold zcw
   rw[if_neg,hl]
   rintro⟨a,b⟩
   rw[hl]at a
   have:=hz (by rw[zbP hne,b])
   rw[this]at a;simp at a
  omega
theorem ziU(n:Str):zdc n=11 ↔ (zcw (zo n)=0∨zcw (zo n)<(zo n).length∨(n.head? = some 45∧zo n=[48])):=by
 have hg:=zmh (s:=zo n)
 constructor
 ·intro h
  by_cases h0:zcw (zo n)=0
  ·exact .inl h0
  ·by_cases h1:zcw (zo n)<(zo n).length
   ·exact .inr (.inl h1)
   ·obtain⟨a,b,c⟩:=hg.1 ⟨h0,h1⟩
    right;right
    by_cases h48:(zo n).head? = some 48
    ·have e:=c h48
     refine⟨?_,e⟩
     by_cases hm:n.head? = some 45
     ·exact hm
     ·rw[za3 hm]at e
      rw[e,zqq]at h;cases h
    ·rw[zbP a]at h48
     rw[zmc a (fun x=>h48 (by rw[x])) b]at h
     split at h <;> cases h
 ·intro h
  by_cases hA:zo n=[]
  ·exact zjT hA
  ·by_cases hD:zay (zo n)
   ·by_cases hz:at0 (zo n) 0=48∧n≠[48]
    ·exact zmb hA hz.1 hz.2
    ·exfalso
     have hgood:zo n≠[]∧zay (zo n)∧((zo n).head? = some 48→zo n=[48]):=by
      refine⟨hA,hD,fun e=>?_⟩
      rw[zbP hA]at e
      have:n=[48]:=Classical.byContradiction fun x=>hz ⟨Option.some.inj e,x⟩
      rw[this];rfl
     obtain⟨a,b⟩:=hg.2 hgood
     rcases h with h | h | ⟨h,h2⟩
     ·exact a h
     ·exact b h
     ·have:n=[48]:=Classical.byContradiction fun x=>hz ⟨by rw[h2];rfl,x⟩
      rw[this]at h;simp at h
   ·exact ziV hD
theorem zsX(d:Str):(zdc d=11∨d.head? = some 45∨d=[48]∨d=[49]) ↔ (zcw d=0∨zcw d<d.length∨d=[48]∨d=[49]):=by
 by_cases hm:d.head? = some 45
 ·have hdig:zcw d=0:=by
   cases d with
   | nil=>cases hm
   | cons c r =>
    simp only[List.head?_cons,Option.some.injEq]at hm
    subst hm
    have h45:zar 45=false:=by decide
    unfold zcw
    rw[List.takeWhile_cons,h45];simp
  simp[hm,hdig]
 ·have:=ziU d
  rw[za3 hm]at this
  rw[this]
  simp only[hm,false_and,or_false,false_or]
  constructor
  ·rintro((a | a) | a | a)
   ·exact .inl a
   ·exact .inr (.inl a)
   ·exact .inr (.inr (.inl a))
   ·exact .inr (.inr (.inr a))
  ·rintro(a | a | a | a)
   ·exact .inl (.inl a)
   ·exact .inl (.inr a)
   ·exact .inr (.inl a)
   ·exact .inr (.inr a)
theorem znI(a:Str):zly a ↔ ((zcw (zo (zq a))=0∨zcw (zo (zq a))<(zo (zq a)).length∨((zq a).head? = some 45∧zo (zq a)=[48])) ∨
  (zC a=true∧(zcw (zV a)=0∨zcw (zV a)<(zV a).length∨zV a=[48]∨zV a=[49]))):=by
 unfold zly
 rw[ziU,zsX]
theorem zd8(a:Str):(zq a).length≤a.length:=(List.takeWhile_sublist _).length_le
theorem zee(a:Str):(zV a).length≤a.length:=by
 unfold zV
 have h1:(a.dropWhile (·≠47)).length≤a.length:=(List.dropWhile_sublist _).length_le
 rw[List.length_tail]
 have h2:(a.dropWhile (fun x=>decide (x≠47))).length≤a.length:=h1
 omega
theorem zcO(n:Int)(k:Nat)(hk:0<k) :
  ze (Rat.divInt n k)=if (k:Int).fdiv (Nat.gcd n.natAbs k:Int)=1 then itoa (n.fdiv (Nat.gcd n.natAbs k:Int))else itoa (n.fdiv (Nat.gcd n.natAbs k:Int))++47::itoa ((k:Int).fdiv (Nat.gcd n.natAbs k:Int)):=by
 rw[zfp n k hk,Int.fdiv_eq_ediv_of_nonneg _ (by omega),Int.fdiv_eq_ediv_of_nonneg _ (by omega)]
 have h1:((Nat.gcd n.natAbs k:Nat):Int) ∣ n:=by rw[← Int.dvd_natAbs];exact Int.natCast_dvd_natCast.2 (Nat.gcd_dvd_left ..)
 rw[Int.tdiv_eq_ediv_of_dvd h1]
theorem zmj{a b:Nat}(h:a≤b):(decDigits a).length≤(decDigits b).length:=by
 have p:=List.length_pos_iff.2 (zat b)
 have:=(zm b _ p).1 (Nat.le_refl _)
 exact(zm a _ p).2 (by omega)
theorem zkT{a b:Nat}{m:Nat}(h:a≤b)(hb:(itoa (b:Int)).length≤m):(itoa (a:Int)).length≤m:=by
 rw[← zB]at *;exact Nat.le_trans (zmj h) hb
theorem zm8(z:Int):(itoa z).length=(decDigits z.natAbs).length+(if z<0 then 1 else 0):=by
 by_cases h:z<0
 ·rw[itoa_neg h,if_pos h,List.length_cons]
 ·rw[itoa_nonneg (by omega),if_neg h,show z.toNat=z.natAbs by omega];rfl
theorem zgl(n:Int)(g:Nat)(hn:(itoa n).length≤18):(itoa (n.fdiv g)).length≤1000:=by
 have h:=zaC hn
 have hb:(n.fdiv g).natAbs≤1000000000000000000:=by
  rw[Int.fdiv_eq_ediv_of_nonneg _ (by omega)]
  by_cases hg:g=0
  ·subst hg;simp
  ·have h1:n / (g:Int)≤n.natAbs:=Int.le_trans (Int.ediv_le_ediv (by omega) (show n≤(n.natAbs:Int) by omega)) (Int.ediv_le_self _ (by omega))
   have h2:-(n.natAbs:Int)≤n / (g:Int):=by
    rw[Int.le_ediv_iff_mul_le (by omega)]
    have:(n.natAbs:Int)*1≤n.natAbs*g:=Int.mul_le_mul_of_nonneg_left (by omega) (by omega)
    rw[Int.neg_mul];omega
   omega
 have h19:(decDigits (n.fdiv g).natAbs).length≤19:=(zm _ 19 (by decide)).2 (by
  have:(10:Nat) ^ 19=10000000000000000000:=by decide
  omega)
 rw[zm8];split <;> omega
end Kp
namespace Kp
open Go.Lib (decDigits itoa nDigits)
def zj6(n r:Nat):Prop:=r*r≤n∧n<(r+1)*(r+1)
theorem zj6.unique{n r s:Nat}(h:zj6 n r)(k:zj6 n s):r=s:=by
 obtain⟨h1,h2⟩:=h
 obtain⟨k1,k2⟩:=k
 by_cases a:r<s
 ·have:(r+1)*(r+1)≤s*s:=Nat.mul_le_mul a a
  omega
 ·by_cases b:s<r
  ·have:(s+1)*(s+1)≤r*r:=Nat.mul_le_mul b b
   omega
  ·omega
def zw(n:Nat):Nat:=if h:n=0 then 0 else if (2*zw (n / 4)+1)*(2*zw (n / 4)+1)≤n then 2*zw (n / 4)+1 else 2*zw (n / 4)
termination_by n
decreasing_by all_goals omega
theorem zcV(n:Nat):zj6 n (zw n):=by
 induction n using Nat.strongRecOn with
 | _ n ih =>
  rw[zw]
  split
  ·next h=>subst h;exact⟨Nat.le_refl _,by decide⟩
  ·next h =>
   obtain⟨h1,h2⟩:=ih (n / 4) (by omega)
   generalize zw (n / 4)=s at *
   have e1:2*s*(2*s)=4*(s*s):=by grind
   have e2:(2*s+1+1)*(2*s+1+1)=4*((s+1)*(s+1)):=by grind
   split
   ·next hc=>exact⟨hc,by omega⟩
   ·next hc=>exact⟨by omega,by omega⟩
theorem ze4{n r:Nat}(h:zj6 n r):zw n=r:=(zcV n).unique h
theorem zgm(n:Nat):zw n≤n:=by
 have h:=(zcV n).1
 by_cases h0:zw n=0
 ·omega
 ·have:zw n*1≤zw n*zw n:=Nat.mul_le_mul_left _ (by omega)
  omega
theorem ziP{n:Nat}(h:n<2):zw n=n:=by
 have:n=0∨n=1:=by omega
 rcases this with rfl | rfl
 ·exact ze4 ⟨by decide,by decide⟩
 ·exact ze4 ⟨by decide,by decide⟩
theorem zel:∀ (f x:Nat),x<2 ^ f→x<2 ^ Go.Lib.bitLenAux f x
 | 0,x,h=>h
 | f+1,x,h=>by
  simp only[Go.Lib.bitLenAux]
  split
  ·next h0=>subst h0;decide
  ·have:=zel f (x / 2) (by rw[Nat.pow_succ]at h;omega)
   rw[Nat.add_comm,Nat.pow_succ];omega
theorem bitLenAux_le:∀ (f k x:Nat),x<2 ^ k→Go.Lib.bitLenAux f x≤k
 | 0,_,_,_=>Nat.zero_le _
 | f+1,k,x,h=>by
  simp only[Go.Lib.bitLenAux]
  split
  ·omega
  ·cases k with
   | zero=>simp at h;omega
   | succ k =>
    have:=bitLenAux_le f k (x / 2) (by rw[Nat.pow_succ]at h;omega)
    omega
theorem zkO{x:Nat}(h:x<18446744073709551616):x<2 ^ Go.Lib.bitLen x:=zel 64 x h
theorem bitLen_le{x k:Nat}(h:x<2 ^ k):Go.Lib.bitLen x≤k:=bitLenAux_le 64 k x h
theorem zq8{n:Nat}(h:n<18446744073709551616):n<(2 ^ ((Go.Lib.bitLen n+1) / 2)+1)*(2 ^ ((Go.Lib.bitLen n+1) / 2)+1):=by
 have h1:=zkO h
 have h2:2 ^ Go.Lib.bitLen n≤2 ^ ((Go.Lib.bitLen n+1) / 2+(Go.Lib.bitLen n+1) / 2):=Nat.pow_le_pow_right (by decide) (by omega)
 rw[Nat.pow_add]at h2
 generalize 2 ^ ((Go.Lib.bitLen n+1) / 2)=r at *
 have:(r+1)*(r+1)=r*r+2*r+1:=by grind
 omega
theorem ziB{n r:Nat}(hr:0<r):n<((r+n / r) / 2+1)*((r+n / r) / 2+1):=by
 have h1:n<r*(n / r+1):=Nat.lt_mul_div_succ n hr
 generalize n / r=q at *
 generalize hs:(r+q) / 2=s at *
 have h2:r+q+1≤2*(s+1):=by omega
 have h3:4*(r*(q+1))≤(r+(q+1))*(r+(q+1)):=by
  rcases Nat.le_total r (q+1)with h | h
  ·obtain⟨d,hd⟩:=Nat.exists_eq_add_of_le h
   rw[hd]
   have:(r+(r+d))*(r+(r+d))=4*(r*(r+d))+d*d:=by grind
   omega
  ·obtain⟨d,hd⟩:=Nat.exists_eq_add_of_le h
   rw[hd]
   have:(q+1+d+(q+1))*(q+1+d+(q+1))=4*((q+1+d)*(q+1))+d*d:=by grind
   omega
 have h4:(r+(q+1))*(r+(q+1))≤(2*(s+1))*(2*(s+1)):=Nat.mul_le_mul (by omega) (by omega)
 have h5:(2*(s+1))*(2*(s+1))=4*((s+1)*(s+1)):=by grind
 omega
theorem zfG{n r:Nat}(hr:0<r)(hge:n<(r+1)*(r+1))(h:r≤(r+n / r) / 2):zj6 n r:=by
 refine⟨?_,hge⟩
 have h1:r≤n / r:=by omega
 have:=(Nat.le_div_iff_mul_le hr).1 h1
 exact this
def zbc(p:Nat)(c m:Nat):Nat × Nat:=if _h:2≤p∧0<m∧m % (p*p)=0 then zbc p (c*p) (m / (p*p))else(c,m)
termination_by m
decreasing_by
 obtain⟨h1,h2,_⟩:=_h
 exact Nat.div_lt_self h2 (by have:2*2≤p*p:=Nat.mul_le_mul h1 h1;omega)
theorem ze0{p c m:Nat}(hp:2≤p)(hm:0<m)(h:m % (p*p)=0):zbc p c m=zbc p (c*p) (m / (p*p)):=by
 rw[zbc,dif_pos ⟨hp,hm,h⟩]
theorem zfS{p c m:Nat}(h:m % (p*p)≠0):zbc p c m=(c,m):=by
 rw[zbc,dif_neg (fun x=>h x.2.2)]
theorem zh5(p:Nat)(hp:2≤p):∀ (m c:Nat),0<m→0<c →
  0<(zbc p c m).2∧0<(zbc p c m).1∧(zbc p c m).1*(zbc p c m).1*(zbc p c m).2=c*c*m∧(zbc p c m).2 % (p*p)≠0∧(zbc p c m).2≤m:=by
 intro m
 induction m using Nat.strongRecOn with
 | _ m ih =>
  intro c hm hc
  by_cases h:m % (p*p)=0
  ·rw[ze0 hp hm h]
   have hpp:4≤p*p:=Nat.mul_le_mul hp hp
   have hdvd:=Nat.div_mul_cancel (Nat.dvd_of_mod_eq_zero h)
   have hlt:m / (p*p)<m:=Nat.div_lt_self hm (by omega)
   have hpos:0<m / (p*p):=by
    rcases Nat.eq_zero_or_pos (m / (p*p))with h0 | h0
    ·rw[h0,Nat.zero_mul]at hdvd;omega
    ·exact h0
   obtain⟨a,b,d,e,f⟩:=ih (m / (p*p)) hlt (c*p) hpos (Nat.mul_pos hc (by omega))
   refine⟨a,b,?_,e,by omega⟩
   rw[d]
   conv=>rhs;rw[← hdvd]
   grind
  ·rw[zfS h];exact⟨hm,hc,rfl,h,Nat.le_refl _⟩
def zK:List Nat:=[2,3,5,7,11,13,17,19,23,29,31,37,41,43,47,53,59,61,67,71,73,79,83,89,97]
def zL:List Nat→Nat × Nat→Nat × Nat
 | [],x=>x
 | p::r,x=>zL r (zbc p x.1 x.2)
theorem zh7(l m:List Nat):∀ x,zL (l++m) x=zL m (zL l x):=by
 induction l with
 | nil=>intro x;rfl
 | cons p r ih=>intro x;exact ih _
theorem zb3:∀ (l:List Nat),(∀ p∈l,2≤p)→∀ (c m:Nat),0<m→0<c →
  0<(zL l (c,m)).2∧0<(zL l (c,m)).1∧(zL l (c,m)).1*(zL l (c,m)).1*(zL l (c,m)).2=c*c*m∧(zL l (c,m)).2≤m
 | [],_,c,m,hm,hc=>⟨hm,hc,rfl,Nat.le_refl _⟩
 | p::r,h,c,m,hm,hc=>by
  obtain⟨a,b,d,_,f⟩:=zh5 p (h p (by simp)) m c hm hc
  obtain⟨a2,b2,d2,f2⟩:=zb3 r (fun q hq=>h q (by simp[hq])) (zbc p c m).1 (zbc p c m).2 a b
  exact⟨a2,b2,by rw[← d];exact d2,Nat.le_trans f2 f⟩
theorem zdL:∀ p∈zK,2≤p:=by decide
def za0(m:Nat):Nat × Nat :=
 if zw (zL zK (1,m)).2*zw (zL zK (1,m)).2=(zL zK (1,m)).2 then((zL zK (1,m)).1*zw (zL zK (1,m)).2,1)
 else zL zK (1,m)
theorem zgV{m:Nat}(hm:0<m):0<(za0 m).2∧0<(za0 m).1∧(za0 m).1*(za0 m).1*(za0 m).2=m∧(za0 m).2≤m:=by
 obtain⟨a,b,d,f⟩:=zb3 zK zdL 1 m hm (by decide)
 unfold za0
 generalize (zL zK (1,m)).1=c at *
 generalize hl:(zL zK (1,m)).2=l at *
 split
 ·next h =>
  refine⟨Nat.one_pos,Nat.mul_pos b ?_,?_,by omega⟩
  ·by_cases h0:zw l=0
   ·rw[h0]at h;omega
   ·omega
  ·simp only
   generalize zw l=r at *
   subst h
   grind
 ·refine⟨by rw[hl];exact a,?_,?_,by rw[hl];exact f⟩
  ·have:=zb3 zK zdL 1 m hm (by decide);exact this.2.1
  ·have:=zb3 zK zdL 1 m hm (by decide)
   rw[this.2.2.1];simp
theorem zpA{c l m:Nat}(h:c*c*l=m)(hl:0<l):c*c≤m:=by
 have:c*c*1≤c*c*l:=Nat.mul_le_mul_left _ hl
 omega
structure StripInv (n c l:Nat):Prop where
 pos:0<l
 cpos:0<c
 eq:c*c*l=n
theorem StripInv.bounds{n c l:Nat}(h:StripInv n c l):l≤n∧c≤n:=by
 have h1:=h.eq
 have h2:=h.pos
 have h3:=h.cpos
 have h4:1*l≤c*c*l:=Nat.mul_le_mul_right _ (Nat.mul_pos h3 h3)
 have h5:c*1≤c*c:=Nat.mul_le_mul_left _ h3
 have h6:c*c*1≤c*c*l:=Nat.mul_le_mul_left _ h2
 omega
theorem StripInv.next{n c l p:Nat}(h:StripInv n c l)(hp:2≤p)(hd:l % (p*p)=0):StripInv n (c*p) (l / (p*p)):=by
 have hdvd:=Nat.div_mul_cancel (Nat.dvd_of_mod_eq_zero hd)
 have h2:=h.pos
 refine⟨?_,Nat.mul_pos h.cpos (by omega),?_⟩
 ·rcases Nat.eq_zero_or_pos (l / (p*p))with h0 | h0
  ·rw[h0,Nat.zero_mul]at hdvd;omega
  ·exact h0
 ·rw[← h.eq]
  conv=>rhs;rw[← hdvd]
  grind
theorem StripInv.small{n c l:Nat}(h:StripInv n c l)(hn:n<100000000000000000):c<1000000000:=by
 have h1:=zpA h.eq h.pos
 rcases Nat.lt_or_ge c 1000000000 with a | a
 ·exact a
 ·have:1000000000*1000000000≤c*c:=Nat.mul_le_mul a a
  omega
theorem zde(k:Nat)(h:k<zK.length)(x:Nat × Nat):zL (zK.take (k+1)) x=zbc (zK.getD k 0) (zL (zK.take k) x).1 (zL (zK.take k) x).2:=by
 rw[List.take_succ_eq_append_getElem h,zh7,List.getD_eq_getElem?_getD,List.getElem?_eq_getElem h];rfl
end Kp
