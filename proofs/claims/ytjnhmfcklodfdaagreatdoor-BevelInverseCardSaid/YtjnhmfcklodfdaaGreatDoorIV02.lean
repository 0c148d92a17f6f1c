/-
  Walks: the package integer where numbers are short.; Walks: the functions of package integer at short numerals (at most 18 bytes).; Numbers with short parts, as the program reads them (nativeOf): just the numbers whose parts have at most 8 digits.; Fractions and their numerals.; The form of a number's string, as rational.cut asks it.; Square roots of integers, and the normal form of the root of an integer: plain mathematics.
-/
import Derived.Test.YtjnhmfcklodfdaaGreatDoorIV01
import Derived.Test.YtjnhmfcklodfdaaGreatDoorIV00
import Derived.Test.YtjnhmfcklodfdaaGreatDoorIVMA
import Derived.Lib.BitFns
set_option maxRecDepth 100000
set_option maxHeartbeats 800000
namespace Go.Proofs.YtjnhmfcklodfdaaGreatDoor
section
open Go.RowKit Kp
theorem zt4{c:UInt8}(h:c≠48):((c.toNat:Int) == 48)=false:=by rw[znp];simpa using h
theorem zgZ(w:World) :
  CR 165 #[.string ⟨[48].toArray⟩] w (.int .i64 0):=by
 go_enter Tryz.func165,Tryz.ntmps165
 go_wp2_with (first | (go_at_call 32;refine(zM [48] _).mono ?_;rintro e w1 ⟨rfl,rfl⟩;rw[show zo [48]=[48]from rfl])|(go_at_call 224;refine(zdS [48] (by decide) _).mono ?_;rintro e w1 ⟨rfl,hq⟩;rw[show zpz [48]=[]from by decide]))
 go_ret
 exact⟨rfl,hq⟩
theorem zcq(a:Str)(hl:a.length≤1000000000)(w:World) :
  CR 165 #[.string ⟨a.toArray⟩] w (.int .i64 (zdw a)):=by
 by_cases h48:a=[48]
 ·subst h48;rw[zra];exact zgZ w
 have hu:=zeS a
 by_cases hn:zo a=[]
 ·rw[zkK hn]
  go_enter Tryz.func165,Tryz.ntmps165
  go_wp2_with (go_at_call 32;refine(zM a _).mono ?_;rintro e w1 ⟨rfl,rfl⟩;rw[hn])
  go_ret
  exact⟨rfl,Below.refl _ _⟩
 have hne:(zo a).isEmpty=false:=by simpa using hn
 have hpos:0<(zo a).length:=List.length_pos_iff.2 hn
 by_cases h0:at0 (zo a) 0=48
 ·rw[zmZ hn h0 h48]
  have hb:((((at0 (zo a) 0).toNat:Int)) == 48)=true:=by rw[h0];rfl
  clear h0
  go_enter Tryz.func165,Tryz.ntmps165
  go_wp2_with (go_at_call 32;refine(zM a _).mono ?_;rintro e w1 ⟨rfl,rfl⟩)
  go_ret
  exact⟨rfl,Below.refl _ _⟩
 have hb:=zt4 h0
 by_cases hd:zaJ (zo a)
 ·have hN:(zpz (zo a)).isEmpty=true:=by rw[(zmF _).2 hd];rfl
  have HC:=LH (zm0 hn h0 hd)
  clear h0 hd
  by_cases h3:300<(zo a).length
  all_goals
   go_enter Tryz.func165,Tryz.ntmps165
   go_wp2_with (first | (go_at_call 32;refine(zM a _).mono ?_;rintro e w1 ⟨rfl,rfl⟩)|(go_at_call 224;refine(zdS _ (by omega) _).mono ?_;rintro e w1 ⟨rfl,hq⟩))
   go_ret
   refine⟨zcZ ?_,hq⟩
   rw[HC.out]
   simp[h3]
 ·have hN:(zpz (zo a)).isEmpty=false:=by
   have:zpz (zo a)≠[]:=fun e=>hd ((zmF _).1 e)
   simpa using this
  rw[zjF hd]
  clear h0 hd
  go_enter Tryz.func165,Tryz.ntmps165
  go_wp2_with (first | (go_at_call 32;refine(zM a _).mono ?_;rintro e w1 ⟨rfl,rfl⟩)|(go_at_call 224;refine(zdS _ (by omega) _).mono ?_;rintro e w1 ⟨rfl,hq⟩))
  go_ret
  exact⟨rfl,hq⟩
theorem zmX(a b:Str)(ha:a.length≤1000000000)(hb:b.length≤1000000000)(w:World) :
  CR 106 #[.string ⟨a.toArray⟩,.string ⟨b.toArray⟩] w (.int .i64 (if zdw a=0 then zdw b else zdw a)):=by
 by_cases h:zdw a=0
 ·have H:=LH h
  have hb2:(zdw a == 0)=true:=by simpa using h
  have hb3:(zdw a != 0)=false:=by simpa using h
  clear h
  go_enter Tryz.func106,Tryz.ntmps106
  go_wp2_with fail
  refine cx (zcq a ha _) fun w1 hq=>?_
  go_wp2_with fail
  refine cx (zcq b hb _) fun w2 hq2=>?_
  go_wp2
  go_ret
  exact⟨zcZ (by first | rfl | (rw[if_pos H.out];rfl)),hq.trans (hq2.mono hq.size)⟩
 ·have H:=LH h
  have hb2:(zdw a == 0)=false:=by simpa using h
  have hb3:(zdw a != 0)=true:=by simpa using h
  clear h
  go_enter Tryz.func106,Tryz.ntmps106
  go_wp2_with fail
  refine cx (zcq a ha _) fun w1 hq=>?_
  go_wp2_with fail
  go_ret
  exact⟨zcZ (by first | rfl | (rw[if_neg H.out];rfl)),hq⟩
theorem zbR(x y:Int)(hx:(Lib.itoa x).length≤18)(hy:(Lib.itoa y).length≤18)(w:World) :
  CR 107 #[.string ⟨(Lib.itoa x).toArray⟩,.string ⟨(Lib.itoa y).toArray⟩,.int .i64 18] w (.tuple #[.int .i64 x,.int .i64 y,.bool true]):=by
 go_enter Tryz.func107,Tryz.ntmps107
 go_wp2_with fail
 refine cx (zgU x hx _) fun w1 hq=>?_
 go_wp2_with fail
 refine cx (zgU y hy _) fun w2 hq2=>?_
 go_wp2_with fail
 go_quiet (fail)
 go_wp2
 go_ret3
 exact⟨rfl,Below.drewN (hq.trans (hq2.mono hq.size)) _⟩
theorem zab(x y:Int)(hx:lim x=false)(hy:lim y=false)(w:World) :
  CR 106 #[.string ⟨(Lib.itoa x).toArray⟩,.string ⟨(Lib.itoa y).toArray⟩] w (.int .i64 0):=by
 have h1:=zZ x hx
 have h2:=zZ y hy
 refine(zmX (Lib.itoa x) (Lib.itoa y) (by omega) (by omega) w).mono ?_
 rintro e w'⟨rfl,hq⟩
 exact⟨zcZ (by rw[zcs,hx,zcs,hy];rfl),hq⟩
def zug(w:World)(g:Nat)(x y:Value)(wr:World):Prop :=
 ∃ (p q:Int),x=.int .i64 p∧y=.int .i64 q∧p.natAbs≤1000000000000000000∧q.natAbs≤1000000000000000000∧Nat.gcd p.natAbs q.natAbs=g∧Q w wr∧Env wr
theorem zq0(p:Int):max p (-p)=p.natAbs:=by omega
theorem zef(x y:Int)(hx:(Lib.itoa x).length≤18)(hy:(Lib.itoa y).length≤18)(w:World)(hE:Env w) :
  CR 113 #[.string ⟨(Lib.itoa x).toArray⟩,.string ⟨(Lib.itoa y).toArray⟩] w (.tuple #[.string ⟨(Lib.itoa (Nat.gcd x.natAbs y.natAbs:Int)).toArray⟩,.int .i64 0]):=by
 have hx1:=zaH hx
 have hy1:=zaH hy
 go_enter Tryz.func113,Tryz.ntmps113
 go_wp2_with fail
 refine cx (zab x y (zbz hx) (zbz hy) _) fun w1 hq=>?_
 go_wp2_with fail
 refine cx (zbR x y hx hy _) fun w2 hq2=>?_
 have hQ2:Q w w2:=hq.trans (hq2.mono hq.size)
 have hE2:=hE.q hQ2
 go_wp2_with fail
 go_loopw [7,8] (zug w (Nat.gcd x.natAbs y.natAbs)) (fun _ y _=>(intOf y).natAbs)
 case atStart=>exact⟨x,y,rfl,rfl,by omega,by omega,rfl,hQ2,hE2⟩
 case round =>
  obtain⟨p,q,rfl,rfl,hp,hq,hg,hQ,hEr⟩:=hrel
  have HG:=LH hg;clear hg
  by_cases h0:q=0
  ·subst h0
   have hmx:=zq0 p
   go_wp2_with fail
   refine cx (zav _ (by omega) (by omega) _ hEr) fun w3 hq3=>?_
   go_wp2
   go_ret2
   have:=HG.out
   simp at this
   exact⟨by rw[← this];rfl,hQ.trans (hq3.mono hQ.size)⟩
  ·have hne:(q == 0)=false:=by simp;omega
   have h1:(p.tmod q).natAbs=p.natAbs % q.natAbs:=Int.natAbs_tmod ..
   have hm:=Nat.mod_lt p.natAbs (show 0<q.natAbs by omega)
   go_wp2_with fail
   go_quiet (fail)
   go_wp2
   go_roundw
   case rel=>exact⟨q,p.tmod q,rfl,rfl,by omega,by omega,by rw[← HG.out,h1,← ziH],Below.drewN hQ _,hEr.drewN _⟩
   case measure=>simp only[intOf];omega
theorem zhD(x y:Int)(hx:(Lib.itoa x).length+(Lib.itoa y).length≤18)(w:World)(hE:Env w) :
  CR 62 #[.string ⟨(Lib.itoa x).toArray⟩,.string ⟨(Lib.itoa y).toArray⟩] w (.tuple #[.string ⟨(Lib.itoa (x*y)).toArray⟩,.int .i64 0]):=by
 have hx1:=zaH (x:=x) (by omega)
 have hb:=zmI hx
 go_enter Tryz.func62,Tryz.ntmps62
 go_wp2_with fail
 refine cx (zab x y (zbz (by omega)) (zbz (by omega)) _) fun w1 hq=>?_
 go_wp2_with fail
 refine cx (zbR x y (by omega) (by omega) _) fun w2 hq2=>?_
 have hQ2:Q w w2:=hq.trans (hq2.mono hq.size)
 have hE2:=hE.q hQ2
 go_wp2_with fail
 refine cx (zav _ (by omega) (by omega) _ hE2) fun w3 hq3=>?_
 go_wp2
 go_ret2
 exact⟨rfl,hQ2.trans (hq3.mono hQ2.size)⟩
theorem zhE(x y:Int)(hx:(Lib.itoa x).length≤18)(hy:(Lib.itoa y).length≤18)(w:World)(hE:Env w) :
  CR 131 #[.string ⟨(Lib.itoa x).toArray⟩,.string ⟨(Lib.itoa y).toArray⟩] w (.tuple #[.string ⟨(Lib.itoa (x+y)).toArray⟩,.int .i64 0]):=by
 have hx1:=zaH hx
 have hy1:=zaH hy
 go_enter Tryz.func131,Tryz.ntmps131
 go_wp2_with fail
 refine cx (zab x y (zbz hx) (zbz hy) _) fun w1 hq=>?_
 go_wp2_with fail
 refine cx (zbR x y hx hy _) fun w2 hq2=>?_
 have hQ2:Q w w2:=hq.trans (hq2.mono hq.size)
 have hE2:=hE.q hQ2
 go_wp2_with fail
 refine cx (zav _ (by omega) (by omega) _ hE2) fun w3 hq3=>?_
 go_wp2
 go_ret2
 exact⟨rfl,hQ2.trans (hq3.mono hQ2.size)⟩
theorem zhB(x y:Int)(hx:(Lib.itoa x).length≤18)(hy:(Lib.itoa y).length≤18)(w:World)(hE:Env w) :
  CR 159 #[.string ⟨(Lib.itoa x).toArray⟩,.string ⟨(Lib.itoa y).toArray⟩] w (.tuple #[.string ⟨(Lib.itoa (x - y)).toArray⟩,.int .i64 0]):=by
 have hx1:=zaH hx
 have hy1:=zaH hy
 go_enter Tryz.func159,Tryz.ntmps159
 go_wp2_with fail
 refine cx (zab x y (zbz hx) (zbz hy) _) fun w1 hq=>?_
 go_wp2_with fail
 refine cx (zbR x y hx hy _) fun w2 hq2=>?_
 have hQ2:Q w w2:=hq.trans (hq2.mono hq.size)
 have hE2:=hE.q hQ2
 go_wp2_with fail
 refine cx (zav _ (by omega) (by omega) _ hE2) fun w3 hq3=>?_
 go_wp2
 go_ret2
 exact⟨rfl,hQ2.trans (hq3.mono hQ2.size)⟩
theorem zfj(x y:Int)(hx:(Lib.itoa x).length≤18)(hy:(Lib.itoa y).length≤18)(w:World) :
  CR 75 #[.string ⟨(Lib.itoa x).toArray⟩,.string ⟨(Lib.itoa y).toArray⟩] w (.tuple #[.int .i64 (Lib.compareInt x y),.int .i64 0]):=by
 go_enter Tryz.func75,Tryz.ntmps75
 go_wp2_with fail
 refine cx (zab x y (zbz hx) (zbz hy) _) fun w1 hq=>?_
 go_wp2_with fail
 refine cx (zbR x y hx hy _) fun w2 hq2=>?_
 have hQ2:Q w w2:=hq.trans (hq2.mono hq.size)
 go_wp2_with fail
 refine(Tryz.cmp_Compare_int _ _ _).mono ?_
 rintro e w3⟨rfl,rfl⟩
 go_wp2
 go_ret2
 exact⟨rfl,hQ2⟩
theorem zaY(x y:Int)(hx:(Lib.itoa x).length≤18)(hy:(Lib.itoa y).length≤18)(hy0:y≠0)(w:World)(hE:Env w) :
  CR 114 #[.string ⟨(Lib.itoa x).toArray⟩,.string ⟨(Lib.itoa y).toArray⟩] w (.tuple #[.string ⟨(Lib.itoa (x.fdiv y)).toArray⟩,.string ⟨(Lib.itoa (x.fmod y)).toArray⟩,.int .i64 0]):=by
 have hx1:=zaH hx
 have hy1:=zaH hy
 have hn:(Lib.itoa y == [48])=false:=by
  rw[beq_eq_false_iff_ne,← zQ];exact fun e=>hy0 (zai e)
 have hy2:(y == 0)=false:=by simpa using hy0
 have hd1:=zoh x y
 have hm1:=zrO x y hy0
 have hd2:-1000000000000000000≤x.tdiv y:=by omega
 have hd3:x.tdiv y≤1000000000000000000:=by omega
 have hd4:-1000000000000000000≤x.tmod y:=by omega
 have hd5:x.tmod y≤1000000000000000000:=by omega
 obtain⟨f1,f2,f3⟩:=znl (x:=x) hy0
 have F1:=LH f1
 have F2:=LH f2
 have F3:=LH f3
 clear f1 f2 f3 hd1 hm1
 go_enter Tryz.func114,Tryz.ntmps114
 go_wp2_with fail
 refine cx (zab x y (zbz hx) (zbz hy) _) fun w1 hq=>?_
 go_wp2_with fail
 refine cx (zbR x y hx hy _) fun w2 hq2=>?_
 have hQ2:Q w w2:=hq.trans (hq2.mono hq.size)
 have hE2:=hE.q hQ2
 go_wp2_with fail
 go_quiet (fail)
 go_wp2_with fail
 ·have ht:x.tmod y=0:=by assumption
  have HF:=LH (F1.out ht)
  refine cx (zav _ (by omega) (by omega) _ (hE2.drewN _)) fun w3 hq3=>?_
  have hQ3:Q w w3:=hQ2.trans ((Below.drewN (Below.refl _ w2) _).trans hq3 |>.mono hQ2.size)
  go_wp2_with fail
  refine cx (zav _ (by omega) (by omega) _ (hE.q hQ3)) fun w4 hq4=>?_
  go_wp2
  go_ret3
  exact⟨by rw[HF.out.1,HF.out.2];first | rfl | (rw[ht];rfl),hQ3.trans (hq4.mono hQ3.size)⟩
 ·have ht:¬ x.tmod y=0:=by assumption
  have hs:(x.tmod y != 0)=true∧(!decide (x.tmod y<0) == decide (y<0))=true:=by assumption
  have HF:=LH (F3.out ht (by simpa using hs.2))
  clear hs
  refine cx (zav _ (by omega) (by omega) _ (hE2.drewN _)) fun w3 hq3=>?_
  have hQ3:Q w w3:=hQ2.trans ((Below.drewN (Below.refl _ w2) _).trans hq3 |>.mono hQ2.size)
  go_wp2_with fail
  refine cx (zav _ (by omega) (by omega) _ (hE.q hQ3)) fun w4 hq4=>?_
  go_wp2
  go_ret3
  exact⟨by rw[HF.out.1,HF.out.2];rfl,hQ3.trans (hq4.mono hQ3.size)⟩
 ·have ht:¬ x.tmod y=0:=by assumption
  have hs:(x.tmod y != 0)=false∨(!decide (x.tmod y<0) == decide (y<0))=false:=by assumption
  have HF:=LH (F2.out ht (hs.elim (fun h=>absurd h (by simp[ht])) (fun h=>by simpa using h)))
  clear hs
  refine cx (zav _ (by omega) (by omega) _ (hE2.drewN _)) fun w3 hq3=>?_
  have hQ3:Q w w3:=hQ2.trans ((Below.drewN (Below.refl _ w2) _).trans hq3 |>.mono hQ2.size)
  go_wp2_with fail
  refine cx (zav _ (by omega) (by omega) _ (hE.q hQ3)) fun w4 hq4=>?_
  go_wp2
  go_ret3
  exact⟨by rw[HF.out.1,HF.out.2];rfl,hQ3.trans (hq4.mono hQ3.size)⟩
end
end Go.Proofs.YtjnhmfcklodfdaaGreatDoor
namespace Kp
open Go.Lib (decDigits itoa nDigits)
theorem zlA(s:Str):zaJ (s.take (zbn s))∧zbn s≤s.length∧zbn s≤9∧(zbn s=s.length∨zbn s=9∨zaw (at0 s (zbn s))=false):=by
 suffices h:∃ k,zaJ (s.take k)∧k≤s.length∧k≤9∧(k=s.length∨k=9∨zaw (at0 s k)=false) by
  obtain⟨k,h1,h2,h3,h4⟩:=h
  have:=zjm h1 h2 h3 h4
  rw[this];exact⟨h1,h2,h3,h4⟩
 have step:∀ n k,9 - k=n→zaJ (s.take k)→k≤s.length→k≤9→∃ k,zaJ (s.take k)∧k≤s.length∧k≤9∧(k=s.length∨k=9∨zaw (at0 s k)=false):=by
  intro n
  induction n with
  | zero=>intro k hk h1 h2 h3;exact⟨k,h1,h2,h3,.inr (.inl (by omega))⟩
  | succ n ih =>
   intro k hk h1 h2 h3
   by_cases hl:k=s.length
   ·exact⟨k,h1,h2,h3,.inl hl⟩
   ·cases hd:zaw (at0 s k)with
    | false=>exact⟨k,h1,h2,h3,.inr (.inr hd)⟩
    | true=>exact ih (k+1) (by omega) (h1.snoc (by omega) hd) (by omega) (by omega)
 exact step 9 0 rfl (by simp[zaJ]) (by omega) (by omega)
theorem zf8{s:Str}(h:zb8 s=true):s=decDigits (zb5 s)++zy s∧zb5 s<100000000∧(zy s=[]∨zaw (at0 (zy s) 0)=false):=by
 obtain⟨h1,h2,h3,h4⟩:=zlA s
 have hk:=h
 unfold zb8 at hk
 rw[decide_eq_true_eq]at hk
 obtain⟨k0,k8,kz⟩:=hk
 have en:zb5 s=nval (s.take (zbn s)):=by unfold zb5;rw[h];rfl
 have er:zy s=s.drop (zbn s):=by unfold zy;rw[h];rfl
 have hne:s.take (zbn s)≠[]:=by
  intro e
  have:=congrArg List.length e
  rw[List.length_take,List.length_nil]at this;omega
 have hd:decDigits (zb5 s)=s.take (zbn s):=by
  rw[en]
  refine zbD _ hne h1 (fun e=>?_)
  have h00:at0 s 0=48:=by
   cases s with
   | nil=>simp at h2;omega
   | cons c r =>
    rw[show zbn (c::r)=(zbn (c::r) - 1)+1 by omega,List.take_succ_cons]at e
    simp only[List.head?_cons,Option.some.injEq]at e
    exact e
  have h1':zbn s=1:=by
   by_cases h':1<zbn s
   ·exact absurd ⟨h',h00⟩ kz
   ·omega
  rw[h1']
  cases s with
  | nil=>simp at h2;omega
  | cons c r=>simp only[at0,List.getD_cons_zero]at h00;subst h00;rfl
 refine⟨by rw[hd,er,List.take_append_drop],?_,?_⟩
 ·have h8:zb5 s<10 ^ 8:=by
   rw[en];exact Nat.lt_of_lt_of_le (ze9 h1) (Nat.pow_le_pow_right (by decide) k8)
  simpa using h8
 ·rw[er]
  rcases h4 with e | e | e
  ·left;rw[e];exact List.drop_length
  ·omega
  ·right
   have:at0 (s.drop (zbn s)) 0=at0 s (zbn s):=by
    unfold at0;rw[List.getD_eq_getElem?_getD,List.getElem?_drop,← List.getD_eq_getElem?_getD];rfl
   rw[this];exact e
theorem zlB{n:Nat}{r:Str}(hn:n<100000000)(hr:r=[]∨zaw (at0 r 0)=false) :
  zb8 (decDigits n++r)=true∧zb5 (decDigits n++r)=n∧zy (decDigits n++r)=r:=by
 have hlen:(decDigits n).length≤8:=(zl n 8 (by decide)).2 (by simpa using hn)
 have hpos:=List.length_pos_iff.2 (zaz n)
 have htake:(decDigits n++r).take (decDigits n).length=decDigits n:=List.take_left
 have hdrop:(decDigits n++r).drop (decDigits n).length=r:=List.drop_left
 have hpre:zbn (decDigits n++r)=(decDigits n).length:=by
  refine zjm (by rw[htake];exact zad n) (by simp) (by omega) ?_
  rcases hr with rfl | hr
  ·left;simp
  ·right;right
   have:at0 (decDigits n++r) (decDigits n).length=at0 r 0:=by
    unfold at0
    rw[List.getD_eq_getElem?_getD,List.getElem?_append_right (Nat.le_refl _),Nat.sub_self,← List.getD_eq_getElem?_getD]
   rw[this];exact hr
 have hz:(decDigits n).length=1∨at0 (decDigits n++r) 0≠48:=by
  by_cases h0:0<n
  ·right
   intro e
   have hh:=zdX n h0
   cases hd:decDigits n with
   | nil=>exact zaz n hd
   | cons c t =>
    rw[hd]at e hh
    simp only[at0,List.cons_append,List.getD_cons_zero]at e
    subst e;exact hh rfl
  ·left
   have:n=0:=by omega
   subst this;simp[decDigits]
 obtain⟨a,b,c⟩:=zly hpre (by omega) hlen hz
 exact⟨a,by rw[b,htake,zak],by rw[c,hdrop]⟩
def zcz(a:Str):Option (Int × Int) :=
 if zb8 (zo a)=false∨(a.head? = some 45∧zb5 (zo a)=0)then none
 else if zy (zo a)=[]then some (if a.head? = some 45 then -(zb5 (zo a):Int)else zb5 (zo a),1)
 else if at0 (zy (zo a)) 0≠47 then none
 else if zb8 (za0 (zy (zo a)) 1)=false∨zy (za0 (zy (zo a)) 1)≠[]∨zb5 (za0 (zy (zo a)) 1)<2∨Nat.gcd (zb5 (zo a)) (zb5 (za0 (zy (zo a)) 1))≠1 then none
 else some (if a.head? = some 45 then -(zb5 (zo a):Int)else zb5 (zo a),zb5 (za0 (zy (zo a)) 1))
def zR(q:Rat):Prop:=q.num.natAbs<100000000∧q.den<100000000
theorem zd1{a:Str}(h:a.head? = some 45):a=45::zo a:=by
 cases a with
 | nil=>cases h
 | cons c r=>simp only[List.head?_cons,Option.some.injEq]at h;subst h;simp[zo]
theorem zbc{a:Str}(h:a.head?≠some 45):zo a=a:=by unfold zo;rw[if_neg h]
theorem zhv{a:Str}{n d:Int}(h:zcz a=some (n,d)):∃ q:Rat,a=ze q∧q.num=n∧(q.den:Int)=d∧zR q:=by
 unfold zcz at h
 split at h
 ·cases h
 ·next hc1 =>
  simp only[not_or,Bool.not_eq_false,not_and]at hc1
  obtain⟨ok1,hz⟩:=hc1
  obtain⟨e1,b1,_⟩:=zf8 ok1
  have hit:∀ r,zo a=decDigits (zb5 (zo a))++r→a=itoa (if a.head? = some 45 then -(zb5 (zo a):Int)else zb5 (zo a))++r:=by
   intro r er
   by_cases hm:a.head? = some 45
   ·rw[if_pos hm]
    have hz':=hz hm
    rw[itoa_neg (by omega),show (-(zb5 (zo a):Int)).natAbs=zb5 (zo a) by omega,List.cons_append,← er]
    exact zd1 hm
   ·rw[if_neg hm,itoa_nonneg (by omega),Int.toNat_natCast,← er]
    exact(zbc hm).symm
  have hab:((if a.head? = some 45 then -(zb5 (zo a):Int)else zb5 (zo a)):Int).natAbs=zb5 (zo a):=by split <;> omega
  split at h
  ·next hr =>
   simp only[Option.some.injEq,Prod.mk.injEq]at h
   have ea:=hit [] (by rw[← hr];exact e1)
   rw[List.append_nil]at ea
   rw[h.1]at ea hab
   refine⟨⟨n,1,by decide,by simp⟩,?_,rfl,by simpa using h.2,by rw[zR];exact⟨by simp only;omega,by simp⟩⟩
   unfold ze;rw[if_pos rfl];exact ea
  ·next hr =>
   split at h
   ·cases h
   ·next h47 =>
    split at h
    ·cases h
    ·next hc2 =>
     simp only[not_or,Bool.not_eq_false,Classical.not_not]at hc2
     obtain⟨ok2,r2,d2,hg⟩:=hc2
     obtain⟨e2,b2,_⟩:=zf8 ok2
     simp only[Option.some.injEq,Prod.mk.injEq]at h
     have h47':at0 (zy (zo a)) 0=47:=Classical.not_not.1 h47
     have er:zy (zo a)=47::decDigits (zb5 (za0 (zy (zo a)) 1)):=by
      rw[r2,List.append_nil]at e2
      rw[← e2]
      cases hh:zy (zo a)with
      | nil=>exact absurd hh hr
      | cons c t=>rw[hh]at h47';simp only[at0,List.getD_cons_zero]at h47';subst h47';rfl
     have ea:=hit _ e1
     rw[er]at ea
     rw[h.1]at ea hab
     refine⟨⟨n,zb5 (za0 (zy (zo a)) 1),by omega,by rw[Nat.Coprime,hab];exact hg⟩,?_,rfl,h.2,⟨by simp only;omega,by simp only;omega⟩⟩
     unfold ze;simp only;rw[if_neg (by omega)];exact ea
theorem zbY(z:Int)(r:Str):(itoa z++r).head? = some 45 ↔ z<0:=by
 by_cases h:z<0
 ·rw[itoa_neg h];simp[h]
 ·rw[itoa_nonneg (by omega),head?_app _ _ (zaz _)]
  simp only[h,iff_false]
  exact zG _
theorem zdK(z:Int)(r:Str):zo (itoa z++r)=decDigits z.natAbs++r:=by
 by_cases h:z<0
 ·rw[itoa_neg h];simp[zo]
 ·rw[zbc (fun e=>h ((zbY z r).1 e)),itoa_nonneg (by omega),show z.toNat=z.natAbs by omega]
theorem ziW(z:Int)(r:Str):(if (itoa z++r).head? = some 45 then -(z.natAbs:Int)else z.natAbs)=z:=by
 by_cases h:z<0
 ·rw[if_pos ((zbY z r).2 h)];omega
 ·rw[if_neg (fun e=>h ((zbY z r).1 e))];omega
theorem znO{q:Rat}(h:zR q):zcz (ze q)=some (q.num,(q.den:Int)):=by
 obtain⟨h1,h2⟩:=h
 unfold ze
 split
 ·next hd =>
  have e:=zdK q.num []
  have es:=ziW q.num []
  have hh:=zbY q.num []
  rw[List.append_nil,List.append_nil]at e
  rw[List.append_nil]at es hh
  obtain⟨a,b,c⟩:=zlB (r:=[]) h1 (.inl rfl)
  rw[List.append_nil]at a b c
  unfold zcz
  rw[e,a,b,c,if_neg (by
   rintro(x | ⟨x,y⟩);· cases x
   ·have:=hh.1 x;omega),if_pos rfl,es,hd];rfl
 ·next hd =>
  have e:=zdK q.num (47::decDigits q.den)
  have es:=ziW q.num (47::decDigits q.den)
  have hh:=zbY q.num (47::decDigits q.den)
  obtain⟨a,b,c⟩:=zlB (r:=47::decDigits q.den) h1 (.inr rfl)
  obtain⟨a2,b2,c2⟩:=zlB (r:=[]) h2 (.inl rfl)
  rw[List.append_nil]at a2 b2 c2
  have ed:za0 (47::decDigits q.den) 1=decDigits q.den:=rfl
  have hnz:=q.den_nz
  unfold zcz
  rw[e,a,b,c,if_neg (by
   rintro(x | ⟨x,y⟩);· cases x
   ·have:=hh.1 x;omega),if_neg (by simp),if_neg (by simp[at0]),ed,a2,b2,c2,if_neg,es]
  rintro(x | x | x | x)
  ·cases x
  ·exact x rfl
  ·omega
  ·exact x q.reduced
theorem zgO{q:Rat}(h:¬ zR q):zcz (ze q)=none:=by
 cases hn:zcz (ze q)with
 | none=>rfl
 | some p =>
  obtain⟨q',e,_,_,hs⟩:=zhv (n:=p.1) (d:=p.2) (by rw[hn])
  rw[← zaB e]at hs
  exact absurd hs h
theorem zpc{q:Rat}(h:zR q):zah q=false:=by
 unfold zah
 rw[zcp (x:=q.num) (by have:=h.1;omega),zcp (x:=(q.den:Int)) (by have:=h.2;omega)];rfl
theorem zmH{a:Str}(h:zb4 a≠0):zcz a=none:=by
 cases hn:zcz a with
 | none=>rfl
 | some p =>
  obtain⟨q',e,_,_,hs⟩:=zhv (n:=p.1) (d:=p.2) (by rw[hn])
  rw[e,zd5,zpc hs]at h
  exact absurd rfl h
theorem zlC(s:Str):zb5 s<100000000:=by
 cases h:zb8 s with
 | true=>exact(zf8 h).2.1
 | false=>unfold zb5;rw[h];simp
theorem zou{s:Str}(h:zb8 s=true):s≠[]:=by
 intro e;subst e;simp[zb8,zbn]at h
theorem zjl(s:Str):(zy s).length≤s.length:=by
 unfold zy;split
 ·simp
 ·simp
end Kp
namespace Kp
open Go.Lib (decDigits itoa nDigits)
theorem zfS(n:Int)(g:Nat){B:Int}(h:(n.natAbs:Int)≤B):-B≤n.tdiv g∧n.tdiv g≤B:=by
 have:=zoh n g
 omega
theorem zdi(n:Int)(k:Nat)(hk:0<k):(Rat.divInt n k).num=n.tdiv (Nat.gcd n.natAbs k)∧((Rat.divInt n k).den:Int)=(k:Int) / (Nat.gcd n.natAbs k:Int):=by
 have e:Rat.divInt n k=Rat.normalize n k (by omega):=by rw[Rat.normalize_eq_mkRat,Rat.divInt_ofNat]
 rw[e,Rat.normalize_eq]
 simp only
 have h1:((Nat.gcd n.natAbs k:Nat):Int) ∣ n:=by rw[← Int.dvd_natAbs];exact Int.natCast_dvd_natCast.2 (Nat.gcd_dvd_left ..)
 refine⟨?_,?_⟩
 ·rw[Int.tdiv_eq_ediv_of_dvd h1]
 ·rw[Int.natCast_ediv]
theorem zfT(n:Int)(k:Nat)(hk:0<k) :
  ze (Rat.divInt n k)=if (k:Int) / (Nat.gcd n.natAbs k:Int)=1 then itoa (n.tdiv (Nat.gcd n.natAbs k))else itoa (n.tdiv (Nat.gcd n.natAbs k))++47::itoa ((k:Int) / (Nat.gcd n.natAbs k:Int)):=by
 obtain⟨h1,h2⟩:=zdi n k hk
 unfold ze
 rw[zB,h1,h2]
 by_cases h:(Rat.divInt n k).den=1
 ·rw[if_pos h,if_pos (by omega)]
 ·rw[if_neg h,if_neg (by omega)]
end Kp
namespace Kp
open Go.Lib (decDigits itoa nDigits)
def zcJ(s:Str):Nat:=if 1<(s.takeWhile zaw).length∧at0 s 0=48 then 0 else(s.takeWhile zaw).length
theorem zeF{s:Str}{k:Nat}(h:zaJ (s.take k))(hk:k≤s.length)(stop:k=s.length∨zaw (at0 s k)=false):(s.takeWhile zaw).length=k:=by
 by_cases hl:k=s.length
 ·rw[hl,List.take_length]at h
  rw[zbd _ _ h,hl]
 ·have hd:=stop.resolve_left hl
  have hlt:k<s.length:=by omega
  have e:s=s.take k++at0 s k::s.drop (k+1):=by
   rw[zc1 s k hlt,← List.drop_eq_getElem_cons,List.take_append_drop]
  have:=zbX zaw (at0 s k) (s.drop (k+1)) hd (s.take k) h
  rw[← e]at this
  rw[this,List.length_take];omega
theorem zie(s:Str):(s.takeWhile zaw).length≤s.length:=(List.takeWhile_sublist _).length_le
theorem zj4{s:Str}(h:(s.takeWhile zaw).length=s.length):zaJ s:=by
 have e:s.takeWhile zaw=s:=(List.takeWhile_prefix _).eq_of_length h
 intro c hc
 have:=List.all_takeWhile (p:=zaw) (l:=s)
 rw[List.all_eq_true,e]at this
 exact this c hc
theorem zm9{s:Str}:(zcJ s≠0∧¬ zcJ s<s.length) ↔ (s≠[]∧zaJ s∧(s.head? = some 48→s=[48])):=by
 have hle:=zie s
 constructor
 ·rintro⟨h0,h1⟩
  unfold zcJ at h0 h1
  split at h0
  ·exact absurd rfl h0
  ·next hz =>
   rw[if_neg hz]at h1
   have hfull:(s.takeWhile zaw).length=s.length:=by omega
   have hne:s≠[]:=by intro e;subst e;simp at h0
   refine⟨hne,zj4 hfull,fun e=>?_⟩
   rw[zbS hne]at e
   have e48:=Option.some.inj e
   have h1':s.length=1:=by
    by_cases hc:1<s.length
    ·exact absurd ⟨by omega,e48⟩ hz
    ·have:=List.length_pos_iff.2 hne;omega
   obtain⟨c,rfl⟩:=List.length_eq_one_iff.1 h1'
   simp only[at0,List.getD_cons_zero]at e48;rw[e48]
 ·rintro⟨hne,hd,hz⟩
  have hl:(s.takeWhile zaw).length=s.length:=by rw[zbd _ _ hd]
  have hpos:=List.length_pos_iff.2 hne
  have e:zcJ s=s.length:=by
   unfold zcJ
   rw[if_neg,hl]
   rintro⟨a,b⟩
   rw[hl]at a
   have:=hz (by rw[zbS hne,b])
   rw[this]at a;simp at a
  omega
theorem zjE(n:Str):zdw n=11 ↔ (zcJ (zo n)=0∨zcJ (zo n)<(zo n).length∨(n.head? = some 45∧zo n=[48])):=by
 have hg:=zm9 (s:=zo n)
 constructor
 ·intro h
  by_cases h0:zcJ (zo n)=0
  ·exact .inl h0
  ·by_cases h1:zcJ (zo n)<(zo n).length
   ·exact .inr (.inl h1)
   ·obtain⟨a,b,c⟩:=hg.1 ⟨h0,h1⟩
    right;right
    by_cases h48:(zo n).head? = some 48
    ·have e:=c h48
     refine⟨?_,e⟩
     by_cases hm:n.head? = some 45
     ·exact hm
     ·rw[zbc hm]at e
      rw[e,zra]at h;cases h
    ·rw[zbS a]at h48
     rw[zm0 a (fun x=>h48 (by rw[x])) b]at h
     split at h <;> cases h
 ·intro h
  by_cases hA:zo n=[]
  ·exact zkK hA
  ·by_cases hD:zaJ (zo n)
   ·by_cases hz:at0 (zo n) 0=48∧n≠[48]
    ·exact zmZ hA hz.1 hz.2
    ·exfalso
     have hgood:zo n≠[]∧zaJ (zo n)∧((zo n).head? = some 48→zo n=[48]):=by
      refine⟨hA,hD,fun e=>?_⟩
      rw[zbS hA]at e
      have:n=[48]:=Classical.byContradiction fun x=>hz ⟨Option.some.inj e,x⟩
      rw[this];rfl
     obtain⟨a,b⟩:=hg.2 hgood
     rcases h with h | h | ⟨h,h2⟩
     ·exact a h
     ·exact b h
     ·have:n=[48]:=Classical.byContradiction fun x=>hz ⟨by rw[h2];rfl,x⟩
      rw[this]at h;simp at h
   ·exact zjF hD
theorem ztW(d:Str):(zdw d=11∨d.head? = some 45∨d=[48]∨d=[49]) ↔ (zcJ d=0∨zcJ d<d.length∨d=[48]∨d=[49]):=by
 by_cases hm:d.head? = some 45
 ·have hdig:zcJ d=0:=by
   cases d with
   | nil=>cases hm
   | cons c r =>
    simp only[List.head?_cons,Option.some.injEq]at hm
    subst hm
    have h45:zaw 45=false:=by decide
    unfold zcJ
    rw[List.takeWhile_cons,h45];simp
  simp[hm,hdig]
 ·have:=zjE d
  rw[zbc hm]at this
  rw[this]
  simp only[hm,false_and,or_false,false_or]
  constructor
  ·rintro((a | a) | a | a)
   ·exact .inl a
   ·exact .inr (.inl a)
   ·exact .inr (.inr (.inl a))
   ·exact .inr (.inr (.inr a))
  ·rintro(a | a | a | a)
   ·exact .inl (.inl a)
   ·exact .inl (.inr a)
   ·exact .inr (.inl a)
   ·exact .inr (.inr a)
theorem zon(a:Str):zms a ↔ ((zcJ (zo (zu a))=0∨zcJ (zo (zu a))<(zo (zu a)).length∨((zu a).head? = some 45∧zo (zu a)=[48])) ∨
  (zF a=true∧(zcJ (z8 a)=0∨zcJ (z8 a)<(z8 a).length∨z8 a=[48]∨z8 a=[49]))):=by
 unfold zms
 rw[zjE,ztW]
theorem zet(a:Str):(zu a).length≤a.length:=(List.takeWhile_sublist _).length_le
theorem zeC(a:Str):(z8 a).length≤a.length:=by
 unfold z8
 have h1:(a.dropWhile (·≠47)).length≤a.length:=(List.dropWhile_sublist _).length_le
 rw[List.length_tail]
 have h2:(a.dropWhile (fun x=>decide (x≠47))).length≤a.length:=h1
 omega
theorem zc6(n:Int)(k:Nat)(hk:0<k) :
  ze (Rat.divInt n k)=if (k:Int).fdiv (Nat.gcd n.natAbs k:Int)=1 then itoa (n.fdiv (Nat.gcd n.natAbs k:Int))else itoa (n.fdiv (Nat.gcd n.natAbs k:Int))++47::itoa ((k:Int).fdiv (Nat.gcd n.natAbs k:Int)):=by
 rw[zfT n k hk,Int.fdiv_eq_ediv_of_nonneg _ (by omega),Int.fdiv_eq_ediv_of_nonneg _ (by omega)]
 have h1:((Nat.gcd n.natAbs k:Nat):Int) ∣ n:=by rw[← Int.dvd_natAbs];exact Int.natCast_dvd_natCast.2 (Nat.gcd_dvd_left ..)
 rw[Int.tdiv_eq_ediv_of_dvd h1]
theorem znb{a b:Nat}(h:a≤b):(decDigits a).length≤(decDigits b).length:=by
 have p:=List.length_pos_iff.2 (zaz b)
 have:=(zl b _ p).1 (Nat.le_refl _)
 exact(zl a _ p).2 (by omega)
theorem zlL{a b:Nat}{m:Nat}(h:a≤b)(hb:(itoa (b:Int)).length≤m):(itoa (a:Int)).length≤m:=by
 rw[← zB]at *;exact Nat.le_trans (znb h) hb
theorem znS(z:Int):(itoa z).length=(decDigits z.natAbs).length+(if z<0 then 1 else 0):=by
 by_cases h:z<0
 ·rw[itoa_neg h,if_pos h,List.length_cons]
 ·rw[itoa_nonneg (by omega),if_neg h,show z.toNat=z.natAbs by omega];rfl
theorem zgV(n:Int)(g:Nat)(hn:(itoa n).length≤18):(itoa (n.fdiv g)).length≤1000:=by
 have h:=zaH hn
 have hb:(n.fdiv g).natAbs≤1000000000000000000:=by
  rw[Int.fdiv_eq_ediv_of_nonneg _ (by omega)]
  by_cases hg:g=0
  ·subst hg;simp
  ·have h1:n / (g:Int)≤n.natAbs:=Int.le_trans (Int.ediv_le_ediv (by omega) (show n≤(n.natAbs:Int) by omega)) (Int.ediv_le_self _ (by omega))
   have h2:-(n.natAbs:Int)≤n / (g:Int):=by
    rw[Int.le_ediv_iff_mul_le (by omega)]
    have:(n.natAbs:Int)*1≤n.natAbs*g:=Int.mul_le_mul_of_nonneg_left (by omega) (by omega)
    rw[Int.neg_mul];omega
   omega
 have h19:(decDigits (n.fdiv g).natAbs).length≤19:=(zl _ 19 (by decide)).2 (by
  have:(10:Nat) ^ 19=10000000000000000000:=by decide
  omega)
 rw[znS];split <;> omega
end Kp
namespace Kp
open Go.Lib (decDigits itoa nDigits)
def zk2(n r:Nat):Prop:=r*r≤n∧n<(r+1)*(r+1)
theorem zk2.unique{n r s:Nat}(h:zk2 n r)(k:zk2 n s):r=s:=by
 obtain⟨h1,h2⟩:=h
 obtain⟨k1,k2⟩:=k
 by_cases a:r<s
 ·have:(r+1)*(r+1)≤s*s:=Nat.mul_le_mul a a
  omega
 ·by_cases b:s<r
  ·have:(s+1)*(s+1)≤r*r:=Nat.mul_le_mul b b
   omega
  ·omega
def zq(n:Nat):Nat:=if h:n=0 then 0 else if (2*zq (n / 4)+1)*(2*zq (n / 4)+1)≤n then 2*zq (n / 4)+1 else 2*zq (n / 4)
termination_by n
decreasing_by all_goals omega
theorem zdf(n:Nat):zk2 n (zq n):=by
 induction n using Nat.strongRecOn with
 | _ n ih =>
  rw[zq]
  split
  ·next h=>subst h;exact⟨Nat.le_refl _,by decide⟩
  ·next h =>
   obtain⟨h1,h2⟩:=ih (n / 4) (by omega)
   generalize zq (n / 4)=s at *
   have e1:2*s*(2*s)=4*(s*s):=by grind
   have e2:(2*s+1+1)*(2*s+1+1)=4*((s+1)*(s+1)):=by grind
   split
   ·next hc=>exact⟨hc,by omega⟩
   ·next hc=>exact⟨by omega,by omega⟩
theorem zew{n r:Nat}(h:zk2 n r):zq n=r:=(zdf n).unique h
theorem zgW(n:Nat):zq n≤n:=by
 have h:=(zdf n).1
 by_cases h0:zq n=0
 ·omega
 ·have:zq n*1≤zq n*zq n:=Nat.mul_le_mul_left _ (by omega)
  omega
theorem zjy{n:Nat}(h:n<2):zq n=n:=by
 have:n=0∨n=1:=by omega
 rcases this with rfl | rfl
 ·exact zew ⟨by decide,by decide⟩
 ·exact zew ⟨by decide,by decide⟩
theorem zeI:∀ (f x:Nat),x<2 ^ f→x<2 ^ Go.Lib.bitLenAux f x
 | 0,x,h=>h
 | f+1,x,h=>by
  simp only[Go.Lib.bitLenAux]
  split
  ·next h0=>subst h0;decide
  ·have:=zeI f (x / 2) (by rw[Nat.pow_succ]at h;omega)
   rw[Nat.add_comm,Nat.pow_succ];omega
theorem bitLenAux_le:∀ (f k x:Nat),x<2 ^ k→Go.Lib.bitLenAux f x≤k
 | 0,_,_,_=>Nat.zero_le _
 | f+1,k,x,h=>by
  simp only[Go.Lib.bitLenAux]
  split
  ·omega
  ·cases k with
   | zero=>simp at h;omega
   | succ k =>
    have:=bitLenAux_le f k (x / 2) (by rw[Nat.pow_succ]at h;omega)
    omega
theorem zlG{x:Nat}(h:x<18446744073709551616):x<2 ^ Go.Lib.bitLen x:=zeI 64 x h
theorem bitLen_le{x k:Nat}(h:x<2 ^ k):Go.Lib.bitLen x≤k:=bitLenAux_le 64 k x h
theorem zrQ{n:Nat}(h:n<18446744073709551616):n<(2 ^ ((Go.Lib.bitLen n+1) / 2)+1)*(2 ^ ((Go.Lib.bitLen n+1) / 2)+1):=by
 have h1:=zlG h
 have h2:2 ^ Go.Lib.bitLen n≤2 ^ ((Go.Lib.bitLen n+1) / 2+(Go.Lib.bitLen n+1) / 2):=Nat.pow_le_pow_right (by decide) (by omega)
 rw[Nat.pow_add]at h2
 generalize 2 ^ ((Go.Lib.bitLen n+1) / 2)=r at *
 have:(r+1)*(r+1)=r*r+2*r+1:=by grind
 omega
theorem zjk{n r:Nat}(hr:0<r):n<((r+n / r) / 2+1)*((r+n / r) / 2+1):=by
 have h1:n<r*(n / r+1):=Nat.lt_mul_div_succ n hr
 generalize n / r=q at *
 generalize hs:(r+q) / 2=s at *
 have h2:r+q+1≤2*(s+1):=by omega
 have h3:4*(r*(q+1))≤(r+(q+1))*(r+(q+1)):=by
  rcases Nat.le_total r (q+1)with h | h
  ·obtain⟨d,hd⟩:=Nat.exists_eq_add_of_le h
   rw[hd]
   have:(r+(r+d))*(r+(r+d))=4*(r*(r+d))+d*d:=by grind
   omega
  ·obtain⟨d,hd⟩:=Nat.exists_eq_add_of_le h
   rw[hd]
   have:(q+1+d+(q+1))*(q+1+d+(q+1))=4*((q+1+d)*(q+1))+d*d:=by grind
   omega
 have h4:(r+(q+1))*(r+(q+1))≤(2*(s+1))*(2*(s+1)):=Nat.mul_le_mul (by omega) (by omega)
 have h5:(2*(s+1))*(2*(s+1))=4*((s+1)*(s+1)):=by grind
 omega
theorem zf7{n r:Nat}(hr:0<r)(hge:n<(r+1)*(r+1))(h:r≤(r+n / r) / 2):zk2 n r:=by
 refine⟨?_,hge⟩
 have h1:r≤n / r:=by omega
 have:=(Nat.le_div_iff_mul_le hr).1 h1
 exact this
def zaN(p:Nat)(c m:Nat):Nat × Nat:=if _h:2≤p∧0<m∧m % (p*p)=0 then zaN p (c*p) (m / (p*p))else(c,m)
termination_by m
decreasing_by
 obtain⟨h1,h2,_⟩:=_h
 exact Nat.div_lt_self h2 (by have:2*2≤p*p:=Nat.mul_le_mul h1 h1;omega)
theorem zcy{p c m:Nat}(hp:2≤p)(hm:0<m)(h:m % (p*p)=0):zaN p c m=zaN p (c*p) (m / (p*p)):=by
 rw[zaN,dif_pos ⟨hp,hm,h⟩]
theorem zgo{p c m:Nat}(h:m % (p*p)≠0):zaN p c m=(c,m):=by
 rw[zaN,dif_neg (fun x=>h x.2.2)]
theorem ziT(p:Nat)(hp:2≤p):∀ (m c:Nat),0<m→0<c →
  0<(zaN p c m).2∧0<(zaN p c m).1∧(zaN p c m).1*(zaN p c m).1*(zaN p c m).2=c*c*m∧(zaN p c m).2 % (p*p)≠0∧(zaN p c m).2≤m:=by
 intro m
 induction m using Nat.strongRecOn with
 | _ m ih =>
  intro c hm hc
  by_cases h:m % (p*p)=0
  ·rw[zcy hp hm h]
   have hpp:4≤p*p:=Nat.mul_le_mul hp hp
   have hdvd:=Nat.div_mul_cancel (Nat.dvd_of_mod_eq_zero h)
   have hlt:m / (p*p)<m:=Nat.div_lt_self hm (by omega)
   have hpos:0<m / (p*p):=by
    rcases Nat.eq_zero_or_pos (m / (p*p))with h0 | h0
    ·rw[h0,Nat.zero_mul]at hdvd;omega
    ·exact h0
   obtain⟨a,b,d,e,f⟩:=ih (m / (p*p)) hlt (c*p) hpos (Nat.mul_pos hc (by omega))
   refine⟨a,b,?_,e,by omega⟩
   rw[d]
   conv=>rhs;rw[← hdvd]
   grind
  ·rw[zgo h];exact⟨hm,hc,rfl,h,Nat.le_refl _⟩
def zC:List Nat:=[2,3,5,7,11,13,17,19,23,29,31,37,41,43,47,53,59,61,67,71,73,79,83,89,97]
def zA:List Nat→Nat × Nat→Nat × Nat
 | [],x=>x
 | p::r,x=>zA r (zaN p x.1 x.2)
theorem ziV(l m:List Nat):∀ x,zA (l++m) x=zA m (zA l x):=by
 induction l with
 | nil=>intro x;rfl
 | cons p r ih=>intro x;exact ih _
theorem zch:∀ (l:List Nat),(∀ p∈l,2≤p)→∀ (c m:Nat),0<m→0<c →
  0<(zA l (c,m)).2∧0<(zA l (c,m)).1∧(zA l (c,m)).1*(zA l (c,m)).1*(zA l (c,m)).2=c*c*m∧(zA l (c,m)).2≤m
 | [],_,c,m,hm,hc=>⟨hm,hc,rfl,Nat.le_refl _⟩
 | p::r,h,c,m,hm,hc=>by
  obtain⟨a,b,d,_,f⟩:=ziT p (h p (by simp)) m c hm hc
  obtain⟨a2,b2,d2,f2⟩:=zch r (fun q hq=>h q (by simp[hq])) (zaN p c m).1 (zaN p c m).2 a b
  exact⟨a2,b2,by rw[← d];exact d2,Nat.le_trans f2 f⟩
theorem zd8:∀ p∈zC,2≤p:=by decide
def za1(m:Nat):Nat × Nat :=
 if zq (zA zC (1,m)).2*zq (zA zC (1,m)).2=(zA zC (1,m)).2 then((zA zC (1,m)).1*zq (zA zC (1,m)).2,1)
 else zA zC (1,m)
theorem zfw{m:Nat}(hm:0<m):0<(za1 m).2∧0<(za1 m).1∧(za1 m).1*(za1 m).1*(za1 m).2=m∧(za1 m).2≤m:=by
 obtain⟨a,b,d,f⟩:=zch zC zd8 1 m hm (by decide)
 unfold za1
 generalize (zA zC (1,m)).1=c at *
 generalize hl:(zA zC (1,m)).2=l at *
 split
 ·next h =>
  refine⟨Nat.one_pos,Nat.mul_pos b ?_,?_,by omega⟩
  ·by_cases h0:zq l=0
   ·rw[h0]at h;omega
   ·omega
  ·simp only
   generalize zq l=r at *
   subst h
   grind
 ·refine⟨by rw[hl];exact a,?_,?_,by rw[hl];exact f⟩
  ·have:=zch zC zd8 1 m hm (by decide);exact this.2.1
  ·have:=zch zC zd8 1 m hm (by decide)
   rw[this.2.2.1];simp
theorem zqo{c l m:Nat}(h:c*c*l=m)(hl:0<l):c*c≤m:=by
 have:c*c*1≤c*c*l:=Nat.mul_le_mul_left _ hl
 omega
structure StripInv (n c l:Nat):Prop where
 pos:0<l
 cpos:0<c
 eq:c*c*l=n
theorem StripInv.bounds{n c l:Nat}(h:StripInv n c l):l≤n∧c≤n:=by
 have h1:=h.eq
 have h2:=h.pos
 have h3:=h.cpos
 have h4:1*l≤c*c*l:=Nat.mul_le_mul_right _ (Nat.mul_pos h3 h3)
 have h5:c*1≤c*c:=Nat.mul_le_mul_left _ h3
 have h6:c*c*1≤c*c*l:=Nat.mul_le_mul_left _ h2
 omega
theorem StripInv.next{n c l p:Nat}(h:StripInv n c l)(hp:2≤p)(hd:l % (p*p)=0):StripInv n (c*p) (l / (p*p)):=by
 have hdvd:=Nat.div_mul_cancel (Nat.dvd_of_mod_eq_zero hd)
 have h2:=h.pos
 refine⟨?_,Nat.mul_pos h.cpos (by omega),?_⟩
 ·rcases Nat.eq_zero_or_pos (l / (p*p))with h0 | h0
  ·rw[h0,Nat.zero_mul]at hdvd;omega
  ·exact h0
 ·rw[← h.eq]
  conv=>rhs;rw[← hdvd]
  grind
theorem StripInv.small{n c l:Nat}(h:StripInv n c l)(hn:n<100000000000000000):c<1000000000:=by
 have h1:=zqo h.eq h.pos
 rcases Nat.lt_or_ge c 1000000000 with a | a
 ·exact a
 ·have:1000000000*1000000000≤c*c:=Nat.mul_le_mul a a
  omega
theorem zdz(k:Nat)(h:k<zC.length)(x:Nat × Nat):zA (zC.take (k+1)) x=zaN (zC.getD k 0) (zA (zC.take k) x).1 (zA (zC.take k) x).2:=by
 rw[List.take_succ_eq_append_getElem h,ziV,List.getD_eq_getElem?_getD,List.getElem?_eq_getElem h];rfl
end Kp
