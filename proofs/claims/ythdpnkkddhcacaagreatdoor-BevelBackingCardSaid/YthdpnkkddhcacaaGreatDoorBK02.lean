/-
  Walks: the package integer where numbers are short.; Walks: the functions of package integer at short numerals (at most 18 bytes).; Numbers with short parts, as the program reads them (nativeOf): just the numbers whose parts have at most 8 digits.; Fractions and their numerals.; The form of a number's string, as rational.cut asks it.; Square roots of integers, and the normal form of the root of an integer: plain mathematics.
-/
import Derived.Test.YthdpnkkddhcacaaGreatDoorBK01
import Derived.Test.YthdpnkkddhcacaaGreatDoorBK00
import Derived.Test.YthdpnkkddhcacaaGreatDoorBKMA
import Derived.Lib.BitFns
set_option maxRecDepth 100000
set_option maxHeartbeats 800000
namespace Go.Proofs.YthdpnkkddhcacaaGreatDoor
section
open Go.RowKit Kp
theorem ztI{c:UInt8}(h:c≠48):((c.toNat:Int) == 48)=false:=by rw[zna];simpa using h
theorem zgU(w:World) :
  CR 211 #[.string ⟨[48].toArray⟩] w (.int .i64 0):=by
 go_enter Tryz.func211,Tryz.ntmps211
 go_wp2_with (first | (go_at_call 65;refine(zO [48] _).mono ?_;rintro e w1 ⟨rfl,rfl⟩;rw[show zo [48]=[48]from rfl])|(go_at_call 256;refine(zdD [48] (by decide) _).mono ?_;rintro e w1 ⟨rfl,hq⟩;rw[show zpy [48]=[]from by decide]))
 go_ret
 exact⟨rfl,hq⟩
theorem zcn(a:Str)(hl:a.length≤1000000000)(w:World) :
  CR 211 #[.string ⟨a.toArray⟩] w (.int .i64 (zdi a)):=by
 by_cases h48:a=[48]
 ·subst h48;rw[zqU];exact zgU w
 have hu:=zeJ a
 by_cases hn:zo a=[]
 ·rw[zkz hn]
  go_enter Tryz.func211,Tryz.ntmps211
  go_wp2_with (go_at_call 65;refine(zO a _).mono ?_;rintro e w1 ⟨rfl,rfl⟩;rw[hn])
  go_ret
  exact⟨rfl,Below.refl _ _⟩
 have hne:(zo a).isEmpty=false:=by simpa using hn
 have hpos:0<(zo a).length:=List.length_pos_iff.2 hn
 by_cases h0:at0 (zo a) 0=48
 ·rw[zmK hn h0 h48]
  have hb:((((at0 (zo a) 0).toNat:Int)) == 48)=true:=by rw[h0];rfl
  clear h0
  go_enter Tryz.func211,Tryz.ntmps211
  go_wp2_with (go_at_call 65;refine(zO a _).mono ?_;rintro e w1 ⟨rfl,rfl⟩)
  go_ret
  exact⟨rfl,Below.refl _ _⟩
 have hb:=ztI h0
 by_cases hd:zaB (zo a)
 ·have hN:(zpy (zo a)).isEmpty=true:=by rw[(zmo _).2 hd];rfl
  have HC:=LH (zmL hn h0 hd)
  clear h0 hd
  by_cases h3:300<(zo a).length
  all_goals
   go_enter Tryz.func211,Tryz.ntmps211
   go_wp2_with (first | (go_at_call 65;refine(zO a _).mono ?_;rintro e w1 ⟨rfl,rfl⟩)|(go_at_call 256;refine(zdD _ (by omega) _).mono ?_;rintro e w1 ⟨rfl,hq⟩))
   go_ret
   refine⟨zcS ?_,hq⟩
   rw[HC.out]
   simp[h3]
 ·have hN:(zpy (zo a)).isEmpty=false:=by
   have:zpy (zo a)≠[]:=fun e=>hd ((zmo _).1 e)
   simpa using this
  rw[zjC hd]
  clear h0 hd
  go_enter Tryz.func211,Tryz.ntmps211
  go_wp2_with (first | (go_at_call 65;refine(zO a _).mono ?_;rintro e w1 ⟨rfl,rfl⟩)|(go_at_call 256;refine(zdD _ (by omega) _).mono ?_;rintro e w1 ⟨rfl,hq⟩))
  go_ret
  exact⟨rfl,hq⟩
theorem zmH(a b:Str)(ha:a.length≤1000000000)(hb:b.length≤1000000000)(w:World) :
  CR 142 #[.string ⟨a.toArray⟩,.string ⟨b.toArray⟩] w (.int .i64 (if zdi a=0 then zdi b else zdi a)):=by
 by_cases h:zdi a=0
 ·have H:=LH h
  have hb2:(zdi a == 0)=true:=by simpa using h
  have hb3:(zdi a != 0)=false:=by simpa using h
  clear h
  go_enter Tryz.func142,Tryz.ntmps142
  go_wp2_with fail
  refine cx (zcn a ha _) fun w1 hq=>?_
  go_wp2_with fail
  refine cx (zcn b hb _) fun w2 hq2=>?_
  go_wp2
  go_ret
  exact⟨zcS (by first | rfl | (rw[if_pos H.out];rfl)),hq.trans (hq2.mono hq.size)⟩
 ·have H:=LH h
  have hb2:(zdi a == 0)=false:=by simpa using h
  have hb3:(zdi a != 0)=true:=by simpa using h
  clear h
  go_enter Tryz.func142,Tryz.ntmps142
  go_wp2_with fail
  refine cx (zcn a ha _) fun w1 hq=>?_
  go_wp2_with fail
  go_ret
  exact⟨zcS (by first | rfl | (rw[if_neg H.out];rfl)),hq⟩
theorem zbU(x y:Int)(hx:(Lib.itoa x).length≤18)(hy:(Lib.itoa y).length≤18)(w:World) :
  CR 143 #[.string ⟨(Lib.itoa x).toArray⟩,.string ⟨(Lib.itoa y).toArray⟩,.int .i64 18] w (.tuple #[.int .i64 x,.int .i64 y,.bool true]):=by
 go_enter Tryz.func143,Tryz.ntmps143
 go_wp2_with fail
 refine cx (zgP x hx _) fun w1 hq=>?_
 go_wp2_with fail
 refine cx (zgP y hy _) fun w2 hq2=>?_
 go_wp2_with fail
 go_quiet (fail)
 go_wp2
 go_ret3
 exact⟨rfl,Below.drewN (hq.trans (hq2.mono hq.size)) _⟩
theorem zad(x y:Int)(hx:lim x=false)(hy:lim y=false)(w:World) :
  CR 142 #[.string ⟨(Lib.itoa x).toArray⟩,.string ⟨(Lib.itoa y).toArray⟩] w (.int .i64 0):=by
 have h1:=zW x hx
 have h2:=zW y hy
 refine(zmH (Lib.itoa x) (Lib.itoa y) (by omega) (by omega) w).mono ?_
 rintro e w'⟨rfl,hq⟩
 exact⟨zcS (by rw[zcp,hx,zcp,hy];rfl),hq⟩
def ztS(w:World)(g:Nat)(x y:Value)(wr:World):Prop :=
 ∃ (p q:Int),x=.int .i64 p∧y=.int .i64 q∧p.natAbs≤1000000000000000000∧q.natAbs≤1000000000000000000∧Nat.gcd p.natAbs q.natAbs=g∧Q w wr∧Env wr
theorem zqK(p:Int):max p (-p)=p.natAbs:=by omega
theorem zd0(x y:Int)(hx:(Lib.itoa x).length≤18)(hy:(Lib.itoa y).length≤18)(w:World)(hE:Env w) :
  CR 94 #[.string ⟨(Lib.itoa x).toArray⟩,.string ⟨(Lib.itoa y).toArray⟩] w (.tuple #[.string ⟨(Lib.itoa (Nat.gcd x.natAbs y.natAbs:Int)).toArray⟩,.int .i64 0]):=by
 have hx1:=zaI hx
 have hy1:=zaI hy
 go_enter Tryz.func94,Tryz.ntmps94
 go_wp2_with fail
 refine cx (zad x y (zbz hx) (zbz hy) _) fun w1 hq=>?_
 go_wp2_with fail
 refine cx (zbU x y hx hy _) fun w2 hq2=>?_
 have hQ2:Q w w2:=hq.trans (hq2.mono hq.size)
 have hE2:=hE.q hQ2
 go_wp2_with fail
 go_loopw [7,8] (ztS w (Nat.gcd x.natAbs y.natAbs)) (fun _ y _=>(intOf y).natAbs)
 case atStart=>exact⟨x,y,rfl,rfl,by omega,by omega,rfl,hQ2,hE2⟩
 case round =>
  obtain⟨p,q,rfl,rfl,hp,hq,hg,hQ,hEr⟩:=hrel
  have HG:=LH hg;clear hg
  by_cases h0:q=0
  ·subst h0
   have hmx:=zqK p
   go_wp2_with fail
   refine cx (zav _ (by omega) (by omega) _ hEr) fun w3 hq3=>?_
   go_wp2
   go_ret2
   have:=HG.out
   simp at this
   exact⟨by rw[← this];rfl,hQ.trans (hq3.mono hQ.size)⟩
  ·have hne:(q == 0)=false:=by simp;omega
   have h1:(p.tmod q).natAbs=p.natAbs % q.natAbs:=Int.natAbs_tmod ..
   have hm:=Nat.mod_lt p.natAbs (show 0<q.natAbs by omega)
   go_wp2_with fail
   go_quiet (fail)
   go_wp2
   go_roundw
   case rel=>exact⟨q,p.tmod q,rfl,rfl,by omega,by omega,by rw[← HG.out,h1,← ziB],Below.drewN hQ _,hEr.drewN _⟩
   case measure=>simp only[intOf];omega
theorem zhz(x y:Int)(hx:(Lib.itoa x).length+(Lib.itoa y).length≤18)(w:World)(hE:Env w) :
  CR 76 #[.string ⟨(Lib.itoa x).toArray⟩,.string ⟨(Lib.itoa y).toArray⟩] w (.tuple #[.string ⟨(Lib.itoa (x*y)).toArray⟩,.int .i64 0]):=by
 have hx1:=zaI (x:=x) (by omega)
 have hb:=zmr hx
 go_enter Tryz.func76,Tryz.ntmps76
 go_wp2_with fail
 refine cx (zad x y (zbz (by omega)) (zbz (by omega)) _) fun w1 hq=>?_
 go_wp2_with fail
 refine cx (zbU x y (by omega) (by omega) _) fun w2 hq2=>?_
 have hQ2:Q w w2:=hq.trans (hq2.mono hq.size)
 have hE2:=hE.q hQ2
 go_wp2_with fail
 refine cx (zav _ (by omega) (by omega) _ hE2) fun w3 hq3=>?_
 go_wp2
 go_ret2
 exact⟨rfl,hQ2.trans (hq3.mono hQ2.size)⟩
theorem zhA(x y:Int)(hx:(Lib.itoa x).length≤18)(hy:(Lib.itoa y).length≤18)(w:World)(hE:Env w) :
  CR 128 #[.string ⟨(Lib.itoa x).toArray⟩,.string ⟨(Lib.itoa y).toArray⟩] w (.tuple #[.string ⟨(Lib.itoa (x+y)).toArray⟩,.int .i64 0]):=by
 have hx1:=zaI hx
 have hy1:=zaI hy
 go_enter Tryz.func128,Tryz.ntmps128
 go_wp2_with fail
 refine cx (zad x y (zbz hx) (zbz hy) _) fun w1 hq=>?_
 go_wp2_with fail
 refine cx (zbU x y hx hy _) fun w2 hq2=>?_
 have hQ2:Q w w2:=hq.trans (hq2.mono hq.size)
 have hE2:=hE.q hQ2
 go_wp2_with fail
 refine cx (zav _ (by omega) (by omega) _ hE2) fun w3 hq3=>?_
 go_wp2
 go_ret2
 exact⟨rfl,hQ2.trans (hq3.mono hQ2.size)⟩
theorem zhx(x y:Int)(hx:(Lib.itoa x).length≤18)(hy:(Lib.itoa y).length≤18)(w:World)(hE:Env w) :
  CR 131 #[.string ⟨(Lib.itoa x).toArray⟩,.string ⟨(Lib.itoa y).toArray⟩] w (.tuple #[.string ⟨(Lib.itoa (x - y)).toArray⟩,.int .i64 0]):=by
 have hx1:=zaI hx
 have hy1:=zaI hy
 go_enter Tryz.func131,Tryz.ntmps131
 go_wp2_with fail
 refine cx (zad x y (zbz hx) (zbz hy) _) fun w1 hq=>?_
 go_wp2_with fail
 refine cx (zbU x y hx hy _) fun w2 hq2=>?_
 have hQ2:Q w w2:=hq.trans (hq2.mono hq.size)
 have hE2:=hE.q hQ2
 go_wp2_with fail
 refine cx (zav _ (by omega) (by omega) _ hE2) fun w3 hq3=>?_
 go_wp2
 go_ret2
 exact⟨rfl,hQ2.trans (hq3.mono hQ2.size)⟩
theorem ze8(x y:Int)(hx:(Lib.itoa x).length≤18)(hy:(Lib.itoa y).length≤18)(w:World) :
  CR 155 #[.string ⟨(Lib.itoa x).toArray⟩,.string ⟨(Lib.itoa y).toArray⟩] w (.tuple #[.int .i64 (Lib.compareInt x y),.int .i64 0]):=by
 go_enter Tryz.func155,Tryz.ntmps155
 go_wp2_with fail
 refine cx (zad x y (zbz hx) (zbz hy) _) fun w1 hq=>?_
 go_wp2_with fail
 refine cx (zbU x y hx hy _) fun w2 hq2=>?_
 have hQ2:Q w w2:=hq.trans (hq2.mono hq.size)
 go_wp2_with fail
 refine(Tryz.cmp_Compare_int _ _ _).mono ?_
 rintro e w3⟨rfl,rfl⟩
 go_wp2
 go_ret2
 exact⟨rfl,hQ2⟩
theorem zaV(x y:Int)(hx:(Lib.itoa x).length≤18)(hy:(Lib.itoa y).length≤18)(hy0:y≠0)(w:World)(hE:Env w) :
  CR 95 #[.string ⟨(Lib.itoa x).toArray⟩,.string ⟨(Lib.itoa y).toArray⟩] w (.tuple #[.string ⟨(Lib.itoa (x.fdiv y)).toArray⟩,.string ⟨(Lib.itoa (x.fmod y)).toArray⟩,.int .i64 0]):=by
 have hx1:=zaI hx
 have hy1:=zaI hy
 have hn:(Lib.itoa y == [48])=false:=by
  rw[beq_eq_false_iff_ne,← zR];exact fun e=>hy0 (zaj e)
 have hy2:(y == 0)=false:=by simpa using hy0
 have hd1:=zn9 x y
 have hm1:=zrz x y hy0
 have hd2:-1000000000000000000≤x.tdiv y:=by omega
 have hd3:x.tdiv y≤1000000000000000000:=by omega
 have hd4:-1000000000000000000≤x.tmod y:=by omega
 have hd5:x.tmod y≤1000000000000000000:=by omega
 obtain⟨f1,f2,f3⟩:=zm7 (x:=x) hy0
 have F1:=LH f1
 have F2:=LH f2
 have F3:=LH f3
 clear f1 f2 f3 hd1 hm1
 go_enter Tryz.func95,Tryz.ntmps95
 go_wp2_with fail
 refine cx (zad x y (zbz hx) (zbz hy) _) fun w1 hq=>?_
 go_wp2_with fail
 refine cx (zbU x y hx hy _) fun w2 hq2=>?_
 have hQ2:Q w w2:=hq.trans (hq2.mono hq.size)
 have hE2:=hE.q hQ2
 go_wp2_with fail
 go_quiet (fail)
 go_wp2_with fail
 ·have ht:x.tmod y=0:=by assumption
  have HF:=LH (F1.out ht)
  refine cx (zav _ (by omega) (by omega) _ (hE2.drewN _)) fun w3 hq3=>?_
  have hQ3:Q w w3:=hQ2.trans ((Below.drewN (Below.refl _ w2) _).trans hq3 |>.mono hQ2.size)
  go_wp2_with fail
  refine cx (zav _ (by omega) (by omega) _ (hE.q hQ3)) fun w4 hq4=>?_
  go_wp2
  go_ret3
  exact⟨by rw[HF.out.1,HF.out.2];first | rfl | (rw[ht];rfl),hQ3.trans (hq4.mono hQ3.size)⟩
 ·have ht:¬ x.tmod y=0:=by assumption
  have hs:(x.tmod y != 0)=true∧(!decide (x.tmod y<0) == decide (y<0))=true:=by assumption
  have HF:=LH (F3.out ht (by simpa using hs.2))
  clear hs
  refine cx (zav _ (by omega) (by omega) _ (hE2.drewN _)) fun w3 hq3=>?_
  have hQ3:Q w w3:=hQ2.trans ((Below.drewN (Below.refl _ w2) _).trans hq3 |>.mono hQ2.size)
  go_wp2_with fail
  refine cx (zav _ (by omega) (by omega) _ (hE.q hQ3)) fun w4 hq4=>?_
  go_wp2
  go_ret3
  exact⟨by rw[HF.out.1,HF.out.2];rfl,hQ3.trans (hq4.mono hQ3.size)⟩
 ·have ht:¬ x.tmod y=0:=by assumption
  have hs:(x.tmod y != 0)=false∨(!decide (x.tmod y<0) == decide (y<0))=false:=by assumption
  have HF:=LH (F2.out ht (hs.elim (fun h=>absurd h (by simp[ht])) (fun h=>by simpa using h)))
  clear hs
  refine cx (zav _ (by omega) (by omega) _ (hE2.drewN _)) fun w3 hq3=>?_
  have hQ3:Q w w3:=hQ2.trans ((Below.drewN (Below.refl _ w2) _).trans hq3 |>.mono hQ2.size)
  go_wp2_with fail
  refine cx (zav _ (by omega) (by omega) _ (hE.q hQ3)) fun w4 hq4=>?_
  go_wp2
  go_ret3
  exact⟨by rw[HF.out.1,HF.out.2];rfl,hQ3.trans (hq4.mono hQ3.size)⟩
end
end Go.Proofs.YthdpnkkddhcacaaGreatDoor
namespace Kp
open Go.Lib (decDigits itoa nDigits)
theorem zll(s:Str):zaB (s.take (zbl s))∧zbl s≤s.length∧zbl s≤9∧(zbl s=s.length∨zbl s=9∨zat (at0 s (zbl s))=false):=by
 suffices h:∃ k,zaB (s.take k)∧k≤s.length∧k≤9∧(k=s.length∨k=9∨zat (at0 s k)=false) by
  obtain⟨k,h1,h2,h3,h4⟩:=h
  have:=zji h1 h2 h3 h4
  rw[this];exact⟨h1,h2,h3,h4⟩
 have step:∀ n k,9 - k=n→zaB (s.take k)→k≤s.length→k≤9→∃ k,zaB (s.take k)∧k≤s.length∧k≤9∧(k=s.length∨k=9∨zat (at0 s k)=false):=by
  intro n
  induction n with
  | zero=>intro k hk h1 h2 h3;exact⟨k,h1,h2,h3,.inr (.inl (by omega))⟩
  | succ n ih =>
   intro k hk h1 h2 h3
   by_cases hl:k=s.length
   ·exact⟨k,h1,h2,h3,.inl hl⟩
   ·cases hd:zat (at0 s k)with
    | false=>exact⟨k,h1,h2,h3,.inr (.inr hd)⟩
    | true=>exact ih (k+1) (by omega) (h1.snoc (by omega) hd) (by omega) (by omega)
 exact step 9 0 rfl (by simp[zaB]) (by omega) (by omega)
theorem zfX{s:Str}(h:zb8 s=true):s=decDigits (zb5 s)++zy s∧zb5 s<100000000∧(zy s=[]∨zat (at0 (zy s) 0)=false):=by
 obtain⟨h1,h2,h3,h4⟩:=zll s
 have hk:=h
 unfold zb8 at hk
 rw[decide_eq_true_eq]at hk
 obtain⟨k0,k8,kz⟩:=hk
 have en:zb5 s=nval (s.take (zbl s)):=by unfold zb5;rw[h];rfl
 have er:zy s=s.drop (zbl s):=by unfold zy;rw[h];rfl
 have hne:s.take (zbl s)≠[]:=by
  intro e
  have:=congrArg List.length e
  rw[List.length_take,List.length_nil]at this;omega
 have hd:decDigits (zb5 s)=s.take (zbl s):=by
  rw[en]
  refine zbg _ hne h1 (fun e=>?_)
  have h00:at0 s 0=48:=by
   cases s with
   | nil=>simp at h2;omega
   | cons c r =>
    rw[show zbl (c::r)=(zbl (c::r) - 1)+1 by omega,List.take_succ_cons]at e
    simp only[List.head?_cons,Option.some.injEq]at e
    exact e
  have h1':zbl s=1:=by
   by_cases h':1<zbl s
   ·exact absurd ⟨h',h00⟩ kz
   ·omega
  rw[h1']
  cases s with
  | nil=>simp at h2;omega
  | cons c r=>simp only[at0,List.getD_cons_zero]at h00;subst h00;rfl
 refine⟨by rw[hd,er,List.take_append_drop],?_,?_⟩
 ·have h8:zb5 s<10 ^ 8:=by
   rw[en];exact Nat.lt_of_lt_of_le (zeZ h1) (Nat.pow_le_pow_right (by decide) k8)
  simpa using h8
 ·rw[er]
  rcases h4 with e | e | e
  ·left;rw[e];exact List.drop_length
  ·omega
  ·right
   have:at0 (s.drop (zbl s)) 0=at0 s (zbl s):=by
    unfold at0;rw[List.getD_eq_getElem?_getD,List.getElem?_drop,← List.getD_eq_getElem?_getD];rfl
   rw[this];exact e
theorem zlm{n:Nat}{r:Str}(hn:n<100000000)(hr:r=[]∨zat (at0 r 0)=false) :
  zb8 (decDigits n++r)=true∧zb5 (decDigits n++r)=n∧zy (decDigits n++r)=r:=by
 have hlen:(decDigits n).length≤8:=(zl n 8 (by decide)).2 (by simpa using hn)
 have hpos:=List.length_pos_iff.2 (zax n)
 have htake:(decDigits n++r).take (decDigits n).length=decDigits n:=List.take_left
 have hdrop:(decDigits n++r).drop (decDigits n).length=r:=List.drop_left
 have hpre:zbl (decDigits n++r)=(decDigits n).length:=by
  refine zji (by rw[htake];exact zac n) (by simp) (by omega) ?_
  rcases hr with rfl | hr
  ·left;simp
  ·right;right
   have:at0 (decDigits n++r) (decDigits n).length=at0 r 0:=by
    unfold at0
    rw[List.getD_eq_getElem?_getD,List.getElem?_append_right (Nat.le_refl _),Nat.sub_self,← List.getD_eq_getElem?_getD]
   rw[this];exact hr
 have hz:(decDigits n).length=1∨at0 (decDigits n++r) 0≠48:=by
  by_cases h0:0<n
  ·right
   intro e
   have hh:=zdH n h0
   cases hd:decDigits n with
   | nil=>exact zax n hd
   | cons c t =>
    rw[hd]at e hh
    simp only[at0,List.cons_append,List.getD_cons_zero]at e
    subst e;exact hh rfl
  ·left
   have:n=0:=by omega
   subst this;simp[decDigits]
 obtain⟨a,b,c⟩:=zlj hpre (by omega) hlen hz
 exact⟨a,by rw[b,htake,zae],by rw[c,hdrop]⟩
def zcx(a:Str):Option (Int × Int) :=
 if zb8 (zo a)=false∨(a.head? = some 45∧zb5 (zo a)=0)then none
 else if zy (zo a)=[]then some (if a.head? = some 45 then -(zb5 (zo a):Int)else zb5 (zo a),1)
 else if at0 (zy (zo a)) 0≠47 then none
 else if zb8 (zaY (zy (zo a)) 1)=false∨zy (zaY (zy (zo a)) 1)≠[]∨zb5 (zaY (zy (zo a)) 1)<2∨Nat.gcd (zb5 (zo a)) (zb5 (zaY (zy (zo a)) 1))≠1 then none
 else some (if a.head? = some 45 then -(zb5 (zo a):Int)else zb5 (zo a),zb5 (zaY (zy (zo a)) 1))
def zS(q:Rat):Prop:=q.num.natAbs<100000000∧q.den<100000000
theorem zfj{a:Str}(h:a.head? = some 45):a=45::zo a:=by
 cases a with
 | nil=>cases h
 | cons c r=>simp only[List.head?_cons,Option.some.injEq]at h;subst h;simp[zo]
theorem zbi{a:Str}(h:a.head?≠some 45):zo a=a:=by unfold zo;rw[if_neg h]
theorem zhq{a:Str}{n d:Int}(h:zcx a=some (n,d)):∃ q:Rat,a=ze q∧q.num=n∧(q.den:Int)=d∧zS q:=by
 unfold zcx at h
 split at h
 ·cases h
 ·next hc1 =>
  simp only[not_or,Bool.not_eq_false,not_and]at hc1
  obtain⟨ok1,hz⟩:=hc1
  obtain⟨e1,b1,_⟩:=zfX ok1
  have hit:∀ r,zo a=decDigits (zb5 (zo a))++r→a=itoa (if a.head? = some 45 then -(zb5 (zo a):Int)else zb5 (zo a))++r:=by
   intro r er
   by_cases hm:a.head? = some 45
   ·rw[if_pos hm]
    have hz':=hz hm
    rw[itoa_neg (by omega),show (-(zb5 (zo a):Int)).natAbs=zb5 (zo a) by omega,List.cons_append,← er]
    exact zfj hm
   ·rw[if_neg hm,itoa_nonneg (by omega),Int.toNat_natCast,← er]
    exact(zbi hm).symm
  have hab:((if a.head? = some 45 then -(zb5 (zo a):Int)else zb5 (zo a)):Int).natAbs=zb5 (zo a):=by split <;> omega
  split at h
  ·next hr =>
   simp only[Option.some.injEq,Prod.mk.injEq]at h
   have ea:=hit [] (by rw[← hr];exact e1)
   rw[List.append_nil]at ea
   rw[h.1]at ea hab
   refine⟨⟨n,1,by decide,by simp⟩,?_,rfl,by simpa using h.2,by rw[zS];exact⟨by simp only;omega,by simp⟩⟩
   unfold ze;rw[if_pos rfl];exact ea
  ·next hr =>
   split at h
   ·cases h
   ·next h47 =>
    split at h
    ·cases h
    ·next hc2 =>
     simp only[not_or,Bool.not_eq_false,Classical.not_not]at hc2
     obtain⟨ok2,r2,d2,hg⟩:=hc2
     obtain⟨e2,b2,_⟩:=zfX ok2
     simp only[Option.some.injEq,Prod.mk.injEq]at h
     have h47':at0 (zy (zo a)) 0=47:=Classical.not_not.1 h47
     have er:zy (zo a)=47::decDigits (zb5 (zaY (zy (zo a)) 1)):=by
      rw[r2,List.append_nil]at e2
      rw[← e2]
      cases hh:zy (zo a)with
      | nil=>exact absurd hh hr
      | cons c t=>rw[hh]at h47';simp only[at0,List.getD_cons_zero]at h47';subst h47';rfl
     have ea:=hit _ e1
     rw[er]at ea
     rw[h.1]at ea hab
     refine⟨⟨n,zb5 (zaY (zy (zo a)) 1),by omega,by rw[Nat.Coprime,hab];exact hg⟩,?_,rfl,h.2,⟨by simp only;omega,by simp only;omega⟩⟩
     unfold ze;simp only;rw[if_neg (by omega)];exact ea
theorem zbC(z:Int)(r:Str):(itoa z++r).head? = some 45 ↔ z<0:=by
 by_cases h:z<0
 ·rw[itoa_neg h];simp[h]
 ·rw[itoa_nonneg (by omega),head?_app _ _ (zax _)]
  simp only[h,iff_false]
  exact zB _
theorem zdx(z:Int)(r:Str):zo (itoa z++r)=decDigits z.natAbs++r:=by
 by_cases h:z<0
 ·rw[itoa_neg h];simp[zo]
 ·rw[zbi (fun e=>h ((zbC z r).1 e)),itoa_nonneg (by omega),show z.toNat=z.natAbs by omega]
theorem ziS(z:Int)(r:Str):(if (itoa z++r).head? = some 45 then -(z.natAbs:Int)else z.natAbs)=z:=by
 by_cases h:z<0
 ·rw[if_pos ((zbC z r).2 h)];omega
 ·rw[if_neg (fun e=>h ((zbC z r).1 e))];omega
theorem zny{q:Rat}(h:zS q):zcx (ze q)=some (q.num,(q.den:Int)):=by
 obtain⟨h1,h2⟩:=h
 unfold ze
 split
 ·next hd =>
  have e:=zdx q.num []
  have es:=ziS q.num []
  have hh:=zbC q.num []
  rw[List.append_nil,List.append_nil]at e
  rw[List.append_nil]at es hh
  obtain⟨a,b,c⟩:=zlm (r:=[]) h1 (.inl rfl)
  rw[List.append_nil]at a b c
  unfold zcx
  rw[e,a,b,c,if_neg (by
   rintro(x | ⟨x,y⟩);· cases x
   ·have:=hh.1 x;omega),if_pos rfl,es,hd];rfl
 ·next hd =>
  have e:=zdx q.num (47::decDigits q.den)
  have es:=ziS q.num (47::decDigits q.den)
  have hh:=zbC q.num (47::decDigits q.den)
  obtain⟨a,b,c⟩:=zlm (r:=47::decDigits q.den) h1 (.inr rfl)
  obtain⟨a2,b2,c2⟩:=zlm (r:=[]) h2 (.inl rfl)
  rw[List.append_nil]at a2 b2 c2
  have ed:zaY (47::decDigits q.den) 1=decDigits q.den:=rfl
  have hnz:=q.den_nz
  unfold zcx
  rw[e,a,b,c,if_neg (by
   rintro(x | ⟨x,y⟩);· cases x
   ·have:=hh.1 x;omega),if_neg (by simp),if_neg (by simp[at0]),ed,a2,b2,c2,if_neg,es]
  rintro(x | x | x | x)
  ·cases x
  ·exact x rfl
  ·omega
  ·exact x q.reduced
theorem zgK{q:Rat}(h:¬ zS q):zcx (ze q)=none:=by
 cases hn:zcx (ze q)with
 | none=>rfl
 | some p =>
  obtain⟨q',e,_,_,hs⟩:=zhq (n:=p.1) (d:=p.2) (by rw[hn])
  rw[← zaS e]at hs
  exact absurd hs h
theorem zpb{q:Rat}(h:zS q):zah q=false:=by
 unfold zah
 rw[zck (x:=q.num) (by have:=h.1;omega),zck (x:=(q.den:Int)) (by have:=h.2;omega)];rfl
theorem zmq{a:Str}(h:zdO a≠0):zcx a=none:=by
 cases hn:zcx a with
 | none=>rfl
 | some p =>
  obtain⟨q',e,_,_,hs⟩:=zhq (n:=p.1) (d:=p.2) (by rw[hn])
  rw[e,zdN,zpb hs]at h
  exact absurd rfl h
theorem zln(s:Str):zb5 s<100000000:=by
 cases h:zb8 s with
 | true=>exact(zfX h).2.1
 | false=>unfold zb5;rw[h];simp
theorem zor{s:Str}(h:zb8 s=true):s≠[]:=by
 intro e;subst e;simp[zb8,zbl]at h
theorem zjh(s:Str):(zy s).length≤s.length:=by
 unfold zy;split
 ·simp
 ·simp
end Kp
namespace Kp
open Go.Lib (decDigits itoa nDigits)
theorem zfJ(n:Int)(g:Nat){B:Int}(h:(n.natAbs:Int)≤B):-B≤n.tdiv g∧n.tdiv g≤B:=by
 have:=zn9 n g
 omega
theorem zc7(n:Int)(k:Nat)(hk:0<k):(Rat.divInt n k).num=n.tdiv (Nat.gcd n.natAbs k)∧((Rat.divInt n k).den:Int)=(k:Int) / (Nat.gcd n.natAbs k:Int):=by
 have e:Rat.divInt n k=Rat.normalize n k (by omega):=by rw[Rat.normalize_eq_mkRat,Rat.divInt_ofNat]
 rw[e,Rat.normalize_eq]
 simp only
 have h1:((Nat.gcd n.natAbs k:Nat):Int) ∣ n:=by rw[← Int.dvd_natAbs];exact Int.natCast_dvd_natCast.2 (Nat.gcd_dvd_left ..)
 refine⟨?_,?_⟩
 ·rw[Int.tdiv_eq_ediv_of_dvd h1]
 ·rw[Int.natCast_ediv]
theorem zd8(n:Int)(k:Nat)(hk:0<k) :
  ze (Rat.divInt n k)=if (k:Int) / (Nat.gcd n.natAbs k:Int)=1 then itoa (n.tdiv (Nat.gcd n.natAbs k))else itoa (n.tdiv (Nat.gcd n.natAbs k))++47::itoa ((k:Int) / (Nat.gcd n.natAbs k:Int)):=by
 obtain⟨h1,h2⟩:=zc7 n k hk
 unfold ze
 rw[zA,h1,h2]
 by_cases h:(Rat.divInt n k).den=1
 ·rw[if_pos h,if_pos (by omega)]
 ·rw[if_neg h,if_neg (by omega)]
end Kp
namespace Kp
open Go.Lib (decDigits itoa nDigits)
def zcG(s:Str):Nat:=if 1<(s.takeWhile zat).length∧at0 s 0=48 then 0 else(s.takeWhile zat).length
theorem zeu{s:Str}{k:Nat}(h:zaB (s.take k))(hk:k≤s.length)(stop:k=s.length∨zat (at0 s k)=false):(s.takeWhile zat).length=k:=by
 by_cases hl:k=s.length
 ·rw[hl,List.take_length]at h
  rw[zbt _ _ h,hl]
 ·have hd:=stop.resolve_left hl
  have hlt:k<s.length:=by omega
  have e:s=s.take k++at0 s k::s.drop (k+1):=by
   rw[zcs s k hlt,← List.drop_eq_getElem_cons,List.take_append_drop]
  have:=zbZ zat (at0 s k) (s.drop (k+1)) hd (s.take k) h
  rw[← e]at this
  rw[this,List.length_take];omega
theorem zh9(s:Str):(s.takeWhile zat).length≤s.length:=(List.takeWhile_sublist _).length_le
theorem zjW{s:Str}(h:(s.takeWhile zat).length=s.length):zaB s:=by
 have e:s.takeWhile zat=s:=(List.takeWhile_prefix _).eq_of_length h
 intro c hc
 have:=List.all_takeWhile (p:=zat) (l:=s)
 rw[List.all_eq_true,e]at this
 exact this c hc
theorem zmQ{s:Str}:(zcG s≠0∧¬ zcG s<s.length) ↔ (s≠[]∧zaB s∧(s.head? = some 48→s=[48])):=by
 have hle:=zh9 s
 constructor
 ·rintro⟨h0,h1⟩
  unfold zcG at h0 h1
  split at h0
  ·exact absurd rfl h0
  ·next hz =>
   rw[if_neg hz]at h1
   have hfull:(s.takeWhile zat).length=s.length:=by omega
   have hne:s≠[]:=by intro e;subst e;simp at h0
   refine⟨hne,zjW hfull,fun e=>?_⟩
   rw[zb6 hne]at e
   have e48:=Option.some.inj e
   have h1':s.length=1:=by
    by_cases hc:1<s.length
    ·exact absurd ⟨by omega,e48⟩ hz
    ·have:=List.length_pos_iff.2 hne;omega
   obtain⟨c,rfl⟩:=List.length_eq_one_iff.1 h1'
   simp only[at0,List.getD_cons_zero]at e48;rw[e48]
 ·rintro⟨hne,hd,hz⟩
  have hl:(s.takeWhile zat).length=s.length:=by rw[zbt _ _ hd]
  have hpos:=List.length_pos_iff.2 hne
  have e:zcG s=s.length:=by
   unfold zcG
   rw[if_neg,hl]
   rintro⟨a,b⟩
   rw[hl]at a
   have:=hz (by rw[zb6 hne,b])
   rw[this]at a;simp at a
  omega
theorem zjB(n:Str):zdi n=11 ↔ (zcG (zo n)=0∨zcG (zo n)<(zo n).length∨(n.head? = some 45∧zo n=[48])):=by
 have hg:=zmQ (s:=zo n)
 constructor
 ·intro h
  by_cases h0:zcG (zo n)=0
  ·exact .inl h0
  ·by_cases h1:zcG (zo n)<(zo n).length
   ·exact .inr (.inl h1)
   ·obtain⟨a,b,c⟩:=hg.1 ⟨h0,h1⟩
    right;right
    by_cases h48:(zo n).head? = some 48
    ·have e:=c h48
     refine⟨?_,e⟩
     by_cases hm:n.head? = some 45
     ·exact hm
     ·rw[zbi hm]at e
      rw[e,zqU]at h;cases h
    ·rw[zb6 a]at h48
     rw[zmL a (fun x=>h48 (by rw[x])) b]at h
     split at h <;> cases h
 ·intro h
  by_cases hA:zo n=[]
  ·exact zkz hA
  ·by_cases hD:zaB (zo n)
   ·by_cases hz:at0 (zo n) 0=48∧n≠[48]
    ·exact zmK hA hz.1 hz.2
    ·exfalso
     have hgood:zo n≠[]∧zaB (zo n)∧((zo n).head? = some 48→zo n=[48]):=by
      refine⟨hA,hD,fun e=>?_⟩
      rw[zb6 hA]at e
      have:n=[48]:=Classical.byContradiction fun x=>hz ⟨Option.some.inj e,x⟩
      rw[this];rfl
     obtain⟨a,b⟩:=hg.2 hgood
     rcases h with h | h | ⟨h,h2⟩
     ·exact a h
     ·exact b h
     ·have:n=[48]:=Classical.byContradiction fun x=>hz ⟨by rw[h2];rfl,x⟩
      rw[this]at h;simp at h
   ·exact zjC hD
theorem ztz(d:Str):(zdi d=11∨d.head? = some 45∨d=[48]∨d=[49]) ↔ (zcG d=0∨zcG d<d.length∨d=[48]∨d=[49]):=by
 by_cases hm:d.head? = some 45
 ·have hdig:zcG d=0:=by
   cases d with
   | nil=>cases hm
   | cons c r =>
    simp only[List.head?_cons,Option.some.injEq]at hm
    subst hm
    have h45:zat 45=false:=by decide
    unfold zcG
    rw[List.takeWhile_cons,h45];simp
  simp[hm,hdig]
 ·have:=zjB d
  rw[zbi hm]at this
  rw[this]
  simp only[hm,false_and,or_false,false_or]
  constructor
  ·rintro((a | a) | a | a)
   ·exact .inl a
   ·exact .inr (.inl a)
   ·exact .inr (.inr (.inl a))
   ·exact .inr (.inr (.inr a))
  ·rintro(a | a | a | a)
   ·exact .inl (.inl a)
   ·exact .inl (.inr a)
   ·exact .inr (.inl a)
   ·exact .inr (.inr a)
theorem zoj(a:Str):zm1 a ↔ ((zcG (zo (zu a))=0∨zcG (zo (zu a))<(zo (zu a)).length∨((zu a).head? = some 45∧zo (zu a)=[48])) ∨
  (zG a=true∧(zcG (zar a)=0∨zcG (zar a)<(zar a).length∨zar a=[48]∨zar a=[49]))):=by
 unfold zm1
 rw[zjB,ztz]
theorem zfU(a:Str):(zu a).length≤a.length:=(List.takeWhile_sublist _).length_le
theorem zf7(a:Str):(zar a).length≤a.length:=by
 unfold zar
 have h1:(a.dropWhile (·≠47)).length≤a.length:=(List.dropWhile_sublist _).length_le
 rw[List.length_tail]
 have h2:(a.dropWhile (fun x=>decide (x≠47))).length≤a.length:=h1
 omega
theorem zcX(n:Int)(k:Nat)(hk:0<k) :
  ze (Rat.divInt n k)=if (k:Int).fdiv (Nat.gcd n.natAbs k:Int)=1 then itoa (n.fdiv (Nat.gcd n.natAbs k:Int))else itoa (n.fdiv (Nat.gcd n.natAbs k:Int))++47::itoa ((k:Int).fdiv (Nat.gcd n.natAbs k:Int)):=by
 rw[zd8 n k hk,Int.fdiv_eq_ediv_of_nonneg _ (by omega),Int.fdiv_eq_ediv_of_nonneg _ (by omega)]
 have h1:((Nat.gcd n.natAbs k:Nat):Int) ∣ n:=by rw[← Int.dvd_natAbs];exact Int.natCast_dvd_natCast.2 (Nat.gcd_dvd_left ..)
 rw[Int.tdiv_eq_ediv_of_dvd h1]
theorem zmS{a b:Nat}(h:a≤b):(decDigits a).length≤(decDigits b).length:=by
 have p:=List.length_pos_iff.2 (zax b)
 have:=(zl b _ p).1 (Nat.le_refl _)
 exact(zl a _ p).2 (by omega)
theorem zlw{a b:Nat}{m:Nat}(h:a≤b)(hb:(itoa (b:Int)).length≤m):(itoa (a:Int)).length≤m:=by
 rw[← zA]at *;exact Nat.le_trans (zmS h) hb
theorem znD(z:Int):(itoa z).length=(decDigits z.natAbs).length+(if z<0 then 1 else 0):=by
 by_cases h:z<0
 ·rw[itoa_neg h,if_pos h,List.length_cons]
 ·rw[itoa_nonneg (by omega),if_neg h,show z.toNat=z.natAbs by omega];rfl
theorem zgQ(n:Int)(g:Nat)(hn:(itoa n).length≤18):(itoa (n.fdiv g)).length≤1000:=by
 have h:=zaI hn
 have hb:(n.fdiv g).natAbs≤1000000000000000000:=by
  rw[Int.fdiv_eq_ediv_of_nonneg _ (by omega)]
  by_cases hg:g=0
  ·subst hg;simp
  ·have h1:n / (g:Int)≤n.natAbs:=Int.le_trans (Int.ediv_le_ediv (by omega) (show n≤(n.natAbs:Int) by omega)) (Int.ediv_le_self _ (by omega))
   have h2:-(n.natAbs:Int)≤n / (g:Int):=by
    rw[Int.le_ediv_iff_mul_le (by omega)]
    have:(n.natAbs:Int)*1≤n.natAbs*g:=Int.mul_le_mul_of_nonneg_left (by omega) (by omega)
    rw[Int.neg_mul];omega
   omega
 have h19:(decDigits (n.fdiv g).natAbs).length≤19:=(zl _ 19 (by decide)).2 (by
  have:(10:Nat) ^ 19=10000000000000000000:=by decide
  omega)
 rw[znD];split <;> omega
end Kp
namespace Kp
open Go.Lib (decDigits itoa nDigits)
def zkQ(n r:Nat):Prop:=r*r≤n∧n<(r+1)*(r+1)
theorem zkQ.unique{n r s:Nat}(h:zkQ n r)(k:zkQ n s):r=s:=by
 obtain⟨h1,h2⟩:=h
 obtain⟨k1,k2⟩:=k
 by_cases a:r<s
 ·have:(r+1)*(r+1)≤s*s:=Nat.mul_le_mul a a
  omega
 ·by_cases b:s<r
  ·have:(s+1)*(s+1)≤r*r:=Nat.mul_le_mul b b
   omega
  ·omega
def zq(n:Nat):Nat:=if h:n=0 then 0 else if (2*zq (n / 4)+1)*(2*zq (n / 4)+1)≤n then 2*zq (n / 4)+1 else 2*zq (n / 4)
termination_by n
decreasing_by all_goals omega
theorem zc4(n:Nat):zkQ n (zq n):=by
 induction n using Nat.strongRecOn with
 | _ n ih =>
  rw[zq]
  split
  ·next h=>subst h;exact⟨Nat.le_refl _,by decide⟩
  ·next h =>
   obtain⟨h1,h2⟩:=ih (n / 4) (by omega)
   generalize zq (n / 4)=s at *
   have e1:2*s*(2*s)=4*(s*s):=by grind
   have e2:(2*s+1+1)*(2*s+1+1)=4*((s+1)*(s+1)):=by grind
   split
   ·next hc=>exact⟨hc,by omega⟩
   ·next hc=>exact⟨by omega,by omega⟩
theorem zem{n r:Nat}(h:zkQ n r):zq n=r:=(zc4 n).unique h
theorem zgR(n:Nat):zq n≤n:=by
 have h:=(zc4 n).1
 by_cases h0:zq n=0
 ·omega
 ·have:zq n*1≤zq n*zq n:=Nat.mul_le_mul_left _ (by omega)
  omega
theorem zjv{n:Nat}(h:n<2):zq n=n:=by
 have:n=0∨n=1:=by omega
 rcases this with rfl | rfl
 ·exact zem ⟨by decide,by decide⟩
 ·exact zem ⟨by decide,by decide⟩
theorem zey:∀ (f x:Nat),x<2 ^ f→x<2 ^ Go.Lib.bitLenAux f x
 | 0,x,h=>h
 | f+1,x,h=>by
  simp only[Go.Lib.bitLenAux]
  split
  ·next h0=>subst h0;decide
  ·have:=zey f (x / 2) (by rw[Nat.pow_succ]at h;omega)
   rw[Nat.add_comm,Nat.pow_succ];omega
theorem bitLenAux_le:∀ (f k x:Nat),x<2 ^ k→Go.Lib.bitLenAux f x≤k
 | 0,_,_,_=>Nat.zero_le _
 | f+1,k,x,h=>by
  simp only[Go.Lib.bitLenAux]
  split
  ·omega
  ·cases k with
   | zero=>simp at h;omega
   | succ k =>
    have:=bitLenAux_le f k (x / 2) (by rw[Nat.pow_succ]at h;omega)
    omega
theorem zlr{x:Nat}(h:x<18446744073709551616):x<2 ^ Go.Lib.bitLen x:=zey 64 x h
theorem bitLen_le{x k:Nat}(h:x<2 ^ k):Go.Lib.bitLen x≤k:=bitLenAux_le 64 k x h
theorem zrB{n:Nat}(h:n<18446744073709551616):n<(2 ^ ((Go.Lib.bitLen n+1) / 2)+1)*(2 ^ ((Go.Lib.bitLen n+1) / 2)+1):=by
 have h1:=zlr h
 have h2:2 ^ Go.Lib.bitLen n≤2 ^ ((Go.Lib.bitLen n+1) / 2+(Go.Lib.bitLen n+1) / 2):=Nat.pow_le_pow_right (by decide) (by omega)
 rw[Nat.pow_add]at h2
 generalize 2 ^ ((Go.Lib.bitLen n+1) / 2)=r at *
 have:(r+1)*(r+1)=r*r+2*r+1:=by grind
 omega
theorem zjg{n r:Nat}(hr:0<r):n<((r+n / r) / 2+1)*((r+n / r) / 2+1):=by
 have h1:n<r*(n / r+1):=Nat.lt_mul_div_succ n hr
 generalize n / r=q at *
 generalize hs:(r+q) / 2=s at *
 have h2:r+q+1≤2*(s+1):=by omega
 have h3:4*(r*(q+1))≤(r+(q+1))*(r+(q+1)):=by
  rcases Nat.le_total r (q+1)with h | h
  ·obtain⟨d,hd⟩:=Nat.exists_eq_add_of_le h
   rw[hd]
   have:(r+(r+d))*(r+(r+d))=4*(r*(r+d))+d*d:=by grind
   omega
  ·obtain⟨d,hd⟩:=Nat.exists_eq_add_of_le h
   rw[hd]
   have:(q+1+d+(q+1))*(q+1+d+(q+1))=4*((q+1+d)*(q+1))+d*d:=by grind
   omega
 have h4:(r+(q+1))*(r+(q+1))≤(2*(s+1))*(2*(s+1)):=Nat.mul_le_mul (by omega) (by omega)
 have h5:(2*(s+1))*(2*(s+1))=4*((s+1)*(s+1)):=by grind
 omega
theorem zfW{n r:Nat}(hr:0<r)(hge:n<(r+1)*(r+1))(h:r≤(r+n / r) / 2):zkQ n r:=by
 refine⟨?_,hge⟩
 have h1:r≤n / r:=by omega
 have:=(Nat.le_div_iff_mul_le hr).1 h1
 exact this
def zbj(p:Nat)(c m:Nat):Nat × Nat:=if _h:2≤p∧0<m∧m % (p*p)=0 then zbj p (c*p) (m / (p*p))else(c,m)
termination_by m
decreasing_by
 obtain⟨h1,h2,_⟩:=_h
 exact Nat.div_lt_self h2 (by have:2*2≤p*p:=Nat.mul_le_mul h1 h1;omega)
theorem zfk{p c m:Nat}(hp:2≤p)(hm:0<m)(h:m % (p*p)=0):zbj p c m=zbj p (c*p) (m / (p*p)):=by
 rw[zbj,dif_pos ⟨hp,hm,h⟩]
theorem zgh{p c m:Nat}(h:m % (p*p)≠0):zbj p c m=(c,m):=by
 rw[zbj,dif_neg (fun x=>h x.2.2)]
theorem ziP(p:Nat)(hp:2≤p):∀ (m c:Nat),0<m→0<c →
  0<(zbj p c m).2∧0<(zbj p c m).1∧(zbj p c m).1*(zbj p c m).1*(zbj p c m).2=c*c*m∧(zbj p c m).2 % (p*p)≠0∧(zbj p c m).2≤m:=by
 intro m
 induction m using Nat.strongRecOn with
 | _ m ih =>
  intro c hm hc
  by_cases h:m % (p*p)=0
  ·rw[zfk hp hm h]
   have hpp:4≤p*p:=Nat.mul_le_mul hp hp
   have hdvd:=Nat.div_mul_cancel (Nat.dvd_of_mod_eq_zero h)
   have hlt:m / (p*p)<m:=Nat.div_lt_self hm (by omega)
   have hpos:0<m / (p*p):=by
    rcases Nat.eq_zero_or_pos (m / (p*p))with h0 | h0
    ·rw[h0,Nat.zero_mul]at hdvd;omega
    ·exact h0
   obtain⟨a,b,d,e,f⟩:=ih (m / (p*p)) hlt (c*p) hpos (Nat.mul_pos hc (by omega))
   refine⟨a,b,?_,e,by omega⟩
   rw[d]
   conv=>rhs;rw[← hdvd]
   grind
  ·rw[zgh h];exact⟨hm,hc,rfl,h,Nat.le_refl _⟩
def zK:List Nat:=[2,3,5,7,11,13,17,19,23,29,31,37,41,43,47,53,59,61,67,71,73,79,83,89,97]
def zL:List Nat→Nat × Nat→Nat × Nat
 | [],x=>x
 | p::r,x=>zL r (zbj p x.1 x.2)
theorem ziR(l m:List Nat):∀ x,zL (l++m) x=zL m (zL l x):=by
 induction l with
 | nil=>intro x;rfl
 | cons p r ih=>intro x;exact ih _
theorem zcf:∀ (l:List Nat),(∀ p∈l,2≤p)→∀ (c m:Nat),0<m→0<c →
  0<(zL l (c,m)).2∧0<(zL l (c,m)).1∧(zL l (c,m)).1*(zL l (c,m)).1*(zL l (c,m)).2=c*c*m∧(zL l (c,m)).2≤m
 | [],_,c,m,hm,hc=>⟨hm,hc,rfl,Nat.le_refl _⟩
 | p::r,h,c,m,hm,hc=>by
  obtain⟨a,b,d,_,f⟩:=ziP p (h p (by simp)) m c hm hc
  obtain⟨a2,b2,d2,f2⟩:=zcf r (fun q hq=>h q (by simp[hq])) (zbj p c m).1 (zbj p c m).2 a b
  exact⟨a2,b2,by rw[← d];exact d2,Nat.le_trans f2 f⟩
theorem zdR:∀ p∈zK,2≤p:=by decide
def zbc(m:Nat):Nat × Nat :=
 if zq (zL zK (1,m)).2*zq (zL zK (1,m)).2=(zL zK (1,m)).2 then((zL zK (1,m)).1*zq (zL zK (1,m)).2,1)
 else zL zK (1,m)
theorem zfm{m:Nat}(hm:0<m):0<(zbc m).2∧0<(zbc m).1∧(zbc m).1*(zbc m).1*(zbc m).2=m∧(zbc m).2≤m:=by
 obtain⟨a,b,d,f⟩:=zcf zK zdR 1 m hm (by decide)
 unfold zbc
 generalize (zL zK (1,m)).1=c at *
 generalize hl:(zL zK (1,m)).2=l at *
 split
 ·next h =>
  refine⟨Nat.one_pos,Nat.mul_pos b ?_,?_,by omega⟩
  ·by_cases h0:zq l=0
   ·rw[h0]at h;omega
   ·omega
  ·simp only
   generalize zq l=r at *
   subst h
   grind
 ·refine⟨by rw[hl];exact a,?_,?_,by rw[hl];exact f⟩
  ·have:=zcf zK zdR 1 m hm (by decide);exact this.2.1
  ·have:=zcf zK zdR 1 m hm (by decide)
   rw[this.2.2.1];simp
theorem zqi{c l m:Nat}(h:c*c*l=m)(hl:0<l):c*c≤m:=by
 have:c*c*1≤c*c*l:=Nat.mul_le_mul_left _ hl
 omega
structure StripInv (n c l:Nat):Prop where
 pos:0<l
 cpos:0<c
 eq:c*c*l=n
theorem StripInv.bounds{n c l:Nat}(h:StripInv n c l):l≤n∧c≤n:=by
 have h1:=h.eq
 have h2:=h.pos
 have h3:=h.cpos
 have h4:1*l≤c*c*l:=Nat.mul_le_mul_right _ (Nat.mul_pos h3 h3)
 have h5:c*1≤c*c:=Nat.mul_le_mul_left _ h3
 have h6:c*c*1≤c*c*l:=Nat.mul_le_mul_left _ h2
 omega
theorem StripInv.next{n c l p:Nat}(h:StripInv n c l)(hp:2≤p)(hd:l % (p*p)=0):StripInv n (c*p) (l / (p*p)):=by
 have hdvd:=Nat.div_mul_cancel (Nat.dvd_of_mod_eq_zero hd)
 have h2:=h.pos
 refine⟨?_,Nat.mul_pos h.cpos (by omega),?_⟩
 ·rcases Nat.eq_zero_or_pos (l / (p*p))with h0 | h0
  ·rw[h0,Nat.zero_mul]at hdvd;omega
  ·exact h0
 ·rw[← h.eq]
  conv=>rhs;rw[← hdvd]
  grind
theorem StripInv.small{n c l:Nat}(h:StripInv n c l)(hn:n<100000000000000000):c<1000000000:=by
 have h1:=zqi h.eq h.pos
 rcases Nat.lt_or_ge c 1000000000 with a | a
 ·exact a
 ·have:1000000000*1000000000≤c*c:=Nat.mul_le_mul a a
  omega
theorem zdm(k:Nat)(h:k<zK.length)(x:Nat × Nat):zL (zK.take (k+1)) x=zbj (zK.getD k 0) (zL (zK.take k) x).1 (zL (zK.take k) x).2:=by
 rw[List.take_succ_eq_append_getElem h,ziR,List.getD_eq_getElem?_getD,List.getElem?_eq_getElem h];rfl
end Kp
