/-
  Walks: the package integer where numbers are short.; Walks: the functions of package integer at short numerals (at most 18 bytes).; Numbers with short parts, as the program reads them (nativeOf): just the numbers whose parts have at most 8 digits.; Fractions and their numerals.; The form of a number's string, as rational.cut asks it.; Square roots of integers, and the normal form of the root of an integer: plain mathematics.
-/
import Derived.Test.YtbpghkdadajomaaGreatDoorH01
import Derived.Test.YtbpghkdadajomaaGreatDoorH00
import Derived.Test.YtbpghkdadajomaaGreatDoorHMA
import Derived.Lib.BitFns
set_option maxRecDepth 100000
set_option maxHeartbeats 800000
namespace Go.Proofs.YtbpghkdadajomaaGreatDoor
section
open Go.RowKit Kp
theorem zr6{c:UInt8}(h:c≠48):((c.toNat:Int) == 48)=false:=by rw[zmh];simpa using h
theorem zgM(w:World) :
  Calls Tryz.prog 157 #[.string ⟨[48].toArray⟩] w fun e w'=>e=.returned (.int .i64 0)∧Q w w':=by
 go_enter Tryz.func157,Tryz.ntmps157
 go_wp2_with (first | (go_at_call 115;refine(zS [48] _).mono ?_;rintro e w1 ⟨rfl,rfl⟩;rw[show zq [48]=[48]from rfl])|(go_at_call 220;refine(zdJ [48] (by decide) _).mono ?_;rintro e w1 ⟨rfl,hq⟩;rw[show zoi [48]=[]from by decide]))
 go_ret
 exact⟨rfl,hq⟩
theorem zck(a:Str)(hl:a.length≤1000000000)(w:World) :
  Calls Tryz.prog 157 #[.string ⟨a.toArray⟩] w fun e w'=>e=.returned (.int .i64 (zdm a))∧Q w w':=by
 by_cases h48:a=[48]
 ·subst h48;rw[zpK];exact zgM w
 have hu:=zif a
 by_cases hn:zq a=[]
 ·rw[zjP hn]
  go_enter Tryz.func157,Tryz.ntmps157
  go_wp2_with (go_at_call 115;refine(zS a _).mono ?_;rintro e w1 ⟨rfl,rfl⟩;rw[hn])
  go_ret
  exact⟨rfl,Below.refl _ _⟩
 have hne:(zq a).isEmpty=false:=by simpa using hn
 have hpos:0<(zq a).length:=List.length_pos_iff.2 hn
 by_cases h0:at0 (zq a) 0=48
 ·rw[zlU hn h0 h48]
  have hb:((((at0 (zq a) 0).toNat:Int)) == 48)=true:=by rw[h0];rfl
  clear h0
  go_enter Tryz.func157,Tryz.ntmps157
  go_wp2_with (go_at_call 115;refine(zS a _).mono ?_;rintro e w1 ⟨rfl,rfl⟩)
  go_ret
  exact⟨rfl,Below.refl _ _⟩
 have hb:=zr6 h0
 by_cases hd:zaR (zq a)
 ·have hN:(zoi (zq a)).isEmpty=true:=by rw[(zlC _).2 hd];rfl
  have HC:=LH (zlV hn h0 hd)
  clear h0 hd
  by_cases h3:300<(zq a).length
  all_goals
   go_enter Tryz.func157,Tryz.ntmps157
   go_wp2_with (first | (go_at_call 115;refine(zS a _).mono ?_;rintro e w1 ⟨rfl,rfl⟩)|(go_at_call 220;refine(zdJ _ (by omega) _).mono ?_;rintro e w1 ⟨rfl,hq⟩))
   go_ret
   refine⟨zcU ?_,hq⟩
   rw[HC.out]
   simp[h3]
 ·have hN:(zoi (zq a)).isEmpty=false:=by
   have:zoi (zq a)≠[]:=fun e=>hd ((zlC _).1 e)
   simpa using this
  rw[ziX hd]
  clear h0 hd
  go_enter Tryz.func157,Tryz.ntmps157
  go_wp2_with (first | (go_at_call 115;refine(zS a _).mono ?_;rintro e w1 ⟨rfl,rfl⟩)|(go_at_call 220;refine(zdJ _ (by omega) _).mono ?_;rintro e w1 ⟨rfl,hq⟩))
  go_ret
  exact⟨rfl,hq⟩
theorem zlS(a b:Str)(ha:a.length≤1000000000)(hb:b.length≤1000000000)(w:World) :
  Calls Tryz.prog 99 #[.string ⟨a.toArray⟩,.string ⟨b.toArray⟩] w fun e w'=>e=.returned (.int .i64 (if zdm a=0 then zdm b else zdm a))∧Q w w':=by
 by_cases h:zdm a=0
 ·have H:=LH h
  have hb2:(zdm a == 0)=true:=by simpa using h
  have hb3:(zdm a != 0)=false:=by simpa using h
  clear h
  go_enter Tryz.func99,Tryz.ntmps99
  go_wp2_with fail
  refine(zck a ha _).mono ?_
  rintro e w1⟨rfl,hq⟩
  go_wp2_with fail
  refine(zck b hb _).mono ?_
  rintro e w2⟨rfl,hq2⟩
  go_wp2
  go_ret
  exact⟨zcU (by first | rfl | (rw[if_pos H.out];rfl)),hq.trans (hq2.mono hq.size)⟩
 ·have H:=LH h
  have hb2:(zdm a == 0)=false:=by simpa using h
  have hb3:(zdm a != 0)=true:=by simpa using h
  clear h
  go_enter Tryz.func99,Tryz.ntmps99
  go_wp2_with fail
  refine(zck a ha _).mono ?_
  rintro e w1⟨rfl,hq⟩
  go_wp2_with fail
  go_ret
  exact⟨zcU (by first | rfl | (rw[if_neg H.out];rfl)),hq⟩
theorem zbT(x y:Int)(hx:(Lib.itoa x).length≤18)(hy:(Lib.itoa y).length≤18)(w:World) :
  Calls Tryz.prog 100 #[.string ⟨(Lib.itoa x).toArray⟩,.string ⟨(Lib.itoa y).toArray⟩,.int .i64 18] w fun e w'=>e=.returned (.tuple #[.int .i64 x,.int .i64 y,.bool true])∧Q w w':=by
 go_enter Tryz.func100,Tryz.ntmps100
 go_wp2_with fail
 refine(zgE x hx _).mono ?_
 rintro e w1⟨rfl,hq⟩
 go_wp2_with fail
 refine(zgE y hy _).mono ?_
 rintro e w2⟨rfl,hq2⟩
 go_wp2_with fail
 go_quiet (fail)
 go_wp2
 go_ret3
 exact⟨rfl,Below.drewN (hq.trans (hq2.mono hq.size)) _⟩
end
section
open Go.RowKit Kp
theorem zab(x y:Int)(hx:lim x=false)(hy:lim y=false)(w:World) :
  Calls Tryz.prog 99 #[.string ⟨(Lib.itoa x).toArray⟩,.string ⟨(Lib.itoa y).toArray⟩] w fun e w'=>e=.returned (.int .i64 0)∧Q w w':=by
 have h1:=zac x hx
 have h2:=zac y hy
 refine(zlS (Lib.itoa x) (Lib.itoa y) (by omega) (by omega) w).mono ?_
 rintro e w'⟨rfl,hq⟩
 exact⟨zcU (by rw[zcl,hx,zcl,hy];rfl),hq⟩
def zsg(w:World)(g:Nat)(x y:Value)(wr:World):Prop :=
 ∃ (p q:Int),x=.int .i64 p∧y=.int .i64 q∧p.natAbs≤1000000000000000000∧q.natAbs≤1000000000000000000∧Nat.gcd p.natAbs q.natAbs=g∧Q w wr∧Env wr
theorem zpz(p:Int):max p (-p)=p.natAbs:=by omega
theorem zd7(x y:Int)(hx:(Lib.itoa x).length≤18)(hy:(Lib.itoa y).length≤18)(w:World)(hE:Env w) :
  Calls Tryz.prog 89 #[.string ⟨(Lib.itoa x).toArray⟩,.string ⟨(Lib.itoa y).toArray⟩] w fun e w'=>e=.returned (.tuple #[.string ⟨(Lib.itoa (Nat.gcd x.natAbs y.natAbs:Int)).toArray⟩,.int .i64 0])∧Q w w':=by
 have hx1:=zaF hx
 have hy1:=zaF hy
 go_enter Tryz.func89,Tryz.ntmps89
 go_wp2_with fail
 refine(zab x y (zbu hx) (zbu hy) _).mono ?_
 rintro e w1⟨rfl,hq⟩
 go_wp2_with fail
 refine(zbT x y hx hy _).mono ?_
 rintro e w2⟨rfl,hq2⟩
 have hQ2:Q w w2:=hq.trans (hq2.mono hq.size)
 have hE2:=hE.q hQ2
 go_wp2_with fail
 go_loopw [7,8] (zsg w (Nat.gcd x.natAbs y.natAbs)) (fun _ y _=>(intOf y).natAbs)
 case atStart=>exact⟨x,y,rfl,rfl,by omega,by omega,rfl,hQ2,hE2⟩
 case round =>
  obtain⟨p,q,rfl,rfl,hp,hq,hg,hQ,hEr⟩:=hrel
  have HG:=LH hg;clear hg
  by_cases h0:q=0
  ·subst h0
   have hmx:=zpz p
   go_wp2_with fail
   refine(zaq _ (by omega) (by omega) _ hEr).mono ?_
   rintro e w3⟨rfl,hq3⟩
   go_wp2
   go_ret2
   have:=HG.out
   simp at this
   exact⟨by rw[← this];rfl,hQ.trans (hq3.mono hQ.size)⟩
  ·have hne:(q == 0)=false:=by simp;omega
   have h1:(p.tmod q).natAbs=p.natAbs % q.natAbs:=Int.natAbs_tmod ..
   have hm:=Nat.mod_lt p.natAbs (show 0<q.natAbs by omega)
   go_wp2_with fail
   go_quiet (fail)
   go_wp2
   go_roundw
   case rel=>exact⟨q,p.tmod q,rfl,rfl,by omega,by omega,by rw[← HG.out,h1,← zkY],Below.drewN hQ _,hEr.drewN _⟩
   case measure=>simp only[intOf];omega
theorem zhk(x y:Int)(hx:(Lib.itoa x).length+(Lib.itoa y).length≤18)(w:World)(hE:Env w) :
  Calls Tryz.prog 52 #[.string ⟨(Lib.itoa x).toArray⟩,.string ⟨(Lib.itoa y).toArray⟩] w fun e w'=>e=.returned (.tuple #[.string ⟨(Lib.itoa (x*y)).toArray⟩,.int .i64 0])∧Q w w':=by
 have hx1:=zaF (x:=x) (by omega)
 have hb:=zlF hx
 go_enter Tryz.func52,Tryz.ntmps52
 go_wp2_with fail
 refine(zab x y (zbu (by omega)) (zbu (by omega)) _).mono ?_
 rintro e w1⟨rfl,hq⟩
 go_wp2_with fail
 refine(zbT x y (by omega) (by omega) _).mono ?_
 rintro e w2⟨rfl,hq2⟩
 have hQ2:Q w w2:=hq.trans (hq2.mono hq.size)
 have hE2:=hE.q hQ2
 go_wp2_with fail
 refine(zaq _ (by omega) (by omega) _ hE2).mono ?_
 rintro e w3⟨rfl,hq3⟩
 go_wp2
 go_ret2
 exact⟨rfl,hQ2.trans (hq3.mono hQ2.size)⟩
theorem zhl(x y:Int)(hx:(Lib.itoa x).length≤18)(hy:(Lib.itoa y).length≤18)(w:World)(hE:Env w) :
  Calls Tryz.prog 78 #[.string ⟨(Lib.itoa x).toArray⟩,.string ⟨(Lib.itoa y).toArray⟩] w fun e w'=>e=.returned (.tuple #[.string ⟨(Lib.itoa (x+y)).toArray⟩,.int .i64 0])∧Q w w':=by
 have hx1:=zaF hx
 have hy1:=zaF hy
 go_enter Tryz.func78,Tryz.ntmps78
 go_wp2_with fail
 refine(zab x y (zbu hx) (zbu hy) _).mono ?_
 rintro e w1⟨rfl,hq⟩
 go_wp2_with fail
 refine(zbT x y hx hy _).mono ?_
 rintro e w2⟨rfl,hq2⟩
 have hQ2:Q w w2:=hq.trans (hq2.mono hq.size)
 have hE2:=hE.q hQ2
 go_wp2_with fail
 refine(zaq _ (by omega) (by omega) _ hE2).mono ?_
 rintro e w3⟨rfl,hq3⟩
 go_wp2
 go_ret2
 exact⟨rfl,hQ2.trans (hq3.mono hQ2.size)⟩
theorem zhi(x y:Int)(hx:(Lib.itoa x).length≤18)(hy:(Lib.itoa y).length≤18)(w:World)(hE:Env w) :
  Calls Tryz.prog 49 #[.string ⟨(Lib.itoa x).toArray⟩,.string ⟨(Lib.itoa y).toArray⟩] w fun e w'=>e=.returned (.tuple #[.string ⟨(Lib.itoa (x - y)).toArray⟩,.int .i64 0])∧Q w w':=by
 have hx1:=zaF hx
 have hy1:=zaF hy
 go_enter Tryz.func49,Tryz.ntmps49
 go_wp2_with fail
 refine(zab x y (zbu hx) (zbu hy) _).mono ?_
 rintro e w1⟨rfl,hq⟩
 go_wp2_with fail
 refine(zbT x y hx hy _).mono ?_
 rintro e w2⟨rfl,hq2⟩
 have hQ2:Q w w2:=hq.trans (hq2.mono hq.size)
 have hE2:=hE.q hQ2
 go_wp2_with fail
 refine(zaq _ (by omega) (by omega) _ hE2).mono ?_
 rintro e w3⟨rfl,hq3⟩
 go_wp2
 go_ret2
 exact⟨rfl,hQ2.trans (hq3.mono hQ2.size)⟩
theorem ze9(x y:Int)(hx:(Lib.itoa x).length≤18)(hy:(Lib.itoa y).length≤18)(w:World) :
  Calls Tryz.prog 107 #[.string ⟨(Lib.itoa x).toArray⟩,.string ⟨(Lib.itoa y).toArray⟩] w fun e w'=>e=.returned (.tuple #[.int .i64 (Lib.compareInt x y),.int .i64 0])∧Q w w':=by
 go_enter Tryz.func107,Tryz.ntmps107
 go_wp2_with fail
 refine(zab x y (zbu hx) (zbu hy) _).mono ?_
 rintro e w1⟨rfl,hq⟩
 go_wp2_with fail
 refine(zbT x y hx hy _).mono ?_
 rintro e w2⟨rfl,hq2⟩
 have hQ2:Q w w2:=hq.trans (hq2.mono hq.size)
 go_wp2_with fail
 refine(Tryz.cmp_Compare_int _ _ _).mono ?_
 rintro e w3⟨rfl,rfl⟩
 go_wp2
 go_ret2
 exact⟨rfl,hQ2⟩
theorem zaT(x y:Int)(hx:(Lib.itoa x).length≤18)(hy:(Lib.itoa y).length≤18)(hy0:y≠0)(w:World)(hE:Env w) :
  Calls Tryz.prog 90 #[.string ⟨(Lib.itoa x).toArray⟩,.string ⟨(Lib.itoa y).toArray⟩] w fun e w'=>e=.returned (.tuple #[.string ⟨(Lib.itoa (x.fdiv y)).toArray⟩,.string ⟨(Lib.itoa (x.fmod y)).toArray⟩,.int .i64 0])∧Q w w':=by
 have hx1:=zaF hx
 have hy1:=zaF hy
 have hn:(Lib.itoa y == [48])=false:=by
  rw[beq_eq_false_iff_ne,← zN];exact fun e=>hy0 (zan e)
 have hy2:(y == 0)=false:=by simpa using hy0
 have hd1:=zm1 x y
 have hm1:=zqh x y hy0
 have hd2:-1000000000000000000≤x.tdiv y:=by omega
 have hd3:x.tdiv y≤1000000000000000000:=by omega
 have hd4:-1000000000000000000≤x.tmod y:=by omega
 have hd5:x.tmod y≤1000000000000000000:=by omega
 obtain⟨f1,f2,f3⟩:=zme (x:=x) hy0
 have F1:=LH f1
 have F2:=LH f2
 have F3:=LH f3
 clear f1 f2 f3 hd1 hm1
 go_enter Tryz.func90,Tryz.ntmps90
 go_wp2_with fail
 refine(zab x y (zbu hx) (zbu hy) _).mono ?_
 rintro e w1⟨rfl,hq⟩
 go_wp2_with fail
 refine(zbT x y hx hy _).mono ?_
 rintro e w2⟨rfl,hq2⟩
 have hQ2:Q w w2:=hq.trans (hq2.mono hq.size)
 have hE2:=hE.q hQ2
 go_wp2_with fail
 go_quiet (fail)
 go_wp2_with fail
 ·have ht:x.tmod y=0:=by assumption
  have HF:=LH (F1.out ht)
  refine(zaq _ (by omega) (by omega) _ (hE2.drewN _)).mono ?_
  rintro e w3⟨rfl,hq3⟩
  have hQ3:Q w w3:=hQ2.trans ((Below.drewN (Below.refl _ w2) _).trans hq3 |>.mono hQ2.size)
  go_wp2_with fail
  refine(zaq _ (by omega) (by omega) _ (hE.q hQ3)).mono ?_
  rintro e w4⟨rfl,hq4⟩
  go_wp2
  go_ret3
  exact⟨by rw[HF.out.1,HF.out.2];first | rfl | (rw[ht];rfl),hQ3.trans (hq4.mono hQ3.size)⟩
 ·have ht:¬ x.tmod y=0:=by assumption
  have hs:(x.tmod y != 0)=true∧(!decide (x.tmod y<0) == decide (y<0))=true:=by assumption
  have HF:=LH (F3.out ht (by simpa using hs.2))
  clear hs
  refine(zaq _ (by omega) (by omega) _ (hE2.drewN _)).mono ?_
  rintro e w3⟨rfl,hq3⟩
  have hQ3:Q w w3:=hQ2.trans ((Below.drewN (Below.refl _ w2) _).trans hq3 |>.mono hQ2.size)
  go_wp2_with fail
  refine(zaq _ (by omega) (by omega) _ (hE.q hQ3)).mono ?_
  rintro e w4⟨rfl,hq4⟩
  go_wp2
  go_ret3
  exact⟨by rw[HF.out.1,HF.out.2];rfl,hQ3.trans (hq4.mono hQ3.size)⟩
 ·have ht:¬ x.tmod y=0:=by assumption
  have hs:(x.tmod y != 0)=false∨(!decide (x.tmod y<0) == decide (y<0))=false:=by assumption
  have HF:=LH (F2.out ht (hs.elim (fun h=>absurd h (by simp[ht])) (fun h=>by simpa using h)))
  clear hs
  refine(zaq _ (by omega) (by omega) _ (hE2.drewN _)).mono ?_
  rintro e w3⟨rfl,hq3⟩
  have hQ3:Q w w3:=hQ2.trans ((Below.drewN (Below.refl _ w2) _).trans hq3 |>.mono hQ2.size)
  go_wp2_with fail
  refine(zaq _ (by omega) (by omega) _ (hE.q hQ3)).mono ?_
  rintro e w4⟨rfl,hq4⟩
  go_wp2
  go_ret3
  exact⟨by rw[HF.out.1,HF.out.2];rfl,hQ3.trans (hq4.mono hQ3.size)⟩
end
end Go.Proofs.YtbpghkdadajomaaGreatDoor
namespace Kp
open Go.Lib (decDigits itoa nDigits)
theorem zkG(s:Str):zaR (s.take (zbg s))∧zbg s≤s.length∧zbg s≤9∧(zbg s=s.length∨zbg s=9∨zaD (at0 s (zbg s))=false):=by
 suffices h:∃ k,zaR (s.take k)∧k≤s.length∧k≤9∧(k=s.length∨k=9∨zaD (at0 s k)=false) by
  obtain⟨k,h1,h2,h3,h4⟩:=h
  have:=ziL h1 h2 h3 h4
  rw[this];exact⟨h1,h2,h3,h4⟩
 have step:∀ n k,9 - k=n→zaR (s.take k)→k≤s.length→k≤9→∃ k,zaR (s.take k)∧k≤s.length∧k≤9∧(k=s.length∨k=9∨zaD (at0 s k)=false):=by
  intro n
  induction n with
  | zero=>intro k hk h1 h2 h3;exact⟨k,h1,h2,h3,.inr (.inl (by omega))⟩
  | succ n ih =>
   intro k hk h1 h2 h3
   by_cases hl:k=s.length
   ·exact⟨k,h1,h2,h3,.inl hl⟩
   ·cases hd:zaD (at0 s k)with
    | false=>exact⟨k,h1,h2,h3,.inr (.inr hd)⟩
    | true=>exact ih (k+1) (by omega) (h1.snoc (by omega) hd) (by omega) (by omega)
 exact step 9 0 rfl (by simp[zaR]) (by omega) (by omega)
theorem zfZ{s:Str}(h:zb5 s=true):s=decDigits (zb2 s)++zx s∧zb2 s<100000000∧(zx s=[]∨zaD (at0 (zx s) 0)=false):=by
 obtain⟨h1,h2,h3,h4⟩:=zkG s
 have hk:=h
 unfold zb5 at hk
 rw[decide_eq_true_eq]at hk
 obtain⟨k0,k8,kz⟩:=hk
 have en:zb2 s=nval (s.take (zbg s)):=by unfold zb2;rw[h];rfl
 have er:zx s=s.drop (zbg s):=by unfold zx;rw[h];rfl
 have hne:s.take (zbg s)≠[]:=by
  intro e
  have:=congrArg List.length e
  rw[List.length_take,List.length_nil]at this;omega
 have hd:decDigits (zb2 s)=s.take (zbg s):=by
  rw[en]
  refine zbz _ hne h1 (fun e=>?_)
  have h00:at0 s 0=48:=by
   cases s with
   | nil=>simp at h2;omega
   | cons c r =>
    rw[show zbg (c::r)=(zbg (c::r) - 1)+1 by omega,List.take_succ_cons]at e
    simp only[List.head?_cons,Option.some.injEq]at e
    exact e
  have h1':zbg s=1:=by
   by_cases h':1<zbg s
   ·exact absurd ⟨h',h00⟩ kz
   ·omega
  rw[h1']
  cases s with
  | nil=>simp at h2;omega
  | cons c r=>simp only[at0,List.getD_cons_zero]at h00;subst h00;rfl
 refine⟨by rw[hd,er,List.take_append_drop],?_,?_⟩
 ·have h8:zb2 s<10 ^ 8:=by
   rw[en];exact Nat.lt_of_lt_of_le (zhA h1) (Nat.pow_le_pow_right (by decide) k8)
  simpa using h8
 ·rw[er]
  rcases h4 with e | e | e
  ·left;rw[e];exact List.drop_length
  ·omega
  ·right
   have:at0 (s.drop (zbg s)) 0=at0 s (zbg s):=by
    unfold at0;rw[List.getD_eq_getElem?_getD,List.getElem?_drop,← List.getD_eq_getElem?_getD];rfl
   rw[this];exact e
theorem zkH{n:Nat}{r:Str}(hn:n<100000000)(hr:r=[]∨zaD (at0 r 0)=false) :
  zb5 (decDigits n++r)=true∧zb2 (decDigits n++r)=n∧zx (decDigits n++r)=r:=by
 have hlen:(decDigits n).length≤8:=(zn n 8 (by decide)).2 (by simpa using hn)
 have hpos:=List.length_pos_iff.2 (zau n)
 have htake:(decDigits n++r).take (decDigits n).length=decDigits n:=List.take_left
 have hdrop:(decDigits n++r).drop (decDigits n).length=r:=List.drop_left
 have hpre:zbg (decDigits n++r)=(decDigits n).length:=by
  refine ziL (by rw[htake];exact zat n) (by simp) (by omega) ?_
  rcases hr with rfl | hr
  ·left;simp
  ·right;right
   have:at0 (decDigits n++r) (decDigits n).length=at0 r 0:=by
    unfold at0
    rw[List.getD_eq_getElem?_getD,List.getElem?_append_right (Nat.le_refl _),Nat.sub_self,← List.getD_eq_getElem?_getD]
   rw[this];exact hr
 have hz:(decDigits n).length=1∨at0 (decDigits n++r) 0≠48:=by
  by_cases h0:0<n
  ·right
   intro e
   have hh:=zdM n h0
   cases hd:decDigits n with
   | nil=>exact zau n hd
   | cons c t =>
    rw[hd]at e hh
    simp only[at0,List.cons_append,List.getD_cons_zero]at e
    subst e;exact hh rfl
  ·left
   have:n=0:=by omega
   subst this;simp[decDigits]
 obtain⟨a,b,c⟩:=zkE hpre (by omega) hlen hz
 exact⟨a,by rw[b,htake,zay],by rw[c,hdrop]⟩
def zcs(a:Str):Option (Int × Int) :=
 if zb5 (zq a)=false∨(a.head? = some 45∧zb2 (zq a)=0)then none
 else if zx (zq a)=[]then some (if a.head? = some 45 then -(zb2 (zq a):Int)else zb2 (zq a),1)
 else if at0 (zx (zq a)) 0≠47 then none
 else if zb5 (za2 (zx (zq a)) 1)=false∨zx (za2 (zx (zq a)) 1)≠[]∨zb2 (za2 (zx (zq a)) 1)<2∨Nat.gcd (zb2 (zq a)) (zb2 (za2 (zx (zq a)) 1))≠1 then none
 else some (if a.head? = some 45 then -(zb2 (zq a):Int)else zb2 (zq a),zb2 (za2 (zx (zq a)) 1))
def zO(q:Rat):Prop:=q.num.natAbs<100000000∧q.den<100000000
theorem zgY{a:Str}(h:a.head? = some 45):a=45::zq a:=by
 cases a with
 | nil=>cases h
 | cons c r=>simp only[List.head?_cons,Option.some.injEq]at h;subst h;simp[zq]
theorem zcr{a:Str}(h:a.head?≠some 45):zq a=a:=by unfold zq;rw[if_neg h]
theorem zhc{a:Str}{n d:Int}(h:zcs a=some (n,d)):∃ q:Rat,a=za q∧q.num=n∧(q.den:Int)=d∧zO q:=by
 unfold zcs at h
 split at h
 ·cases h
 ·next hc1 =>
  simp only[not_or,Bool.not_eq_false,not_and]at hc1
  obtain⟨ok1,hz⟩:=hc1
  obtain⟨e1,b1,_⟩:=zfZ ok1
  have hit:∀ r,zq a=decDigits (zb2 (zq a))++r→a=itoa (if a.head? = some 45 then -(zb2 (zq a):Int)else zb2 (zq a))++r:=by
   intro r er
   by_cases hm:a.head? = some 45
   ·rw[if_pos hm]
    have hz':=hz hm
    rw[itoa_neg (by omega),show (-(zb2 (zq a):Int)).natAbs=zb2 (zq a) by omega,List.cons_append,← er]
    exact zgY hm
   ·rw[if_neg hm,itoa_nonneg (by omega),Int.toNat_natCast,← er]
    exact(zcr hm).symm
  have hab:((if a.head? = some 45 then -(zb2 (zq a):Int)else zb2 (zq a)):Int).natAbs=zb2 (zq a):=by split <;> omega
  split at h
  ·next hr =>
   simp only[Option.some.injEq,Prod.mk.injEq]at h
   have ea:=hit [] (by rw[← hr];exact e1)
   rw[List.append_nil]at ea
   rw[h.1]at ea hab
   refine⟨⟨n,1,by decide,by simp⟩,?_,rfl,by simpa using h.2,by rw[zO];exact⟨by simp only;omega,by simp⟩⟩
   unfold za;rw[if_pos rfl];exact ea
  ·next hr =>
   split at h
   ·cases h
   ·next h47 =>
    split at h
    ·cases h
    ·next hc2 =>
     simp only[not_or,Bool.not_eq_false,Classical.not_not]at hc2
     obtain⟨ok2,r2,d2,hg⟩:=hc2
     obtain⟨e2,b2,_⟩:=zfZ ok2
     simp only[Option.some.injEq,Prod.mk.injEq]at h
     have h47':at0 (zx (zq a)) 0=47:=Classical.not_not.1 h47
     have er:zx (zq a)=47::decDigits (zb2 (za2 (zx (zq a)) 1)):=by
      rw[r2,List.append_nil]at e2
      rw[← e2]
      cases hh:zx (zq a)with
      | nil=>exact absurd hh hr
      | cons c t=>rw[hh]at h47';simp only[at0,List.getD_cons_zero]at h47';subst h47';rfl
     have ea:=hit _ e1
     rw[er]at ea
     rw[h.1]at ea hab
     refine⟨⟨n,zb2 (za2 (zx (zq a)) 1),by omega,by rw[Nat.Coprime,hab];exact hg⟩,?_,rfl,h.2,⟨by simp only;omega,by simp only;omega⟩⟩
     unfold za;simp only;rw[if_neg (by omega)];exact ea
theorem zcP(z:Int)(r:Str):(itoa z++r).head? = some 45 ↔ z<0:=by
 by_cases h:z<0
 ·rw[itoa_neg h];simp[h]
 ·rw[itoa_nonneg (by omega),head?_app _ _ (zau _)]
  simp only[h,iff_false]
  exact zB _
theorem zfv(z:Int)(r:Str):zq (itoa z++r)=decDigits z.natAbs++r:=by
 by_cases h:z<0
 ·rw[itoa_neg h];simp[zq]
 ·rw[zcr (fun e=>h ((zcP z r).1 e)),itoa_nonneg (by omega),show z.toNat=z.natAbs by omega]
theorem ziu(z:Int)(r:Str):(if (itoa z++r).head? = some 45 then -(z.natAbs:Int)else z.natAbs)=z:=by
 by_cases h:z<0
 ·rw[if_pos ((zcP z r).2 h)];omega
 ·rw[if_neg (fun e=>h ((zcP z r).1 e))];omega
theorem zmH{q : Rat}(h : zO q) : zcs (za q) = some (q.num, (q.den : Int)) := by
  obtain⟨h1, h2⟩ := h
  unfold za
  split
  · next hd =>
    have e := zfv q.num []
    have es := ziu q.num []
    have hh := zcP q.num []
    rw[List.append_nil, List.append_nil]at e
    rw[List.append_nil]at es hh
    obtain⟨a, b, c⟩ := zkH (r := []) h1 (.inl rfl)
    rw[List.append_nil]at a b c
    unfold zcs
    rw [e, a, b, c, if_neg (by rintro (x | ⟨x, y⟩); · cases x
                               · have := hh.1 x;omega), if_pos rfl, es, hd];rfl
  · next hd =>
    have e := zfv q.num (47 :: decDigits q.den)
    have es := ziu q.num (47 :: decDigits q.den)
    have hh := zcP q.num (47 :: decDigits q.den)
    obtain⟨a, b, c⟩ := zkH (r := 47 :: decDigits q.den) h1 (.inr rfl)
    obtain⟨a2, b2, c2⟩ := zkH (r := []) h2 (.inl rfl)
    rw[List.append_nil]at a2 b2 c2
    have ed : za2 (47 :: decDigits q.den) 1 = decDigits q.den := rfl
    have hnz := q.den_nz
    unfold zcs
    rw [e, a, b, c, if_neg (by rintro (x | ⟨x, y⟩); · cases x
                               · have := hh.1 x;omega), if_neg (by simp), if_neg (by simp[at0]), ed, a2, b2, c2, if_neg, es]
    rintro(x | x | x | x)
    · cases x
    · exact x rfl
    · omega
    · exact x q.reduced
theorem zgy{q:Rat}(h:¬ zO q):zcs (za q)=none:=by
 cases hn:zcs (za q)with
 | none=>rfl
 | some p =>
  obtain⟨q',e,_,_,hs⟩:=zhc (n:=p.1) (d:=p.2) (by rw[hn])
  rw[← zav e]at hs
  exact absurd hs h
theorem znT{q:Rat}(h:zO q):zak q=false:=by
 unfold zak
 rw[zcj (x:=q.num) (by have:=h.1;omega),zcj (x:=(q.den:Int)) (by have:=h.2;omega)];rfl
theorem zlE{a:Str}(h:zem a≠0):zcs a=none:=by
 cases hn:zcs a with
 | none=>rfl
 | some p =>
  obtain⟨q',e,_,_,hs⟩:=zhc (n:=p.1) (d:=p.2) (by rw[hn])
  rw[e,zgl,znT hs]at h
  exact absurd rfl h
theorem zkI(s:Str):zb2 s<100000000:=by
 cases h:zb5 s with
 | true=>exact(zfZ h).2.1
 | false=>unfold zb2;rw[h];simp
theorem znb{s:Str}(h:zb5 s=true):s≠[]:=by
 intro e;subst e;simp[zb5,zbg]at h
theorem ziK(s:Str):(zx s).length≤s.length:=by
 unfold zx;split
 ·simp
 ·simp
end Kp
namespace Kp
open Go.Lib (decDigits itoa nDigits)
theorem zfI(n:Int)(g:Nat){B:Int}(h:(n.natAbs:Int)≤B):-B≤n.tdiv g∧n.tdiv g≤B:=by
 have:=zm1 n g
 omega
theorem zcv(n:Int)(k:Nat)(hk:0<k):(Rat.divInt n k).num=n.tdiv (Nat.gcd n.natAbs k)∧((Rat.divInt n k).den:Int)=(k:Int) / (Nat.gcd n.natAbs k:Int):=by
 have e:Rat.divInt n k=Rat.normalize n k (by omega):=by rw[Rat.normalize_eq_mkRat,Rat.divInt_ofNat]
 rw[e,Rat.normalize_eq]
 simp only
 have h1:((Nat.gcd n.natAbs k:Nat):Int) ∣ n:=by rw[← Int.dvd_natAbs];exact Int.natCast_dvd_natCast.2 (Nat.gcd_dvd_left ..)
 refine⟨?_,?_⟩
 ·rw[Int.tdiv_eq_ediv_of_dvd h1]
 ·rw[Int.natCast_ediv]
theorem zfK(n:Int)(k:Nat)(hk:0<k) :
  za (Rat.divInt n k)=if (k:Int) / (Nat.gcd n.natAbs k:Int)=1 then itoa (n.tdiv (Nat.gcd n.natAbs k))else itoa (n.tdiv (Nat.gcd n.natAbs k))++47::itoa ((k:Int) / (Nat.gcd n.natAbs k:Int)):=by
 obtain⟨h1,h2⟩:=zcv n k hk
 unfold za
 rw[zaa,h1,h2]
 by_cases h:(Rat.divInt n k).den=1
 ·rw[if_pos h,if_pos (by omega)]
 ·rw[if_neg h,if_neg (by omega)]
end Kp
namespace Kp
open Go.Lib (decDigits itoa nDigits)
def zdl(s:Str):Nat:=if 1<(s.takeWhile zaD).length∧at0 s 0=48 then 0 else(s.takeWhile zaD).length
theorem zeB{s:Str}{k:Nat}(h:zaR (s.take k))(hk:k≤s.length)(stop:k=s.length∨zaD (at0 s k)=false):(s.takeWhile zaD).length=k:=by
 by_cases hl:k=s.length
 ·rw[hl,List.take_length]at h
  rw[zbn _ _ h,hl]
 ·have hd:=stop.resolve_left hl
  have hlt:k<s.length:=by omega
  have e:s=s.take k++at0 s k::s.drop (k+1):=by
   rw[zf7 s k hlt,← List.drop_eq_getElem_cons,List.take_append_drop]
  have:=zcx zaD (at0 s k) (s.drop (k+1)) hd (s.take k) h
  rw[← e]at this
  rw[this,List.length_take];omega
theorem zhO(s:Str):(s.takeWhile zaD).length≤s.length:=(List.takeWhile_sublist _).length_le
theorem zja{s:Str}(h:(s.takeWhile zaD).length=s.length):zaR s:=by
 have e:s.takeWhile zaD=s:=(List.takeWhile_prefix _).eq_of_length h
 intro c hc
 have:=List.all_takeWhile (p:=zaD) (l:=s)
 rw[List.all_eq_true,e]at this
 exact this c hc
theorem zpZ{s:Str}:(zdl s≠0∧¬ zdl s<s.length) ↔ (s≠[]∧zaR s∧(s.head? = some 48→s=[48])):=by
 have hle:=zhO s
 constructor
 ·rintro⟨h0,h1⟩
  unfold zdl at h0 h1
  split at h0
  ·exact absurd rfl h0
  ·next hz =>
   rw[if_neg hz]at h1
   have hfull:(s.takeWhile zaD).length=s.length:=by omega
   have hne:s≠[]:=by intro e;subst e;simp at h0
   refine⟨hne,zja hfull,fun e=>?_⟩
   rw[zcF hne]at e
   have e48:=Option.some.inj e
   have h1':s.length=1:=by
    by_cases hc:1<s.length
    ·exact absurd ⟨by omega,e48⟩ hz
    ·have:=List.length_pos_iff.2 hne;omega
   obtain⟨c,rfl⟩:=List.length_eq_one_iff.1 h1'
   simp only[at0,List.getD_cons_zero]at e48;rw[e48]
 ·rintro⟨hne,hd,hz⟩
  have hl:(s.takeWhile zaD).length=s.length:=by rw[zbn _ _ hd]
  have hpos:=List.length_pos_iff.2 hne
  have e:zdl s=s.length:=by
   unfold zdl
   rw[if_neg,hl]
   rintro⟨a,b⟩
   rw[hl]at a
   have:=hz (by rw[zcF hne,b])
   rw[this]at a;simp at a
  omega
theorem ziW(n:Str):zdm n=11 ↔ (zdl (zq n)=0∨zdl (zq n)<(zq n).length∨(n.head? = some 45∧zq n=[48])):=by
 have hg:=zpZ (s:=zq n)
 constructor
 ·intro h
  by_cases h0:zdl (zq n)=0
  ·exact .inl h0
  ·by_cases h1:zdl (zq n)<(zq n).length
   ·exact .inr (.inl h1)
   ·obtain⟨a,b,c⟩:=hg.1 ⟨h0,h1⟩
    right;right
    by_cases h48:(zq n).head? = some 48
    ·have e:=c h48
     refine⟨?_,e⟩
     by_cases hm:n.head? = some 45
     ·exact hm
     ·rw[zcr hm]at e
      rw[e,zpK]at h;cases h
    ·rw[zcF a]at h48
     rw[zlV a (fun x=>h48 (by rw[x])) b]at h
     split at h <;> cases h
 ·intro h
  by_cases hA:zq n=[]
  ·exact zjP hA
  ·by_cases hD:zaR (zq n)
   ·by_cases hz:at0 (zq n) 0=48∧n≠[48]
    ·exact zlU hA hz.1 hz.2
    ·exfalso
     have hgood:zq n≠[]∧zaR (zq n)∧((zq n).head? = some 48→zq n=[48]):=by
      refine⟨hA,hD,fun e=>?_⟩
      rw[zcF hA]at e
      have:n=[48]:=Classical.byContradiction fun x=>hz ⟨Option.some.inj e,x⟩
      rw[this];rfl
     obtain⟨a,b⟩:=hg.2 hgood
     rcases h with h | h | ⟨h,h2⟩
     ·exact a h
     ·exact b h
     ·have:n=[48]:=Classical.byContradiction fun x=>hz ⟨by rw[h2];rfl,x⟩
      rw[this]at h;simp at h
   ·exact ziX hD
theorem zr1(d:Str):(zdm d=11∨d.head? = some 45∨d=[48]∨d=[49]) ↔ (zdl d=0∨zdl d<d.length∨d=[48]∨d=[49]):=by
 by_cases hm:d.head? = some 45
 ·have hdig:zdl d=0:=by
   cases d with
   | nil=>cases hm
   | cons c r =>
    simp only[List.head?_cons,Option.some.injEq]at hm
    subst hm
    have h45:zaD 45=false:=by decide
    unfold zdl
    rw[List.takeWhile_cons,h45];simp
  simp[hm,hdig]
 ·have:=ziW d
  rw[zcr hm]at this
  rw[this]
  simp only[hm,false_and,or_false,false_or]
  constructor
  ·rintro((a | a) | a | a)
   ·exact .inl a
   ·exact .inr (.inl a)
   ·exact .inr (.inr (.inl a))
   ·exact .inr (.inr (.inr a))
  ·rintro(a | a | a | a)
   ·exact .inl (.inl a)
   ·exact .inl (.inr a)
   ·exact .inr (.inl a)
   ·exact .inr (.inr a)
theorem zqy(a:Str):zmt a ↔ ((zdl (zq (zw a))=0∨zdl (zq (zw a))<(zq (zw a)).length∨((zw a).head? = some 45∧zq (zw a)=[48])) ∨
  (zad a=true∧(zdl (zaj a)=0∨zdl (zaj a)<(zaj a).length∨zaj a=[48]∨zaj a=[49]))):=by
 unfold zmt
 rw[ziW,zr1]
theorem zfW(a:Str):(zw a).length≤a.length:=(List.takeWhile_sublist _).length_le
theorem zf6(a:Str):(zaj a).length≤a.length:=by
 unfold zaj
 have h1:(a.dropWhile (·≠47)).length≤a.length:=(List.dropWhile_sublist _).length_le
 rw[List.length_tail]
 have h2:(a.dropWhile (fun x=>decide (x≠47))).length≤a.length:=h1
 omega
theorem zc1(n:Int)(k:Nat)(hk:0<k) :
  za (Rat.divInt n k)=if (k:Int).fdiv (Nat.gcd n.natAbs k:Int)=1 then itoa (n.fdiv (Nat.gcd n.natAbs k:Int))else itoa (n.fdiv (Nat.gcd n.natAbs k:Int))++47::itoa ((k:Int).fdiv (Nat.gcd n.natAbs k:Int)):=by
 rw[zfK n k hk,Int.fdiv_eq_ediv_of_nonneg _ (by omega),Int.fdiv_eq_ediv_of_nonneg _ (by omega)]
 have h1:((Nat.gcd n.natAbs k:Nat):Int) ∣ n:=by rw[← Int.dvd_natAbs];exact Int.natCast_dvd_natCast.2 (Nat.gcd_dvd_left ..)
 rw[Int.tdiv_eq_ediv_of_dvd h1]
theorem zl5{a b:Nat}(h:a≤b):(decDigits a).length≤(decDigits b).length:=by
 have p:=List.length_pos_iff.2 (zau b)
 have:=(zn b _ p).1 (Nat.le_refl _)
 exact(zn a _ p).2 (by omega)
theorem zkS{a b:Nat}{m:Nat}(h:a≤b)(hb:(itoa (b:Int)).length≤m):(itoa (a:Int)).length≤m:=by
 rw[← zaa]at *;exact Nat.le_trans (zl5 h) hb
theorem zmK(z:Int):(itoa z).length=(decDigits z.natAbs).length+(if z<0 then 1 else 0):=by
 by_cases h:z<0
 ·rw[itoa_neg h,if_pos h,List.length_cons]
 ·rw[itoa_nonneg (by omega),if_neg h,show z.toNat=z.natAbs by omega];rfl
theorem zgF(n:Int)(g:Nat)(hn:(itoa n).length≤18):(itoa (n.fdiv g)).length≤1000:=by
 have h:=zaF hn
 have hb:(n.fdiv g).natAbs≤1000000000000000000:=by
  rw[Int.fdiv_eq_ediv_of_nonneg _ (by omega)]
  by_cases hg:g=0
  ·subst hg;simp
  ·have h1:n / (g:Int)≤n.natAbs:=Int.le_trans (Int.ediv_le_ediv (by omega) (show n≤(n.natAbs:Int) by omega)) (Int.ediv_le_self _ (by omega))
   have h2:-(n.natAbs:Int)≤n / (g:Int):=by
    rw[Int.le_ediv_iff_mul_le (by omega)]
    have:(n.natAbs:Int)*1≤n.natAbs*g:=Int.mul_le_mul_of_nonneg_left (by omega) (by omega)
    rw[Int.neg_mul];omega
   omega
 have h19:(decDigits (n.fdiv g).natAbs).length≤19:=(zn _ 19 (by decide)).2 (by
  have:(10:Nat) ^ 19=10000000000000000000:=by decide
  omega)
 rw[zmK];split <;> omega
end Kp
namespace Kp
open Go.Lib (decDigits itoa nDigits)
def zj4(n r:Nat):Prop:=r*r≤n∧n<(r+1)*(r+1)
theorem zj4.unique{n r s:Nat}(h:zj4 n r)(k:zj4 n s):r=s:=by
 obtain⟨h1,h2⟩:=h
 obtain⟨k1,k2⟩:=k
 by_cases a:r<s
 ·have:(r+1)*(r+1)≤s*s:=Nat.mul_le_mul a a
  omega
 ·by_cases b:s<r
  ·have:(s+1)*(s+1)≤r*r:=Nat.mul_le_mul b b
   omega
  ·omega
def zl(n:Nat):Nat:=if h:n=0 then 0 else if (2*zl (n / 4)+1)*(2*zl (n / 4)+1)≤n then 2*zl (n / 4)+1 else 2*zl (n / 4)
termination_by n
decreasing_by all_goals omega
theorem zby(n:Nat):zj4 n (zl n):=by
 induction n using Nat.strongRecOn with
 | _ n ih =>
  rw[zl]
  split
  ·next h=>subst h;exact⟨Nat.le_refl _,by decide⟩
  ·next h =>
   obtain⟨h1,h2⟩:=ih (n / 4) (by omega)
   generalize zl (n / 4)=s at *
   have e1:2*s*(2*s)=4*(s*s):=by grind
   have e2:(2*s+1+1)*(2*s+1+1)=4*((s+1)*(s+1)):=by grind
   split
   ·next hc=>exact⟨hc,by omega⟩
   ·next hc=>exact⟨by omega,by omega⟩
theorem zet{n r:Nat}(h:zj4 n r):zl n=r:=(zby n).unique h
theorem zgI(n:Nat):zl n≤n:=by
 have h:=(zby n).1
 by_cases h0:zl n=0
 ·omega
 ·have:zl n*1≤zl n*zl n:=Nat.mul_le_mul_left _ (by omega)
  omega
theorem zf0{n:Nat}(h:n<2):zl n=n:=by
 have:n=0∨n=1:=by omega
 rcases this with rfl | rfl
 ·exact zet ⟨by decide,by decide⟩
 ·exact zet ⟨by decide,by decide⟩
theorem zeF:∀ (f x:Nat),x<2 ^ f→x<2 ^ Go.Lib.bitLenAux f x
 | 0,x,h=>h
 | f+1,x,h=>by
  simp only[Go.Lib.bitLenAux]
  split
  ·next h0=>subst h0;decide
  ·have:=zeF f (x / 2) (by rw[Nat.pow_succ]at h;omega)
   rw[Nat.add_comm,Nat.pow_succ];omega
theorem bitLenAux_le:∀ (f k x:Nat),x<2 ^ k→Go.Lib.bitLenAux f x≤k
 | 0,_,_,_=>Nat.zero_le _
 | f+1,k,x,h=>by
  simp only[Go.Lib.bitLenAux]
  split
  ·omega
  ·cases k with
   | zero=>simp at h;omega
   | succ k =>
    have:=bitLenAux_le f k (x / 2) (by rw[Nat.pow_succ]at h;omega)
    omega
theorem zkM{x:Nat}(h:x<18446744073709551616):x<2 ^ Go.Lib.bitLen x:=zeF 64 x h
theorem bitLen_le{x k:Nat}(h:x<2 ^ k):Go.Lib.bitLen x≤k:=bitLenAux_le 64 k x h
theorem zqm{n:Nat}(h:n<18446744073709551616):n<(2 ^ ((Go.Lib.bitLen n+1) / 2)+1)*(2 ^ ((Go.Lib.bitLen n+1) / 2)+1):=by
 have h1:=zkM h
 have h2:2 ^ Go.Lib.bitLen n≤2 ^ ((Go.Lib.bitLen n+1) / 2+(Go.Lib.bitLen n+1) / 2):=Nat.pow_le_pow_right (by decide) (by omega)
 rw[Nat.pow_add]at h2
 generalize 2 ^ ((Go.Lib.bitLen n+1) / 2)=r at *
 have:(r+1)*(r+1)=r*r+2*r+1:=by grind
 omega
theorem ziJ{n r:Nat}(hr:0<r):n<((r+n / r) / 2+1)*((r+n / r) / 2+1):=by
 have h1:n<r*(n / r+1):=Nat.lt_mul_div_succ n hr
 generalize n / r=q at *
 generalize hs:(r+q) / 2=s at *
 have h2:r+q+1≤2*(s+1):=by omega
 have h3:4*(r*(q+1))≤(r+(q+1))*(r+(q+1)):=by
  rcases Nat.le_total r (q+1)with h | h
  ·obtain⟨d,hd⟩:=Nat.exists_eq_add_of_le h
   rw[hd]
   have:(r+(r+d))*(r+(r+d))=4*(r*(r+d))+d*d:=by grind
   omega
  ·obtain⟨d,hd⟩:=Nat.exists_eq_add_of_le h
   rw[hd]
   have:(q+1+d+(q+1))*(q+1+d+(q+1))=4*((q+1+d)*(q+1))+d*d:=by grind
   omega
 have h4:(r+(q+1))*(r+(q+1))≤(2*(s+1))*(2*(s+1)):=Nat.mul_le_mul (by omega) (by omega)
 have h5:(2*(s+1))*(2*(s+1))=4*((s+1)*(s+1)):=by grind
 omega
theorem zfY{n r:Nat}(hr:0<r)(hge:n<(r+1)*(r+1))(h:r≤(r+n / r) / 2):zj4 n r:=by
 refine⟨?_,hge⟩
 have h1:r≤n / r:=by omega
 have:=(Nat.le_div_iff_mul_le hr).1 h1
 exact this
def za4(p:Nat)(c m:Nat):Nat × Nat:=if _h:2≤p∧0<m∧m % (p*p)=0 then za4 p (c*p) (m / (p*p))else(c,m)
termination_by m
decreasing_by
 obtain⟨h1,h2,_⟩:=_h
 exact Nat.div_lt_self h2 (by have:2*2≤p*p:=Nat.mul_le_mul h1 h1;omega)
theorem zfg{p c m:Nat}(hp:2≤p)(hm:0<m)(h:m % (p*p)=0):za4 p c m=za4 p (c*p) (m / (p*p)):=by
 rw[za4,dif_pos ⟨hp,hm,h⟩]
theorem zgd{p c m:Nat}(h:m % (p*p)≠0):za4 p c m=(c,m):=by
 rw[za4,dif_neg (fun x=>h x.2.2)]
theorem ziq(p:Nat)(hp:2≤p):∀ (m c:Nat),0<m→0<c →
  0<(za4 p c m).2∧0<(za4 p c m).1∧(za4 p c m).1*(za4 p c m).1*(za4 p c m).2=c*c*m∧(za4 p c m).2 % (p*p)≠0∧(za4 p c m).2≤m:=by
 intro m
 induction m using Nat.strongRecOn with
 | _ m ih =>
  intro c hm hc
  by_cases h:m % (p*p)=0
  ·rw[zfg hp hm h]
   have hpp:4≤p*p:=Nat.mul_le_mul hp hp
   have hdvd:=Nat.div_mul_cancel (Nat.dvd_of_mod_eq_zero h)
   have hlt:m / (p*p)<m:=Nat.div_lt_self hm (by omega)
   have hpos:0<m / (p*p):=by
    rcases Nat.eq_zero_or_pos (m / (p*p))with h0 | h0
    ·rw[h0,Nat.zero_mul]at hdvd;omega
    ·exact h0
   obtain⟨a,b,d,e,f⟩:=ih (m / (p*p)) hlt (c*p) hpos (Nat.mul_pos hc (by omega))
   refine⟨a,b,?_,e,by omega⟩
   rw[d]
   conv=>rhs;rw[← hdvd]
   grind
  ·rw[zgd h];exact⟨hm,hc,rfl,h,Nat.le_refl _⟩
def zJ:List Nat:=[2,3,5,7,11,13,17,19,23,29,31,37,41,43,47,53,59,61,67,71,73,79,83,89,97]
def zK:List Nat→Nat × Nat→Nat × Nat
 | [],x=>x
 | p::r,x=>zK r (za4 p x.1 x.2)
theorem zis(l m:List Nat):∀ x,zK (l++m) x=zK m (zK l x):=by
 induction l with
 | nil=>intro x;rfl
 | cons p r ih=>intro x;exact ih _
theorem zcc:∀ (l:List Nat),(∀ p∈l,2≤p)→∀ (c m:Nat),0<m→0<c →
  0<(zK l (c,m)).2∧0<(zK l (c,m)).1∧(zK l (c,m)).1*(zK l (c,m)).1*(zK l (c,m)).2=c*c*m∧(zK l (c,m)).2≤m
 | [],_,c,m,hm,hc=>⟨hm,hc,rfl,Nat.le_refl _⟩
 | p::r,h,c,m,hm,hc=>by
  obtain⟨a,b,d,_,f⟩:=ziq p (h p (by simp)) m c hm hc
  obtain⟨a2,b2,d2,f2⟩:=zcc r (fun q hq=>h q (by simp[hq])) (za4 p c m).1 (za4 p c m).2 a b
  exact⟨a2,b2,by rw[← d];exact d2,Nat.le_trans f2 f⟩
theorem zdV:∀ p∈zJ,2≤p:=by decide
def zaI(m:Nat):Nat × Nat :=
 if zl (zK zJ (1,m)).2*zl (zK zJ (1,m)).2=(zK zJ (1,m)).2 then((zK zJ (1,m)).1*zl (zK zJ (1,m)).2,1)
 else zK zJ (1,m)
theorem zdZ{m:Nat}(hm:0<m):0<(zaI m).2∧0<(zaI m).1∧(zaI m).1*(zaI m).1*(zaI m).2=m∧(zaI m).2≤m:=by
 obtain⟨a,b,d,f⟩:=zcc zJ zdV 1 m hm (by decide)
 unfold zaI
 generalize (zK zJ (1,m)).1=c at *
 generalize hl:(zK zJ (1,m)).2=l at *
 split
 ·next h =>
  refine⟨Nat.one_pos,Nat.mul_pos b ?_,?_,by omega⟩
  ·by_cases h0:zl l=0
   ·rw[h0]at h;omega
   ·omega
  ·simp only
   generalize zl l=r at *
   subst h
   grind
 ·refine⟨by rw[hl];exact a,?_,?_,by rw[hl];exact f⟩
  ·have:=zcc zJ zdV 1 m hm (by decide);exact this.2.1
  ·have:=zcc zJ zdV 1 m hm (by decide)
   rw[this.2.2.1];simp
theorem zoZ{c l m:Nat}(h:c*c*l=m)(hl:0<l):c*c≤m:=by
 have:c*c*1≤c*c*l:=Nat.mul_le_mul_left _ hl
 omega
structure StripInv (n c l:Nat):Prop where
 pos:0<l
 cpos:0<c
 eq:c*c*l=n
theorem StripInv.bounds{n c l:Nat}(h:StripInv n c l):l≤n∧c≤n:=by
 have h1:=h.eq
 have h2:=h.pos
 have h3:=h.cpos
 have h4:1*l≤c*c*l:=Nat.mul_le_mul_right _ (Nat.mul_pos h3 h3)
 have h5:c*1≤c*c:=Nat.mul_le_mul_left _ h3
 have h6:c*c*1≤c*c*l:=Nat.mul_le_mul_left _ h2
 omega
theorem StripInv.next{n c l p:Nat}(h:StripInv n c l)(hp:2≤p)(hd:l % (p*p)=0):StripInv n (c*p) (l / (p*p)):=by
 have hdvd:=Nat.div_mul_cancel (Nat.dvd_of_mod_eq_zero hd)
 have h2:=h.pos
 refine⟨?_,Nat.mul_pos h.cpos (by omega),?_⟩
 ·rcases Nat.eq_zero_or_pos (l / (p*p))with h0 | h0
  ·rw[h0,Nat.zero_mul]at hdvd;omega
  ·exact h0
 ·rw[← h.eq]
  conv=>rhs;rw[← hdvd]
  grind
theorem StripInv.small{n c l:Nat}(h:StripInv n c l)(hn:n<100000000000000000):c<1000000000:=by
 have h1:=zoZ h.eq h.pos
 rcases Nat.lt_or_ge c 1000000000 with a | a
 ·exact a
 ·have:1000000000*1000000000≤c*c:=Nat.mul_le_mul a a
  omega
theorem zdp(k:Nat)(h:k<zJ.length)(x:Nat × Nat):zK (zJ.take (k+1)) x=za4 (zJ.getD k 0) (zK (zJ.take k) x).1 (zK (zJ.take k) x).2:=by
 rw[List.take_succ_eq_append_getElem h,zis,List.getD_eq_getElem?_getD,List.getElem?_eq_getElem h];rfl
end Kp
