/-
  Walks: rational.Check, Parts, Compare at numbers with short parts; Of at short ints.; Walks: rational.Of at short ints, Compare at short numbers; root.native, nativeRoot.; Walks: root.nativeNormal.; Walks: root.check, of, negative, Normal at numbers with short parts.; Walks: root.Normal at numbers with short parts.
-/
import Derived.Test.YtdecodpgdainiaaGreatDoorH03
import Derived.Test.YtdecodpgdainiaaGreatDoorH02
import Derived.Test.YtdecodpgdainiaaGreatDoorH00
import Derived.Deep.RegionHeld3
import Derived.Deep.AppendLies
set_option maxRecDepth 100000
set_option maxHeartbeats 1000000
namespace Go.Proofs.YtdecodpgdainiaaGreatDoor
section
open Go.RowKit Kp
theorem zbX(q:Rat)(h:zy q)(w:World)(hE:Env w) :
  CR 28 #[.string ⟨(za q).toArray⟩] w (.int .i64 0):=by
 go_enter Tryz.func28,Tryz.ntmps28
 go_wp2_with fail
 refine cx (zdl q h _ hE) fun w1 hq1=>?_
 go_wp2
 go_ret
 exact⟨rfl,hq1.alloc hq1.size _⟩
theorem zc0(q:Rat)(h:zy q)(w:World)(hE:Env w) :
  CR 49 #[.string ⟨(za q).toArray⟩] w (.tuple #[.string ⟨(Lib.itoa q.num).toArray⟩,.string ⟨(Lib.itoa (q.den:Int)).toArray⟩,.int .i64 0]):=by
 go_enter Tryz.func49,Tryz.ntmps49
 go_wp2_with fail
 refine cx (zdl q h _ hE) fun w1 hq1=>?_
 go_wp2
 go_quiet (fail)
 go_wp2
 go_ret3
 exact⟨rfl,Below.drewN (hq1.alloc hq1.size _) _⟩
theorem ze0(n:Int)(k:Nat)(hk:0<k)(hn:(Lib.itoa n).length≤18)(hd:(Lib.itoa (k:Int)).length≤18)(w:World)(hE:Env w) :
  CR 60 #[.string ⟨(Lib.itoa n).toArray⟩,.string ⟨(Lib.itoa (k:Int)).toArray⟩] w (.tuple #[.string ⟨(za (Rat.divInt n k)).toArray⟩,.int .i64 0]):=by
 have hk1:=zaG hd
 have hg1:0<Nat.gcd n.natAbs k:=Nat.gcd_pos_of_pos_right _ (by omega)
 have hg2:Nat.gcd n.natAbs k≤k:=Nat.le_of_dvd (by omega) (Nat.gcd_dvd_right ..)
 have HR:=LH (zc4 n k hk)
 generalize za (Rat.divInt n k)=r at *
 have HG:=LH (zeh n (k:Int) hn hd)
 rw[Int.natAbs_natCast]at HG
 have hmin:decide ((Lib.itoa (k:Int)).head? = some 45)=false:=by
  rw[← zL,decide_eq_false_iff_not];exact zA k
 have lg:(Lib.itoa (Nat.gcd n.natAbs k:Int)).length≤18:=zlH (by omega) hd
 generalize hgg:Nat.gcd n.natAbs k=g at *
 clear hgg
 have lq1:=zgZ n g hn
 have lq2:=zgZ (k:Int) g hd
 have hg0:(g:Int)≠0:=by omega
 by_cases h1:g=1
 ·have hb:(Lib.itoa (g:Int) == [49])=true:=by rw[h1];simp[Lib.itoa,Lib.decDigits]
  have hb':=zbT hb
  have e1:n.fdiv (g:Int)=n:=by rw[h1];simp
  have e2:(k:Int).fdiv (g:Int)=k:=by rw[h1];simp
  rw[e1,e2]at HR
  clear e1 e2
  by_cases h2:(k:Int)=1
  ·have hc:(Lib.itoa (k:Int) == [49])=true:=by rw[h2];simp[Lib.itoa,Lib.decDigits]
   have H2:=LH h2
   clear h2 h1
   go_enter Tryz.func60,Tryz.ntmps60
   go_wp2_with (first | (go_at_call 29;refine(zU _ _).mono ?_;rintro e w1 ⟨rfl,rfl⟩)|(go_at_call 96;refine(HG.out _ hE).mono ?_;rintro e w1 ⟨rfl,hq1⟩))
   go_ret2
   exact⟨by rw[HR.out,if_pos H2.out];rfl,hq1⟩
  ·have hc:(Lib.itoa (k:Int) == [49])=false:=by
    rw[beq_eq_false_iff_ne,← zac];exact fun e=>h2 (zaj e)
   have H2:=LH h2
   clear h2 h1
   go_enter Tryz.func60,Tryz.ntmps60
   go_wp2_with (first | (go_at_call 29;refine(zU _ _).mono ?_;rintro e w1 ⟨rfl,rfl⟩)|(go_at_call 96;refine(HG.out _ hE).mono ?_;rintro e w1 ⟨rfl,hq1⟩))
   go_ret2
   exact⟨by rw[HR.out,if_neg H2.out];first | rfl | (simp;done),hq1⟩
 ·have hb:(Lib.itoa (g:Int) == [49])=false:=by
   rw[beq_eq_false_iff_ne,← zac];exact fun e=>h1 (by have:=zaj e;omega)
  have hb':=zaC hb
  by_cases h2:(k:Int).fdiv (g:Int)=1
  ·have hc:(Lib.itoa ((k:Int).fdiv (g:Int)) == [49])=true:=by rw[h2];simp[Lib.itoa,Lib.decDigits]
   have H2:=LH h2
   clear h2 h1
   go_enter Tryz.func60,Tryz.ntmps60
   go_wp2_with (first | (go_at_call 29;refine(zU _ _).mono ?_;rintro e w1 ⟨rfl,rfl⟩)|(go_at_call 96;refine(HG.out _ hE).mono ?_;rintro e w1 ⟨rfl,hq1⟩) | fail)
   refine cx (zaV n g hn lg hg0 _ (hE.q hq1)) fun w2 hq2=>?_
   have hQ2:Q w w2:=hq1.trans (hq2.mono hq1.size)
   go_wp2_with fail
   refine cx (zaV (k:Int) g hd lg hg0 _ (hE.q hQ2)) fun w3 hq3=>?_
   go_wp2
   go_ret2
   exact⟨by rw[HR.out,if_pos H2.out];rfl,hQ2.trans (hq3.mono hQ2.size)⟩
  ·have hc:(Lib.itoa ((k:Int).fdiv (g:Int)) == [49])=false:=by
    rw[beq_eq_false_iff_ne,← zac];exact fun e=>h2 (zaj e)
   have H2:=LH h2
   clear h2 h1
   go_enter Tryz.func60,Tryz.ntmps60
   go_wp2_with (first | (go_at_call 29;refine(zU _ _).mono ?_;rintro e w1 ⟨rfl,rfl⟩)|(go_at_call 96;refine(HG.out _ hE).mono ?_;rintro e w1 ⟨rfl,hq1⟩) | fail)
   refine cx (zaV n g hn lg hg0 _ (hE.q hq1)) fun w2 hq2=>?_
   have hQ2:Q w w2:=hq1.trans (hq2.mono hq1.size)
   go_wp2_with fail
   refine cx (zaV (k:Int) g hd lg hg0 _ (hE.q hQ2)) fun w3 hq3=>?_
   go_wp2
   go_ret2
   exact⟨by rw[HR.out,if_neg H2.out];first | rfl | (simp;done),hQ2.trans (hq3.mono hQ2.size)⟩
end
section
open Go.RowKit Kp
theorem zaw(n:Int)(k:Nat)(hk:0<k)(hn:n.natAbs<100000000000000000)(hd:k<100000000000000000)(w:World)(hE:Env w) :
  CR 36 #[.int .i64 n,.int .i64 k] w (.tuple #[.string ⟨(za (Rat.divInt n k)).toArray⟩,.int .i64 0]):=by
 have l1:=zkA hn
 have l2:=zkA (x:=(k:Int)) (by omega)
 have b0:((k:Int) == 0)=false:=by simp;omega
 by_cases h1:k=1
 ·subst h1
  have HR:Hid (za (Rat.divInt n (1:Nat))=Lib.itoa n):=LH (by rw[zc4 n 1 (by decide)];simp)
  go_enter Tryz.func36,Tryz.ntmps36
  go_wp2_with fail
  refine cx (zat n (by omega) (by omega) _ hE) fun w1 hq1=>?_
  go_wp2
  go_ret2
  exact⟨by rw[HR.out];rfl,hq1⟩
 ·have b1:((k:Int) == 1)=false:=by simp;omega
  go_enter Tryz.func36,Tryz.ntmps36
  go_wp2_with fail
  refine cx (zat n (by omega) (by omega) _ hE) fun w1 hq1=>?_
  go_wp2_with fail
  refine cx (zat (k:Int) (by omega) (by omega) _ (hE.q hq1)) fun w2 hq2=>?_
  have hQ2:Q w w2:=hq1.trans (hq2.mono hq1.size)
  go_wp2_with fail
  refine cx (ze0 n k hk l1 l2 _ (hE.q hQ2)) fun w3 hq3=>?_
  go_wp2
  go_ret2
  exact⟨rfl,hQ2.trans (hq3.mono hQ2.size)⟩
theorem zdk(x:Int)(h:(Lib.itoa x).length≤17)(w:World) :
  CR 101 #[.string ⟨(Lib.itoa x).toArray⟩] w (.tuple #[.int .i64 x,.bool true]):=by
 go_enter Tryz.func101,Tryz.ntmps101
 go_wp2_with fail
 refine cx (zgX x (by omega) _) fun w1 hq1=>?_
 go_wp2
 go_quiet (fail)
 go_wp2
 go_ret2
 exact⟨rfl,Below.drewN hq1 _⟩
theorem zik(s:Str)(h:17<s.length)(hl:s.length≤1000000000)(w:World) :
  Calls Tryz.prog 101 #[.string ⟨s.toArray⟩] w fun e w'=>e=.returned (.tuple #[.int .i64 0,.bool false])∧w=w':=by
 go_enter Tryz.func101,Tryz.ntmps101
 go_wp2
 go_ret2
 exact⟨rfl,rfl⟩
theorem zeX(n:Nat)(hn:n<100000000000000000)(w:World) :
  Calls Tryz.prog 153 #[.int .i64 n] w fun e w'=>e=.returned (.int .i64 (zm n))∧w=w':=by
 by_cases h2:n<2
 ·have HR:=LH (zjv h2)
  go_enter Tryz.func153,Tryz.ntmps153
  go_wp2
  go_ret
  exact⟨zck (by rw[HR.out];all_goals rfl),rfl⟩
 ·have hs:=zrA (n:=n) (by omega)
  have hp57:(2:Nat) ^ 57=144115188075855872:=by decide
  have hbl:Lib.bitLen n≤57:=bitLen_le (by omega)
  clear hp57
  have HS:=LH hs
  clear hs
  go_enter Tryz.func153,Tryz.ntmps153
  go_wp2_with (go_at_call 71;go_loud (refine(Tryz.bits_Len _ _ (by omega) (by omega)).mono ?_);rintro e w1 ⟨rfl,rfl⟩)
  go_loop [3] (fun x=>∃ r:Nat,0<r∧r≤1000000000∧x=.int .i64 r∧n<(r+1)*(r+1)) (fun x=>(intOf x).toNat)
  case atStart =>
   have hk:(Lib.bitLen n+1) / 2≤29:=by omega
   have h29:(2:Nat) ^ ((Lib.bitLen n+1) / 2)≤2 ^ 29:=Nat.pow_le_pow_right (by decide) hk
   have p29:(2:Nat) ^ 29=536870912:=by decide
   refine⟨2 ^ ((Lib.bitLen n+1) / 2),Nat.pow_pos (by decide),by omega,?_,HS.out⟩
   have e:((2:Int) ^ ((Lib.bitLen n+1) / 2))=((2 ^ ((Lib.bitLen n+1) / 2):Nat):Int):=by simp
   rw[e]
   generalize hg:(2:Nat) ^ ((Lib.bitLen n+1) / 2)=g at *
   have:wrap64 ((g:Nat):Int)=(g:Int):=by unfold wrap64;omega
   rw[this]
  case round =>
   obtain⟨r,hr0,hr1,rfl,hlt⟩:=hrel
   have HL:=LH hlt
   clear hlt
   have hq:n / r≤n:=Nat.div_le_self _ _
   have hq1:(n:Int) / r=((n / r:Nat):Int):=by simp
   have hq2:0≤(n:Int) / r:=Int.ediv_nonneg (by omega) (by omega)
   have hq3:(n:Int) / r≤100000000000000000:=Int.le_trans (Int.ediv_le_self _ (by omega)) (by omega)
   have hr2:((r:Int) == 0)=false:=by simp;omega
   have HQ:=LH hq1
   clear hq1
   by_cases hd:r≤(r+n / r) / 2
   ·have HR:=LH (zeu (zf5 hr0 HL.out hd))
    have hd':(r:Int)≤((r:Int)+(n:Int) / r) / 2:=by rw[HQ.out];omega
    clear hd
    go_wp2
    go_ret
    exact⟨zck (by rw[HR.out];all_goals rfl),rfl⟩
   ·have hd':((r:Int)+(n:Int) / r) / 2<r:=by rw[HQ.out];omega
    have HN:=LH (zjj (n:=n) hr0)
    have hpos:0<(r+n / r) / 2:=by
     rcases Nat.eq_zero_or_pos ((r+n / r) / 2)with h0 | h0
     ·have:=HN.out;rw[h0]at this;omega
     ·exact h0
    go_wp2
    go_round
    case rel=>exact⟨(r+n / r) / 2,hpos,by omega,by rw[HQ.out];go_num,HN.out⟩
    case measure=>simp only[intOf];rw[HQ.out];omega
end
section
open Go.RowKit Kp
def zgP:Array Value:=(zdn.map fun s=>Value.string ⟨s.toArray⟩).toArray
theorem ztC{n:Nat}(h:n<100):Lib.decDigits n=if n<10 then [UInt8.ofNat (48+n)]else [UInt8.ofNat (48+n / 10),UInt8.ofNat (48+n % 10)]:=by
 rw[Lib.decDigits]
 split
 ·rfl
 ·rw[Lib.decDigits,dif_pos (by omega)];rfl
theorem znr(k:Nat)(h:k<25):zdn.getD k []=Lib.itoa (zJ.getD k 0:Int):=by
 have key:∀ j:Fin 25,zJ.getD j.val 0<100∧zdn.getD j.val []=if zJ.getD j.val 0<10 then [UInt8.ofNat (48+zJ.getD j.val 0)]else [UInt8.ofNat (48+zJ.getD j.val 0 / 10),UInt8.ofNat (48+zJ.getD j.val 0 % 10)]:=by decide
 obtain⟨h1,h2⟩:=key ⟨k,h⟩
 rw[← zL,ztC h1];exact h2
theorem ze4(k:Nat)(h:k<25):2≤zJ.getD k 0∧zJ.getD k 0≤97:=by
 have:∀ j:Fin 25,2≤zJ.getD j.val 0∧zJ.getD j.val 0≤97:=by decide
 exact this ⟨k,h⟩
theorem znq(k:Nat)(h:k<25):(Lib.itoa (zJ.getD k 0:Int)).length≤17:=by
 have:=ze4 k h
 have h2:(Lib.decDigits (zJ.getD k 0)).length≤2:=(zi _ 2 (by decide)).2 (by omega)
 rw[← zL];omega
theorem zmp(k:Nat)(h:k=0∨k=1∨k=2∨k=3∨k=4∨k=5∨k=6∨k=7∨k=8∨k=9∨k=10∨k=11∨k=12∨k=13∨k=14∨k=15∨k=16∨k=17∨k=18∨k=19∨k=20∨k=21∨k=22∨k=23∨k=24)(w:World):(Instr.index 238 (.agg zgP) (.int .i64 (k:Nat))).run Tryz.prog w=.ok (.string ⟨(zdn.getD k []).toArray⟩) w:=by
 rcases h with rfl | rfl | rfl | rfl | rfl | rfl | rfl | rfl | rfl | rfl | rfl | rfl | rfl | rfl | rfl | rfl | rfl | rfl | rfl | rfl | rfl | rfl | rfl | rfl | rfl
 all_goals kernel_rfl
theorem zi9(k:Nat)(h:k<25)(w:World):(Instr.index 238 (.agg zgP) (.int .i64 (k:Nat))).run Tryz.prog w=.ok (.string ⟨(Lib.itoa (zJ.getD k 0:Int)).toArray⟩) w:=by
 rw[← znr k h]
 exact zmp k (by omega) w
def ztS(w:World)(n:Nat)(c l i:Value)(wr:World):Prop :=
 ∃ (k a b:Nat),k≤25∧i=.int .i64 k∧c=.int .i64 a∧l=.int .i64 b∧zK (zJ.take k) (1,n)=(a,b)∧StripInv n a b∧Q w wr∧Env wr
def zst(w:World)(n k:Nat)(c l:Value)(wr:World):Prop :=
 ∃ (a b:Nat),c=.int .i64 a∧l=.int .i64 b∧zbd (zJ.getD k 0) a b=zK (zJ.take (k+1)) (1,n)∧StripInv n a b∧Q w wr∧Env wr
theorem zhg.row{w:World}{g:Nat}(h:zhg w g zdn):∃ t f,w.heap[g]? = some (.cells zgP t f):=h
theorem zhr(n d:Nat)(hn:0<n)(hd:0<d)(hnd:n*d<100000000000000000)(w:World)(hE:Env w) :
  CR 102 #[.int .i64 n,.int .i64 d] w (.tuple #[.string ⟨(za (Rat.divInt (zaJ (n*d)).1 d)).toArray⟩,.string ⟨(Lib.itoa ((zaJ (n*d)).2:Int)).toArray⟩]):=by
 obtain⟨tp,fp,hrow⟩:=hE.primes.row
 have hm:0<n*d:=Nat.mul_pos hn hd
 have hdl:d<100000000000000000:=by
  have:1*d≤n*d:=Nat.mul_le_mul_right _ hn
  omega
 have e0:(n:Int)*(d:Int)=((n*d:Nat):Int):=by simp
 have E0:=LH e0
 have b1:(n:Int)*(d:Int)≤100000000000000000:=by rw[e0];omega
 have b0:0≤(n:Int)*(d:Int):=by rw[e0];omega
 clear e0
 go_enter Tryz.func102,Tryz.ntmps102
 go_wp2_with (refine wpList_load_row rfl 238 _ rfl 1 rfl tp zgP fp _ hrow Tryz.underlying238 rfl (by kernel_rfl) ?_)
 go_loopw [6,7,19] (ztS w (n*d)) (fun _ _ i _=>25 - (intOf i).toNat)
 case atStart=>exact⟨0,1,n*d,by omega,rfl,rfl,by rw[E0.out],rfl,⟨hm,by decide,by simp⟩,Below.refl _ _,hE⟩
 case round =>
  obtain⟨k,a,b,hk,rfl,rfl,rfl,hs,hinv,hQ,hEr⟩:=hrel
  have HS:=LH hs
  have HI:=LH hinv
  clear hs hinv
  by_cases hlt:k<25
  ·have hidx:=zi9 k hlt
   have hp:=ze4 k hlt
   have hps:=znq k hlt
   have HT:=LH (zdB k hlt (1,n*d))
   generalize hpp:zJ.getD k 0=p at *
   have HP:=LH hpp
   clear hpp
   go_wp2_with (go_at_call 127;go_loud (refine(zgX (p:Int) (by omega) _).mono ?_);rintro e w1 ⟨rfl,hq1⟩)
   have hQ1:Q w w1:=hQ.trans (hq1.mono hQ.size)
   have hE1:=hE.q hQ1
   clear hidx
   go_loopw [6,7] (zst w (n*d) k) (fun _ l _=>(intOf l).toNat)
   case atStart=>exact⟨a,b,rfl,rfl,by rw[HT.out,HS.out,HP.out],HI.out,hQ1,hE1⟩
   case round =>
    obtain⟨a',b',rfl,rfl,hs',hinv',hQ',hE'⟩:=hrel
    have HS':=LH hs'
    have HI':=LH hinv'
    have hb':=hinv'.bounds.1
    have ha':=hinv'.small hnd
    clear hs' hinv'
    have hpp0:4≤p*p:=Nat.mul_le_mul hp.1 hp.1
    have hpp1:p*p≤97*97:=Nat.mul_le_mul hp.2 hp.2
    have hap:a'*p≤1000000000*97:=Nat.mul_le_mul (by omega) hp.2
    have c1:(p:Int)*p=((p*p:Nat):Int):=by simp
    have c2:(a':Int)*p=((a'*p:Nat):Int):=by simp
    have d1:(p:Int)*p≤10000:=by rw[c1];omega
    have d2:0<(p:Int)*p:=by rw[c1];omega
    have d3:(a':Int)*p≤100000000000:=by rw[c2];omega
    have d4:0≤(a':Int)*p:=by rw[c2];omega
    have d5:((p:Int)*p == 0)=false:=by simp;omega
    have c3:(b':Int) % ((p:Int)*p)=((b' % (p*p):Nat):Int):=by simp
    have c4:(b':Int) / ((p:Int)*p)=((b' / (p*p):Nat):Int):=by simp
    have d6:0≤(b':Int) / ((p:Int)*p):=Int.ediv_nonneg (by omega) (by omega)
    have hble:b' / (p*p)≤b':=Nat.div_le_self _ _
    have d7:(b':Int) / ((p:Int)*p)≤100000000000000000:=Int.le_trans (Int.ediv_le_self _ (by omega)) (by omega)
    have C2:=LH c2
    have C4:=LH c4
    by_cases hz:b' % (p*p)=0
    ·have t:((b':Int) % ((p:Int)*p) == 0)=true:=by rw[c3,hz];rfl
     have HN:=LH (HI'.out.next hp.1 hz)
     have hlt':b' / (p*p)<b':=Nat.div_lt_self HI'.out.pos (by omega)
     have HY:=LH (zft (c:=a') hp.1 HI'.out.pos hz)
     clear c1 c2 c3 c4 hz
     go_wp2
     go_quiet (fail)
     go_wp2
     go_roundw
     case rel=>exact⟨a'*p,b' / (p*p),by rw[C2.out],by rw[C4.out],by rw[HP.out,← HY.out];rw[HP.out]at HS';exact HS'.out,HN.out,Below.drewN hQ' _,hE'.drewN _⟩
     case measure=>simp only[intOf];rw[C4.out,Int.toNat_natCast,Int.toNat_natCast];exact hlt'
    ·have t:((b':Int) % ((p:Int)*p) == 0)=false:=by rw[c3];simp;omega
     have HY:=LH (zgt (p:=p) (c:=a') (m:=b') hz)
     clear c1 c2 c3 c4 hz
     go_wp2
     go_roundw
     case rel=>exact⟨k+1,a',b',by omega,by go_num,rfl,rfl,by rw[← HS'.out,HP.out,HY.out],HI'.out,hQ',hE'⟩
     case measure=>simp only[intOf];omega
  ·obtain rfl:k=25:=by omega
   have hble:=HI.out.bounds.1
   have hasm:=HI.out.small hnd
   have hsq:=(zcf b).1
   have hrle:=zg1 b
   have HM:Hid (zaJ (n*d)=if zm b*zm b=b then(a*zm b,1)else(a,b)):=LH (by
    unfold zaJ
    have e:zK zJ (1,n*d)=(a,b):=by rw[← HS.out];rfl
    rw[e])
   have c1:(zm b:Int)*(zm b:Int)=((zm b*zm b:Nat):Int):=by simp
   have d1:(zm b:Int)*(zm b:Int)≤100000000000000000:=by rw[c1];omega
   have d2:0≤(zm b:Int)*(zm b:Int):=by rw[c1];omega
   have har:a*zm b<100000000000000000:=by
    have e1:=HI.out.eq
    have e2:(a*zm b)*(a*zm b)≤a*a*b:=by
     have:(a*zm b)*(a*zm b)=a*a*(zm b*zm b):=by grind
     rw[this];exact Nat.mul_le_mul_left _ hsq
    rcases Nat.lt_or_ge (a*zm b) 100000000000000000 with x | x
    ·exact x
    ·have:1*(a*zm b)≤(a*zm b)*(a*zm b):=Nat.mul_le_mul_right _ (by omega)
     omega
   have c2:(a:Int)*(zm b:Int)=((a*zm b:Nat):Int):=by simp
   have d3:(a:Int)*(zm b:Int)<100000000000000000:=by rw[c2];omega
   have d4:0≤(a:Int)*(zm b:Int):=by rw[c2];omega
   have HB:=LH (zeX b (by omega))
   have C2:=LH c2
   by_cases hz:zm b*zm b=b
   ·have t:((zm b:Int)*(zm b:Int) == (b:Int))=true:=by rw[c1,hz];simp
    have HZ:=LH hz
    clear c1 c2 hz hsq
    generalize zm b=r at *
    go_wp2_with fail
    refine(HB.out _).mono ?_
    rintro e w1⟨rfl,rfl⟩
    go_wp2_with fail
    refine cx (zaw _ d hd (by omega) (by omega) _ hEr) fun w2 hq2=>?_
    have hQ2:Q w w2:=hQ.trans (hq2.mono hQ.size)
    go_wp2_with fail
    refine cx (zat _ (by omega) (by omega) _ (hE.q hQ2)) fun w3 hq3=>?_
    go_wp2
    go_ret2
    exact⟨by rw[HM.out,if_pos HZ.out];simp only;rw[← C2.out];rfl,hQ2.trans (hq3.mono hQ2.size)⟩
   ·have t:((zm b:Int)*(zm b:Int) == (b:Int))=false:=by rw[c1];simp;omega
    have HZ:=LH hz
    clear c1 c2 hz hsq
    generalize zm b=r at *
    go_wp2_with fail
    refine(HB.out _).mono ?_
    rintro e w1⟨rfl,rfl⟩
    go_wp2_with fail
    refine cx (zaw _ d hd (by omega) (by omega) _ hEr) fun w2 hq2=>?_
    have hQ2:Q w w2:=hQ.trans (hq2.mono hQ.size)
    go_wp2_with fail
    refine cx (zat _ (by omega) (by omega) _ (hE.q hQ2)) fun w3 hq3=>?_
    go_wp2
    go_ret2
    exact⟨by rw[HM.out,if_neg HZ.out];rfl,hQ2.trans (hq3.mono hQ2.size)⟩
end
section
open Go.RowKit Kp
theorem zhx{P:Program}{f:FuncId}{args:Array Value}{w:World}{n:Nat}{v:Value}
  (h:Calls P f args (w.drewN n) fun e w'=>e=.returned v∧w.drewN n=w'):Calls P f args (w.drewN n) fun e w''=>e=.returned v∧∃ m,w''=w.drewN m :=
 h.mono fun _ _ ⟨he,hm⟩=>⟨he,n,hm.symm⟩
def zca(w:World)(v:Value)(l:List Str):Prop :=
 ∃ b off cap,v=.slice (some ⟨b,off,none⟩) l.length cap∧b<w.heap.size∧∀ i,i<l.length→w.cell? ⟨b,off+i,none⟩=some (.string ⟨(l.getD i []).toArray⟩)
theorem zc5(s:Str)(w:World) :
  Calls Tryz.prog 152 #[.string ⟨s.toArray⟩] w fun e w'=>e=.returned (.bool (decide (s.head? = some 45)))∧w=w':=by
 go_enter Tryz.func152,Tryz.ntmps152
 go_wp2_with fail
 refine(zU s _).mono ?_
 rintro e w1⟨rfl,rfl⟩
 go_wp2
 go_ret
 exact⟨rfl,rfl⟩
theorem zsB(tmps:Array Value)(W:World)(b:Nat)(x y:Value)(hp:tmps.getD 2 undef=.pointer (some ⟨b,0,none⟩))
  (c0:W.cell? ⟨b,0,none⟩=some x)(c1:W.cell? ⟨b,1,none⟩=some y) :
  (results Tryz.f100 tmps).run Tryz.prog W=.ok (.agg #[x,y]) W:=by
 simp only[Array.getD_eq_getD_getElem?]at hp
 simp[results,Tryz.results100,go_sem,hp,c0,c1]
theorem zgC(q:Rat)(h:zy q)(w:World)(hE:Env w) :
  CR 100 #[.string ⟨(za q).toArray⟩] w (.agg #[.string ⟨(Lib.itoa q.num).toArray⟩,.string ⟨(Lib.itoa (q.den:Int)).toArray⟩]):=by
 go_enter Tryz.func100,Tryz.ntmps100
 go_wp2_with fail
 refine cx (zc0 q h _ (hE.q bt)) fun w1 hq1=>?_
 have hQ1:Q w w1:=(show Below w.heap.size w _ from bt).trans (hq1.mono (by simp))
 have B1:=(Blk.new w [.string ⟨#[]⟩,.string ⟨#[]⟩] 179).keep hq1 (by simp)
 have c0:=B1.cell
 have f0:=B1.frozen 0
 have f1:=B1.frozen 1
 have l1:=B1.lt
 go_wp2
 refine bodyPost_ret (v:=.agg #[.string ⟨(Lib.itoa q.num).toArray⟩,.string ⟨(Lib.itoa (q.den:Int)).toArray⟩])
  (zsB _ _ w.heap.size _ _ rfl (((B1.set 0 _).set 1 _).cell 0) (((B1.set 0 _).set 1 _).cell 1)) rfl ⟨rfl,?_⟩
 exact(hQ1.setCell (p:=⟨w.heap.size,0,none⟩) (Nat.le_refl _) _).setCell (p:=⟨w.heap.size,1,none⟩) (Nat.le_refl _) _
theorem zdh(q:Rat):(za q).head? = some 45 ↔ q.num<0:=by
 unfold za;split
 ·have:=zcR q.num [];rw[List.append_nil]at this;exact this
 ·exact zcR q.num _
theorem zil(qs rs:List Rat)(hq8:∀ q∈qs,zy q)(v1 v2:Value)(w:World)(hE:Env w)(h1:zca w v1 (qs.map za))(h2:zca w v2 (rs.map za))(hl1:qs.length≤100)(hl2:rs.length≤100) :
  CR 99 #[v1,v2] w (.int .i64 (if ∀ q∈rs,0≤q.num then 0 else 2)):=by
 obtain⟨b1,o1,cap1,rfl,hb1,hc1⟩:=h1
 obtain⟨b2,o2,cap2,rfl,hb2,hc2⟩:=h2
 rw[List.length_map]at hc1 hc2
 rw[List.length_map,List.length_map]
 generalize hans:(if ∀ q∈rs,0≤q.num then 0 else 2:Int)=ans
 have hans1:Hid ((∀ q∈rs,0≤q.num)→ans=0):=LH (fun h=>by rw[← hans,if_pos h])
 have hans2:Hid ((¬ ∀ q∈rs,0≤q.num)→ans=2):=LH (fun h=>by rw[← hans,if_neg h])
 clear hans
 go_enter Tryz.func99,Tryz.ntmps99
 go_wp2
 go_loopw [13] (fun i wr=>∃ k:Nat,k≤qs.length∧i=.int .i64 k∧Q w wr∧Env wr) (fun i _=>qs.length - (intOf i).toNat)
 case atStart=>exact⟨0,by omega,rfl,Below.refl _ _,hE⟩
 case round =>
  obtain⟨k,hk,rfl,hQ,hEr⟩:=hrel
  by_cases hlt:k<qs.length
  ·have hcell:=hc1 k hlt
   have hcell':wr.cell? ⟨b1,o1+k,none⟩=some (.string ⟨((qs.map za).getD k []).toArray⟩):=by rw[hQ.cell (p:=⟨b1,o1+k,none⟩) hb1];exact hcell
   have hq:(qs.map za).getD k []=za qs[k]:=by rw[List.getD_eq_getElem?_getD,List.getElem?_map,List.getElem?_eq_getElem hlt];rfl
   have h8:=hq8 qs[k] (List.getElem_mem hlt)
   rw[hq]at hcell'
   clear hcell hc1 hc2 hq8 hq
   generalize qs[k]=q at *
   have lq1:=zV q.num (zbZ (by have:=h8.1;omega))
   have ln1:(zo (Lib.itoa q.num)).length≤8:=by rw[zaa];exact(zi _ 8 (by decide)).2 (by have:=h8.1;omega)
   have ld1:(Lib.itoa (q.den:Int)).length≤8:=by rw[← zL];exact(zi _ 8 (by decide)).2 (by have:=h8.2;omega)
   go_wp2_with fail
   refine cx (zbX q h8 _ hEr) fun w1 hq1=>?_
   go_wp2_with fail
   refine cx (zgC q h8 _ (hEr.q hq1)) fun w2 hq2=>?_
   have hQ2:Q w w2:=hQ.trans ((hq1.trans (hq2.mono hq1.size)).mono hQ.size)
   go_wp2_with fail
   go_quiet ((go_at_call 50;exact zhx (zH _ _)))
   go_wp2
   go_roundw
   case rel=>exact⟨k+1,by omega,by go_num,Below.drewN (hQ2.alloc hQ2.size _) _,hE.q (Below.drewN (hQ2.alloc hQ2.size _) _)⟩
   case measure=>simp[intOf];omega
  ·obtain rfl:k=qs.length:=by omega
   go_wp2
   go_loop [36] (fun i=>∃ k:Nat,k≤rs.length∧i=.int .i64 k∧∀ q∈rs.take k,0≤q.num) (fun i=>rs.length - (intOf i).toNat)
   case atStart=>exact⟨0,by omega,rfl,by simp⟩
   case round =>
    obtain⟨k,hk,rfl,hall⟩:=hrel
    have HA:=LH hall
    clear hall
    by_cases hlt:k<rs.length
    ·have hcell:=hc2 k hlt
     have hcell':wr.cell? ⟨b2,o2+k,none⟩=some (.string ⟨((rs.map za).getD k []).toArray⟩):=by rw[hQ.cell (p:=⟨b2,o2+k,none⟩) hb2];exact hcell
     have hq:(rs.map za).getD k []=za rs[k]:=by rw[List.getD_eq_getElem?_getD,List.getElem?_map,List.getElem?_eq_getElem hlt];rfl
     rw[hq]at hcell'
     have HR:Hid (rs[k].num<0→¬ ∀ q∈rs,0≤q.num):=LH (fun hneg hx=>by have:=hx rs[k] (List.getElem_mem hlt);omega)
     have HN:Hid (¬ rs[k].num<0→∀ q∈rs.take (k+1),0≤q.num):=LH (fun hneg=>by
       rw[List.take_succ_eq_append_getElem hlt]
       intro q hq
       rcases List.mem_append.1 hq with hq | hq
       ·exact HA.out q hq
       ·rw[List.mem_singleton]at hq;subst hq;omega)
     clear hcell hq hc1 hc2 hq8 HA
     generalize hqk:rs[k]=q at hcell' HR HN
     clear hqk
     by_cases hneg:q.num<0
     ·have hd:decide ((za q).head? = some 45)=true:=by rw[decide_eq_true_eq,zdh];exact hneg
      have HX:Hid (¬ ∀ q∈rs,0≤q.num):=LH (HR.out hneg)
      clear hneg HR HN
      go_wp2_with (go_at_call 152;go_loud (refine(zc5 _ _).mono ?_);rintro e w1 ⟨rfl,rfl⟩)
      go_ret
      exact⟨zck (by rw[hans2.out HX.out];all_goals rfl),hQ⟩
     ·have hd:decide ((za q).head? = some 45)=false:=by rw[decide_eq_false_iff_not,zdh];exact hneg
      have HX:Hid (∀ q∈rs.take (k+1),0≤q.num):=LH (HN.out hneg)
      clear hneg HR HN
      go_wp2_with (go_at_call 152;go_loud (refine(zc5 _ _).mono ?_);rintro e w1 ⟨rfl,rfl⟩)
      go_round
      case rel=>exact⟨k+1,by omega,by go_num,HX.out⟩
      case measure=>simp[intOf];omega
    ·have HR:Hid (∀ q∈rs,0≤q.num):=LH (by
      have:=HA.out
      rw[List.take_of_length_le (by omega)]at this;exact this)
     clear hc1 hc2 hq8
     go_wp2
     go_ret
     exact⟨zck (by rw[hans1.out HR.out];all_goals rfl),hQ⟩
end
section
open Go.RowKit Kp
theorem zca.one{w:World}{b:Nat}{s:Str}{t:TypeId}(h:Blk w b [.string ⟨s.toArray⟩] t):zca w (.slice (some ⟨b,0,none⟩) 1 1) [s]:=by
 refine⟨b,0,1,rfl,h.lt,?_⟩
 intro i hi
 obtain rfl:i=0:=by simpa using hi
 exact h.cell 0
theorem zfc{n:Int}(h:0<n):(Lib.itoa n == [48])=false:=by
 rw[beq_eq_false_iff_ne,← zP]
 intro hx
 have:=zaj hx
 omega
theorem zeG(x:Int)(d:Nat)(hn:0<x)(hd:0<d)(hnd:x.toNat*d<100000000000000000)(w:World)(hE:Env w) :
  CR 102 #[.int .i64 x,.int .i64 d] w (.tuple #[.string ⟨(za (Rat.divInt (zaJ (x.toNat*d)).1 d)).toArray⟩,.string ⟨(Lib.itoa ((zaJ (x.toNat*d)).2:Int)).toArray⟩]):=by
 obtain⟨n,rfl⟩:∃ n:Nat,x=n:=⟨x.toNat,by omega⟩
 rw[Int.toNat_natCast]at *
 exact zhr n d (by omega) hd hnd w hE
theorem zht(q:Rat)(h:zy q)(hp:0<q.num)(w:World)(hE:Env w) :
  CR 66 #[.string ⟨(za q).toArray⟩] w (.tuple #[.string ⟨(za (Rat.divInt (zaJ (q.num.toNat*q.den)).1 q.den)).toArray⟩,.string ⟨(Lib.itoa ((zaJ (q.num.toNat*q.den)).2:Int)).toArray⟩,.int .i64 0]):=by
 go_enter Tryz.func66,Tryz.ntmps66
 go_wp2_with fail
 have B1:=((Blk.new w [.string ⟨(za q).toArray⟩] 22).alloc (.cells #[.string ⟨(za q).toArray⟩] 22))
 have B2:=Blk.new (w.alloc (.cells #[.string ⟨(za q).toArray⟩] 22)) [.string ⟨(za q).toArray⟩] 22
 have S2:=zca.one B2
 have e2:(w.alloc (.cells #[.string ⟨(za q).toArray⟩] 22)).heap.size=w.heap.size+1:=by simp
 rw[e2]at S2
 clear e2 B2
 refine(zil [q] [q] (by intro x hx;rw[List.mem_singleton]at hx;subst hx;exact h) _ _ _ (hE.q bt) (zca.one B1) S2 (by simp) (by simp)).mono ?_
 have hc:(if ∀ x∈[q],0≤x.num then(0:Int)else 2)=0:=if_pos (by intro x hx;rw[List.mem_singleton]at hx;subst hx;omega)
 rw[hc]
 clear S2 B1 hc
 rintro e w1⟨rfl,hq1⟩
 have hQ1:Q w w1:=(show Below w.heap.size w _ from bt).trans (hq1.mono (by simp;omega))
 clear hq1
 go_wp2_with fail
 refine cx (zgC q h _ (hE.q hQ1)) fun w2 hq2=>?_
 have hQ2:Q w w2:=hQ1.trans (hq2.mono hQ1.size)
 have nz:=zfc hp
 have lq1:(Lib.itoa q.num).length≤8:=by rw[show q.num=((q.num.toNat:Nat):Int)from by omega,← zL];exact(zi _ 8 (by decide)).2 (by have:=h.1;omega)
 have ld1:(Lib.itoa (q.den:Int)).length≤8:=by rw[← zL];exact(zi _ 8 (by decide)).2 (by have:=h.2;omega)
 go_wp2_with fail
 have B1:=Blk.new w2 [.string ⟨(Lib.itoa q.num).toArray⟩,.string ⟨(Lib.itoa (q.den:Int)).toArray⟩] 179
 have hQ3:Q w (w2.alloc (Obj.cells [.string ⟨(Lib.itoa q.num).toArray⟩,.string ⟨(Lib.itoa (q.den:Int)).toArray⟩].toArray 179)):=hQ2.alloc hQ2.size _
 refine cx (zdk q.num (by omega) _) fun w3 hq3=>?_
 have B3:=B1.keep hq3 (by simp)
 have hQ4:Q w w3:=hQ3.trans (hq3.mono hQ3.size)
 have c1:=B3.cell 1
 simp only[zs4,zs5]at c1
 clear B1 hQ3 hq3
 go_wp2_with fail
 refine cx (zdk (q.den:Int) (by omega) _) fun w4 hq4=>?_
 have hQ5:Q w w4:=hQ4.trans (hq4.mono hQ4.size)
 clear c1 B3 hQ4 hq4
 go_wp2_with fail
 have hnd:q.num.toNat*q.den<100000000000000000:=by
  have h1:q.num.toNat<100000000:=by have:=h.1;omega
  have:=Nat.mul_lt_mul'' h1 h.2
  omega
 refine cx (zeG q.num q.den hp q.den_pos hnd _ (hE.q hQ5)) fun w5 hq5=>?_
 have hQ6:Q w w5:=hQ5.trans (hq5.mono hQ5.size)
 go_wp2
 go_ret3
 exact⟨rfl,hQ6⟩
theorem zem(s:Str)(w:World) :
  Calls Tryz.prog 69 #[.string ⟨s.toArray⟩] w fun e w'=>e=.returned (.int .i64 (zo s).length)∧w=w':=by
 go_enter Tryz.func69,Tryz.ntmps69
 go_wp2_with fail
 refine(zH s _).mono ?_
 rintro e w1⟨rfl,rfl⟩
 go_wp2
 go_ret
 exact⟨rfl,rfl⟩
def zaL(q:Rat):Int:=max ((zo (Lib.itoa q.num)).length:Int) ((zo (Lib.itoa (q.den:Int))).length:Int)
theorem zae(q:Rat):0≤zaL q:=by unfold zaL;omega
theorem zf7{q:Rat}(h:zy q):zaL q≤8:=by
 have h1:(zo (Lib.itoa q.num)).length≤8:=by rw[zaa];exact(zi _ 8 (by decide)).2 (by have:=h.1;omega)
 have h2:(zo (Lib.itoa (q.den:Int))).length≤8:=by rw[zaa,Int.natAbs_natCast];exact(zi _ 8 (by decide)).2 (by have:=h.2;omega)
 unfold zaL;omega
theorem zeT(q:Rat)(h:zy q)(w:World)(hE:Env w) :
  CR 32 #[.string ⟨(za q).toArray⟩] w (.int .i64 (zaL q)):=by
 go_enter Tryz.func32,Tryz.ntmps32
 go_wp2_with fail
 refine cx (zc0 q h _ hE) fun w1 hq1=>?_
 go_wp2_with fail
 refine(zem _ _).mono ?_
 rintro e w2⟨rfl,rfl⟩
 go_wp2_with fail
 refine(zem _ _).mono ?_
 rintro e w3⟨rfl,rfl⟩
 go_wp2
 go_ret
 exact⟨rfl,hq1⟩
theorem zmQ:(Tryz.prog.info? 79).map (fun i=>(i.zero,i.size,i.bytes))=some (some (.agg #[.string ⟨#[]⟩,.string ⟨#[]⟩]),2,32):=by kernel_rfl
theorem zew:(Tryz.prog.info? 40).map (fun i=>(i.zero,i.size,i.bytes))=some (some (.agg #[.string ⟨#[]⟩,.string ⟨#[]⟩]),2,32):=by kernel_rfl
theorem zb8{P:Program}{t:TypeId}{z:Value}{n m:Nat}(h:(P.info? t).map (fun i=>(i.zero,i.size,i.bytes))=some (some z,n,m)):∃ i,P.info? t=some i∧i.zero=some z∧i.size=n∧i.bytes=m:=by
 cases hi:P.info? t with
 | none=>rw[hi]at h;simp at h
 | some i=>rw[hi]at h;simp at h;exact⟨i,rfl,h.1,h.2.1,h.2.2⟩
theorem zpz{w w1:World}{G T:Nat}{o x y:Value}(hg:w.grownBy w1 none)(hG:G<w.heap.size)(hT:T<w.heap.size)(hne:G≠T)(c:w.cell? ⟨G,0,none⟩=some o)
  (d0:w.cell? ⟨T,0,none⟩=some x)(d1:w.cell? ⟨T,1,none⟩=some y)(kf:w.frozen? ⟨G,0,none⟩=false) :
  w1.cell? ⟨G,0,none⟩=some o∧∀ v,(w1.setCell ⟨G,0,none⟩ v).cell? ⟨T,0,none⟩=some x∧(w1.setCell ⟨G,0,none⟩ v).cell? ⟨T,1,none⟩=some y∧(w1.setCell ⟨G,0,none⟩ v).frozen? ⟨G,0,none⟩=false:=by
 refine⟨(hg.cell_far _ hG (by simp)).trans c,fun v=>⟨?_,?_,?_⟩⟩
 ·exact(World.cell?_setCell_other w1 ⟨G,0,none⟩ ⟨T,0,none⟩ v (by intro h;exact hne (congrArg Addr.block h))).trans ((hg.cell_far _ hT (by simp)).trans d0)
 ·exact(World.cell?_setCell_other w1 ⟨G,0,none⟩ ⟨T,1,none⟩ v (by simp)).trans ((hg.cell_far _ hT (by simp)).trans d1)
 ·rw[World.frozen?_setCell];exact(hg.frozen_far _ hG (by simp)).trans kf
theorem zqY{w1:World}{G T:Nat}{x y:Value}(h:∀ v,(w1.setCell ⟨G,0,none⟩ v).cell? ⟨T,0,none⟩=some x∧(w1.setCell ⟨G,0,none⟩ v).cell? ⟨T,1,none⟩=some y∧(w1.setCell ⟨G,0,none⟩ v).frozen? ⟨G,0,none⟩=false):w1.frozen? ⟨G,0,none⟩=false:=by
 have:=(h (.int .i64 0)).2.2
 rw[World.frozen?_setCell]at this;exact this
theorem zrm{w w1:World}{G g cap:Nat}{s1 s2:Str}{A B:Obj}(hG:Blk w G [.slice none 0 0] 75)(hgrow:((w.alloc A).alloc B).drew.grownBy w1 none)
  (hown:w1.ownsRow (G+1) 79 2 (.slice (some ⟨g,0,none⟩) 1 cap) 1 [.string ⟨s1.toArray⟩,.string ⟨s2.toArray⟩]) :
  Below G w (w1.setCell ⟨G,0,none⟩ (.slice (some ⟨g,0,none⟩) 1 cap)) ∧
   ∃ v,Blk (w1.setCell ⟨G,0,none⟩ (.slice (some ⟨g,0,none⟩) 1 cap)) G [v] 75∧(w1.setCell ⟨G,0,none⟩ (.slice (some ⟨g,0,none⟩) 1 cap)).ownsRow (G+1) 79 2 v 1 [.string ⟨s1.toArray⟩,.string ⟨s2.toArray⟩]:=by
 have l0:=hG.lt
 have hl:G<((w.alloc A).alloc B).drew.heap.size:=by simp;omega
 have b1:Below G w ((w.alloc A).alloc B).drew:=(((Below.refl G w).alloc (by omega) A).alloc (by simp;omega) B).drew
 have b2:Below G w w1:=b1.grown hgrow (by omega) (by simp)
 have bG:Blk w1 G [.slice none 0 0] 75:=(hgrow.block G hl (by simp)).trans ((hG.alloc A).alloc B)
 refine⟨b2.setCell (p:=⟨G,0,none⟩) (Nat.le_refl _) _,_,bG.set 0 _,ownsRow_setCell_below hown (by simp) _⟩
theorem zdL(G:Nat)(s1 s2:Str)(w:World)(hG:Blk w G [.slice none 0 0] 75) :
  Calls Tryz.prog 31 #[.pointer (some ⟨G,0,none⟩),.agg #[.string ⟨s1.toArray⟩,.string ⟨s2.toArray⟩]] w fun e w'=>e=.returned (.int .i64 0)∧Below G w w' ∧
   ∃ v,Blk w' G [v] 75∧w'.ownsRow (G+1) 79 2 v 1 [.string ⟨s1.toArray⟩,.string ⟨s2.toArray⟩]:=by
 have c0:=hG.cell 0
 have f0:=hG.frozen 0
 have l0:=hG.lt
 simp only[List.getElem?_cons_zero]at c0
 obtain⟨i0,hi,hz0,hz1,hz2⟩:=zb8 zmQ
 have HI:=LH hi
 have HZ:=LH hz0
 have HS:=LH hz1
 have HB:=LH hz2
 clear hi hz0 hz1 hz2
 go_enter Tryz.func31,Tryz.ntmps31
 go_wp2
 go_loop [19] (fun i=>i=.int .i64 0) (fun _=>0)
 case atStart=>rfl
 case round =>
  subst hrel
  go_wp2
  have t0:=World.new_ne w ⟨G,0,none⟩ c0
  have hsz:(w.alloc (Obj.cells #[.string ⟨s1.toArray⟩,.string ⟨s2.toArray⟩] 40)).heap.size=w.heap.size+1:=by simp
  have BT:=Blk.new w [.string ⟨s1.toArray⟩,.string ⟨s2.toArray⟩] 40
  have hnew:((w.alloc (Obj.cells #[.string ⟨s1.toArray⟩,.string ⟨s2.toArray⟩] 40)).alloc (Obj.cells #[.string ⟨s1.toArray⟩,.string ⟨s2.toArray⟩] 79)).heap[w.heap.size+1]? = some (.cells #[.string ⟨s1.toArray⟩,.string ⟨s2.toArray⟩] 79 (0,0)):=by rw[← hsz];exact heap_alloc_new _ _
  have k0:=(hG.alloc (Obj.cells #[.string ⟨s1.toArray⟩,.string ⟨s2.toArray⟩] 40)).cell 0
  have d0:=BT.cell 0
  have d1:=BT.cell 1
  have kf:=(hG.alloc (Obj.cells #[.string ⟨s1.toArray⟩,.string ⟨s2.toArray⟩] 40)).frozen 0
  have k02:=((hG.alloc (Obj.cells #[.string ⟨s1.toArray⟩,.string ⟨s2.toArray⟩] 40)).alloc (Obj.cells #[.string ⟨s1.toArray⟩,.string ⟨s2.toArray⟩] 79)).cell 0
  simp only[List.getElem?_cons_zero]at k02
  have d02:=(BT.alloc (Obj.cells #[.string ⟨s1.toArray⟩,.string ⟨s2.toArray⟩] 79)).cell 0
  have d12:=(BT.alloc (Obj.cells #[.string ⟨s1.toArray⟩,.string ⟨s2.toArray⟩] 79)).cell 1
  simp only[zs4,zs5]at d02 d12
  have hGT:G≠w.heap.size:=by omega
  have hlG:G<((w.alloc (Obj.cells #[.string ⟨s1.toArray⟩,.string ⟨s2.toArray⟩] 40)).alloc (Obj.cells #[.string ⟨s1.toArray⟩,.string ⟨s2.toArray⟩] 79)).heap.size:=by simp;omega
  have hlT:w.heap.size<((w.alloc (Obj.cells #[.string ⟨s1.toArray⟩,.string ⟨s2.toArray⟩] 40)).alloc (Obj.cells #[.string ⟨s1.toArray⟩,.string ⟨s2.toArray⟩] 79)).heap.size:=by simp;omega
  have kf2:=((hG.alloc (Obj.cells #[.string ⟨s1.toArray⟩,.string ⟨s2.toArray⟩] 40)).alloc (Obj.cells #[.string ⟨s1.toArray⟩,.string ⟨s2.toArray⟩] 79)).frozen 0
  have hQ0:Below G w (w.alloc (Obj.cells #[.string ⟨s1.toArray⟩,.string ⟨s2.toArray⟩] 40)):=(Below.refl G w).alloc (by omega) _
  simp only[zs4,zs5]at k0 d0 d1
  go_region_law
   (first | (refine step_append_lies _ (by rfl) (.tmp 73) (.tmp 79) 73 (by rfl) (G+1) 79 i0 _ 2 32 Tryz.underlying73 HI.out HZ.out HS.out HB.out rfl (by decide) (.slice none 0 0) 0 [] (by rfl) (World.ownsRow_nil _ _ _ _) ⟨w.heap.size+1,0,none⟩ 1 1 [.string ⟨s1.toArray⟩,.string ⟨s2.toArray⟩] (by rfl) (by rfl) (World.news_of_block (cs:=#[.string ⟨s1.toArray⟩,.string ⟨s2.toArray⟩]) (t:=79) (fr:=(0,0)) hnew) (by simp[Value.oneCell']) (by decide) (by decide) (by decide) (by simp;omega) (w.heap.size+2) (by simp) ?_;intro g cap w1 hown hgrow hat hlt;have hh:=zpz (w1:=w1) (T:=w.heap.size) (x:=.string ⟨s1.toArray⟩) (y:=.string ⟨s2.toArray⟩) hgrow hlG hlT hGT k02 d02 d12 kf2;have c1:=hh.1;have fz:=zqY hh.2))
  all_goals go_wp2
  all_goals go_ret
  all_goals exact⟨rfl,zrm hG hgrow hown⟩
end
end Go.Proofs.YtdecodpgdainiaaGreatDoor
