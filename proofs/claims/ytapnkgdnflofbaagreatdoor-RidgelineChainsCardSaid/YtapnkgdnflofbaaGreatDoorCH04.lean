/-
  Walks: rational.Check, Parts, Compare at numbers with short parts; Of at short ints.; Walks: rational.Of at short ints, Compare at short numbers; root.native, nativeRoot.; Walks: root.nativeNormal.; Walks: root.check, of, negative, Normal at numbers with short parts.; Walks: root.Normal at numbers with short parts.; Walks: surd.visit and surd.Make at one term of small numbers.; Walks: timber.stretched, Square, Plumb at small numbers.; Walks: timber.Print.
-/
import Derived.Test.YtapnkgdnflofbaaGreatDoorCH03
import Derived.Test.YtapnkgdnflofbaaGreatDoorCH02
import Derived.Test.YtapnkgdnflofbaaGreatDoorCH00
import Derived.Deep.RegionHeld3
import Derived.Deep.AppendLies
import Derived.Lib.SmallJoins
import Derived.Test.YtapnkgdnflofbaaGreatDoorCH01
import Derived.Lib.MinMax
set_option maxRecDepth 100000
set_option maxHeartbeats 1000000
namespace Go.Proofs.YtapnkgdnflofbaaGreatDoor
section
open Go.RowKit Kp
theorem zeB(n:Int)(k:Nat)(hk:0<k)(hn:(Lib.itoa n).length≤18)(hd:(Lib.itoa (k:Int)).length≤18)(w:World)(hE:Env w) :
  CR 78 #[.string ⟨(Lib.itoa n).toArray⟩,.string ⟨(Lib.itoa (k:Int)).toArray⟩] w (.tuple #[.string ⟨(ze (Rat.divInt n k)).toArray⟩,.int .i64 0]):=by
 have hk1:=zaC hd
 have hg1:0<Nat.gcd n.natAbs k:=Nat.gcd_pos_of_pos_right _ (by omega)
 have hg2:Nat.gcd n.natAbs k≤k:=Nat.le_of_dvd (by omega) (Nat.gcd_dvd_right ..)
 have HR:=LH (zcO n k hk)
 generalize ze (Rat.divInt n k)=r at *
 have HG:=LH (zdS n (k:Int) hn hd)
 rw[Int.natAbs_natCast]at HG
 have hmin:decide ((Lib.itoa (k:Int)).head? = some 45)=false:=by
  rw[← zB,decide_eq_false_iff_not];exact zF k
 have lg:(Lib.itoa (Nat.gcd n.natAbs k:Int)).length≤18:=zkT (by omega) hd
 generalize hgg:Nat.gcd n.natAbs k=g at *
 clear hgg
 have lq1:=zgl n g hn
 have lq2:=zgl (k:Int) g hd
 have hg0:(g:Int)≠0:=by omega
 by_cases h1:g=1
 ·have hb:(Lib.itoa (g:Int) == [49])=true:=by rw[h1];simp[Lib.itoa,Lib.decDigits]
  have hb':=zbR hb
  have e1:n.fdiv (g:Int)=n:=by rw[h1];simp
  have e2:(k:Int).fdiv (g:Int)=k:=by rw[h1];simp
  rw[e1,e2]at HR
  clear e1 e2
  by_cases h2:(k:Int)=1
  ·have hc:(Lib.itoa (k:Int) == [49])=true:=by rw[h2];simp[Lib.itoa,Lib.decDigits]
   have H2:=LH h2
   clear h2 h1
   go_enter Tryz.func78,Tryz.ntmps78
   go_wp2_with (first | (go_at_call 96;refine(zW _ _).mono ?_;rintro e w1 ⟨rfl,rfl⟩)|(go_at_call 149;refine(HG.out _ hE).mono ?_;rintro e w1 ⟨rfl,hq1⟩))
   go_ret2
   exact⟨by rw[HR.out,if_pos H2.out];rfl,hq1⟩
  ·have hc:(Lib.itoa (k:Int) == [49])=false:=by
    rw[beq_eq_false_iff_ne,← zai];exact fun e=>h2 (zak e)
   have H2:=LH h2
   clear h2 h1
   go_enter Tryz.func78,Tryz.ntmps78
   go_wp2_with (first | (go_at_call 96;refine(zW _ _).mono ?_;rintro e w1 ⟨rfl,rfl⟩)|(go_at_call 149;refine(HG.out _ hE).mono ?_;rintro e w1 ⟨rfl,hq1⟩))
   go_ret2
   exact⟨by rw[HR.out,if_neg H2.out];first | rfl | (simp;done),hq1⟩
 ·have hb:(Lib.itoa (g:Int) == [49])=false:=by
   rw[beq_eq_false_iff_ne,← zai];exact fun e=>h1 (by have:=zak e;omega)
  have hb':=zaB hb
  by_cases h2:(k:Int).fdiv (g:Int)=1
  ·have hc:(Lib.itoa ((k:Int).fdiv (g:Int)) == [49])=true:=by rw[h2];simp[Lib.itoa,Lib.decDigits]
   have H2:=LH h2
   clear h2 h1
   go_enter Tryz.func78,Tryz.ntmps78
   go_wp2_with (first | (go_at_call 96;refine(zW _ _).mono ?_;rintro e w1 ⟨rfl,rfl⟩)|(go_at_call 149;refine(HG.out _ hE).mono ?_;rintro e w1 ⟨rfl,hq1⟩) | fail)
   refine cx (zaP n g hn lg hg0 _ (hE.q hq1)) fun w2 hq2=>?_
   have hQ2:Q w w2:=hq1.trans (hq2.mono hq1.size)
   go_wp2_with fail
   refine cx (zaP (k:Int) g hd lg hg0 _ (hE.q hQ2)) fun w3 hq3=>?_
   go_wp2
   go_ret2
   exact⟨by rw[HR.out,if_pos H2.out];rfl,hQ2.trans (hq3.mono hQ2.size)⟩
  ·have hc:(Lib.itoa ((k:Int).fdiv (g:Int)) == [49])=false:=by
    rw[beq_eq_false_iff_ne,← zai];exact fun e=>h2 (zak e)
   have H2:=LH h2
   clear h2 h1
   go_enter Tryz.func78,Tryz.ntmps78
   go_wp2_with (first | (go_at_call 96;refine(zW _ _).mono ?_;rintro e w1 ⟨rfl,rfl⟩)|(go_at_call 149;refine(HG.out _ hE).mono ?_;rintro e w1 ⟨rfl,hq1⟩) | fail)
   refine cx (zaP n g hn lg hg0 _ (hE.q hq1)) fun w2 hq2=>?_
   have hQ2:Q w w2:=hq1.trans (hq2.mono hq1.size)
   go_wp2_with fail
   refine cx (zaP (k:Int) g hd lg hg0 _ (hE.q hQ2)) fun w3 hq3=>?_
   go_wp2
   go_ret2
   exact⟨by rw[HR.out,if_neg H2.out];first | rfl | (simp;done),hQ2.trans (hq3.mono hQ2.size)⟩
theorem zbe(n:Int)(k:Nat)(hk:0<k)(hn:n.natAbs<100000000000000000)(hd:k<100000000000000000)(w:World)(hE:Env w) :
  CR 193 #[.int .i64 n,.int .i64 k] w (.tuple #[.string ⟨(ze (Rat.divInt n k)).toArray⟩,.int .i64 0]):=by
 have l1:=zjS hn
 have l2:=zjS (x:=(k:Int)) (by omega)
 have b0:((k:Int) == 0)=false:=by simp;omega
 by_cases h1:k=1
 ·subst h1
  have HR:Hid (ze (Rat.divInt n (1:Nat))=Lib.itoa n):=LH (by rw[zcO n 1 (by decide)];simp)
  go_enter Tryz.func193,Tryz.ntmps193
  go_wp2_with fail
  refine cx (zaq n (by omega) (by omega) _ hE) fun w1 hq1=>?_
  go_wp2
  go_ret2
  exact⟨by rw[HR.out];rfl,hq1⟩
 ·have b1:((k:Int) == 1)=false:=by simp;omega
  go_enter Tryz.func193,Tryz.ntmps193
  go_wp2_with fail
  refine cx (zaq n (by omega) (by omega) _ hE) fun w1 hq1=>?_
  go_wp2_with fail
  refine cx (zaq (k:Int) (by omega) (by omega) _ (hE.q hq1)) fun w2 hq2=>?_
  have hQ2:Q w w2:=hq1.trans (hq2.mono hq1.size)
  go_wp2_with fail
  refine cx (zeB n k hk l1 l2 _ (hE.q hQ2)) fun w3 hq3=>?_
  go_wp2
  go_ret2
  exact⟨rfl,hQ2.trans (hq3.mono hQ2.size)⟩
theorem zfq(x:Int)(h:(Lib.itoa x).length≤17)(w:World) :
  CR 215 #[.string ⟨(Lib.itoa x).toArray⟩] w (.tuple #[.int .i64 x,.bool true]):=by
 go_enter Tryz.func215,Tryz.ntmps215
 go_wp2_with fail
 refine cx (zgk x (by omega) _) fun w1 hq1=>?_
 go_wp2
 go_quiet (fail)
 go_wp2
 go_ret2
 exact⟨rfl,Below.drewN hq1 _⟩
theorem zhD(s:Str)(h:17<s.length)(hl:s.length≤1000000000)(w:World) :
  Calls Tryz.prog 215 #[.string ⟨s.toArray⟩] w fun e w'=>e=.returned (.tuple #[.int .i64 0,.bool false])∧w=w':=by
 go_enter Tryz.func215,Tryz.ntmps215
 go_wp2
 go_ret2
 exact⟨rfl,rfl⟩
theorem zez(n:Nat)(hn:n<100000000000000000)(w:World) :
  Calls Tryz.prog 278 #[.int .i64 n] w fun e w'=>e=.returned (.int .i64 (zw n))∧w=w':=by
 by_cases h2:n<2
 ·have HR:=LH (ziP h2)
  go_enter Tryz.func278,Tryz.ntmps278
  go_wp2
  go_ret
  exact⟨zcH (by rw[HR.out];all_goals rfl),rfl⟩
 ·have hs:=zq8 (n:=n) (by omega)
  have hp57:(2:Nat) ^ 57=144115188075855872:=by decide
  have hbl:Lib.bitLen n≤57:=bitLen_le (by omega)
  clear hp57
  have HS:=LH hs
  clear hs
  go_enter Tryz.func278,Tryz.ntmps278
  go_wp2_with (go_at_call 53;go_loud (refine(Tryz.bits_Len _ _ (by omega) (by omega)).mono ?_);rintro e w1 ⟨rfl,rfl⟩)
  go_loop [3] (fun x=>∃ r:Nat,0<r∧r≤1000000000∧x=.int .i64 r∧n<(r+1)*(r+1)) (fun x=>(intOf x).toNat)
  case atStart =>
   have hk:(Lib.bitLen n+1) / 2≤29:=by omega
   have h29:(2:Nat) ^ ((Lib.bitLen n+1) / 2)≤2 ^ 29:=Nat.pow_le_pow_right (by decide) hk
   have p29:(2:Nat) ^ 29=536870912:=by decide
   refine⟨2 ^ ((Lib.bitLen n+1) / 2),Nat.pow_pos (by decide),by omega,?_,HS.out⟩
   have e:((2:Int) ^ ((Lib.bitLen n+1) / 2))=((2 ^ ((Lib.bitLen n+1) / 2):Nat):Int):=by simp
   rw[e]
   generalize hg:(2:Nat) ^ ((Lib.bitLen n+1) / 2)=g at *
   have:wrap64 ((g:Nat):Int)=(g:Int):=by unfold wrap64;omega
   rw[this]
  case round =>
   obtain⟨r,hr0,hr1,rfl,hlt⟩:=hrel
   have HL:=LH hlt
   clear hlt
   have hq:n / r≤n:=Nat.div_le_self _ _
   have hq1:(n:Int) / r=((n / r:Nat):Int):=by simp
   have hq2:0≤(n:Int) / r:=Int.ediv_nonneg (by omega) (by omega)
   have hq3:(n:Int) / r≤100000000000000000:=Int.le_trans (Int.ediv_le_self _ (by omega)) (by omega)
   have hr2:((r:Int) == 0)=false:=by simp;omega
   have HQ:=LH hq1
   clear hq1
   by_cases hd:r≤(r+n / r) / 2
   ·have HR:=LH (ze4 (zfG hr0 HL.out hd))
    have hd':(r:Int)≤((r:Int)+(n:Int) / r) / 2:=by rw[HQ.out];omega
    clear hd
    go_wp2
    go_ret
    exact⟨zcH (by rw[HR.out];all_goals rfl),rfl⟩
   ·have hd':((r:Int)+(n:Int) / r) / 2<r:=by rw[HQ.out];omega
    have HN:=LH (ziB (n:=n) hr0)
    have hpos:0<(r+n / r) / 2:=by
     rcases Nat.eq_zero_or_pos ((r+n / r) / 2)with h0 | h0
     ·have:=HN.out;rw[h0]at this;omega
     ·exact h0
    go_wp2
    go_round
    case rel=>exact⟨(r+n / r) / 2,hpos,by omega,by rw[HQ.out];go_num,HN.out⟩
    case measure=>simp only[intOf];rw[HQ.out];omega
def zgb:Array Value:=(zc3.map fun s=>Value.string ⟨s.toArray⟩).toArray
theorem zsY{n:Nat}(h:n<100):Lib.decDigits n=if n<10 then [UInt8.ofNat (48+n)]else [UInt8.ofNat (48+n / 10),UInt8.ofNat (48+n % 10)]:=by
 rw[Lib.decDigits]
 split
 ·rfl
 ·rw[Lib.decDigits,dif_pos (by omega)];rfl
theorem zmR(k:Nat)(h:k<25):zc3.getD k []=Lib.itoa (zK.getD k 0:Int):=by
 have key:∀ j:Fin 25,zK.getD j.val 0<100∧zc3.getD j.val []=if zK.getD j.val 0<10 then [UInt8.ofNat (48+zK.getD j.val 0)]else [UInt8.ofNat (48+zK.getD j.val 0 / 10),UInt8.ofNat (48+zK.getD j.val 0 % 10)]:=by decide
 obtain⟨h1,h2⟩:=key ⟨k,h⟩
 rw[← zB,zsY h1];exact h2
theorem zeF(k:Nat)(h:k<25):2≤zK.getD k 0∧zK.getD k 0≤97:=by
 have:∀ j:Fin 25,2≤zK.getD j.val 0∧zK.getD j.val 0≤97:=by decide
 exact this ⟨k,h⟩
theorem zmQ(k:Nat)(h:k<25):(Lib.itoa (zK.getD k 0:Int)).length≤17:=by
 have:=zeF k h
 have h2:(Lib.decDigits (zK.getD k 0)).length≤2:=(zm _ 2 (by decide)).2 (by omega)
 rw[← zB];omega
theorem zlD(k:Nat)(h:k=0∨k=1∨k=2∨k=3∨k=4∨k=5∨k=6∨k=7∨k=8∨k=9∨k=10∨k=11∨k=12∨k=13∨k=14∨k=15∨k=16∨k=17∨k=18∨k=19∨k=20∨k=21∨k=22∨k=23∨k=24)(w:World):(Instr.index 333 (.agg zgb) (.int .i64 (k:Nat))).run Tryz.prog w=.ok (.string ⟨(zc3.getD k []).toArray⟩) w:=by
 rcases h with rfl | rfl | rfl | rfl | rfl | rfl | rfl | rfl | rfl | rfl | rfl | rfl | rfl | rfl | rfl | rfl | rfl | rfl | rfl | rfl | rfl | rfl | rfl | rfl | rfl
 all_goals kernel_rfl
theorem zis(k:Nat)(h:k<25)(w:World):(Instr.index 333 (.agg zgb) (.int .i64 (k:Nat))).run Tryz.prog w=.ok (.string ⟨(Lib.itoa (zK.getD k 0:Int)).toArray⟩) w:=by
 rw[← zmR k h]
 exact zlD k (by omega) w
def zth(w:World)(n:Nat)(c l i:Value)(wr:World):Prop :=
 ∃ (k a b:Nat),k≤25∧i=.int .i64 k∧c=.int .i64 a∧l=.int .i64 b∧zL (zK.take k) (1,n)=(a,b)∧StripInv n a b∧Q w wr∧Env wr
def zr2(w:World)(n k:Nat)(c l:Value)(wr:World):Prop :=
 ∃ (a b:Nat),c=.int .i64 a∧l=.int .i64 b∧zbc (zK.getD k 0) a b=zL (zK.take (k+1)) (1,n)∧StripInv n a b∧Q w wr∧Env wr
theorem zgC.row{w:World}{g:Nat}(h:zgC w g zc3):∃ t f,w.heap[g]? = some (.cells zgb t f):=h
theorem zgO(n d:Nat)(hn:0<n)(hd:0<d)(hnd:n*d<100000000000000000)(w:World)(hE:Env w) :
  CR 216 #[.int .i64 n,.int .i64 d] w (.tuple #[.string ⟨(ze (Rat.divInt (za0 (n*d)).1 d)).toArray⟩,.string ⟨(Lib.itoa ((za0 (n*d)).2:Int)).toArray⟩]):=by
 obtain⟨tp,fp,hrow⟩:=hE.primes.row
 have hm:0<n*d:=Nat.mul_pos hn hd
 have hdl:d<100000000000000000:=by
  have:1*d≤n*d:=Nat.mul_le_mul_right _ hn
  omega
 have e0:(n:Int)*(d:Int)=((n*d:Nat):Int):=by simp
 have E0:=LH e0
 have b1:(n:Int)*(d:Int)≤100000000000000000:=by rw[e0];omega
 have b0:0≤(n:Int)*(d:Int):=by rw[e0];omega
 clear e0
 go_enter Tryz.func216,Tryz.ntmps216
 go_wp2_with (refine wpList_load_row rfl 333 _ rfl 2 rfl tp zgb fp _ hrow Tryz.underlying333 rfl (by kernel_rfl) ?_)
 go_loopw [6,7,19] (zth w (n*d)) (fun _ _ i _=>25 - (intOf i).toNat)
 case atStart=>exact⟨0,1,n*d,by omega,rfl,rfl,by rw[E0.out],rfl,⟨hm,by decide,by simp⟩,Below.refl _ _,hE⟩
 case round =>
  obtain⟨k,a,b,hk,rfl,rfl,rfl,hs,hinv,hQ,hEr⟩:=hrel
  have HS:=LH hs
  have HI:=LH hinv
  clear hs hinv
  by_cases hlt:k<25
  ·have hidx:=zis k hlt
   have hp:=zeF k hlt
   have hps:=zmQ k hlt
   have HT:=LH (zde k hlt (1,n*d))
   generalize hpp:zK.getD k 0=p at *
   have HP:=LH hpp
   clear hpp
   go_wp2_with (go_at_call 197;go_loud (refine(zgk (p:Int) (by omega) _).mono ?_);rintro e w1 ⟨rfl,hq1⟩)
   have hQ1:Q w w1:=hQ.trans (hq1.mono hQ.size)
   have hE1:=hE.q hQ1
   clear hidx
   go_loopw [6,7] (zr2 w (n*d) k) (fun _ l _=>(intOf l).toNat)
   case atStart=>exact⟨a,b,rfl,rfl,by rw[HT.out,HS.out,HP.out],HI.out,hQ1,hE1⟩
   case round =>
    obtain⟨a',b',rfl,rfl,hs',hinv',hQ',hE'⟩:=hrel
    have HS':=LH hs'
    have HI':=LH hinv'
    have hb':=hinv'.bounds.1
    have ha':=hinv'.small hnd
    clear hs' hinv'
    have hpp0:4≤p*p:=Nat.mul_le_mul hp.1 hp.1
    have hpp1:p*p≤97*97:=Nat.mul_le_mul hp.2 hp.2
    have hap:a'*p≤1000000000*97:=Nat.mul_le_mul (by omega) hp.2
    have c1:(p:Int)*p=((p*p:Nat):Int):=by simp
    have c2:(a':Int)*p=((a'*p:Nat):Int):=by simp
    have d1:(p:Int)*p≤10000:=by rw[c1];omega
    have d2:0<(p:Int)*p:=by rw[c1];omega
    have d3:(a':Int)*p≤100000000000:=by rw[c2];omega
    have d4:0≤(a':Int)*p:=by rw[c2];omega
    have d5:((p:Int)*p == 0)=false:=by simp;omega
    have c3:(b':Int) % ((p:Int)*p)=((b' % (p*p):Nat):Int):=by simp
    have c4:(b':Int) / ((p:Int)*p)=((b' / (p*p):Nat):Int):=by simp
    have d6:0≤(b':Int) / ((p:Int)*p):=Int.ediv_nonneg (by omega) (by omega)
    have hble:b' / (p*p)≤b':=Nat.div_le_self _ _
    have d7:(b':Int) / ((p:Int)*p)≤100000000000000000:=Int.le_trans (Int.ediv_le_self _ (by omega)) (by omega)
    have C2:=LH c2
    have C4:=LH c4
    by_cases hz:b' % (p*p)=0
    ·have t:((b':Int) % ((p:Int)*p) == 0)=true:=by rw[c3,hz];rfl
     have HN:=LH (HI'.out.next hp.1 hz)
     have hlt':b' / (p*p)<b':=Nat.div_lt_self HI'.out.pos (by omega)
     have HY:=LH (ze0 (c:=a') hp.1 HI'.out.pos hz)
     clear c1 c2 c3 c4 hz
     go_wp2
     go_quiet (fail)
     go_wp2
     go_roundw
     case rel=>exact⟨a'*p,b' / (p*p),by rw[C2.out],by rw[C4.out],by rw[HP.out,← HY.out];rw[HP.out]at HS';exact HS'.out,HN.out,Below.drewN hQ' _,hE'.drewN _⟩
     case measure=>simp only[intOf];rw[C4.out,Int.toNat_natCast,Int.toNat_natCast];exact hlt'
    ·have t:((b':Int) % ((p:Int)*p) == 0)=false:=by rw[c3];simp;omega
     have HY:=LH (zfS (p:=p) (c:=a') (m:=b') hz)
     clear c1 c2 c3 c4 hz
     go_wp2
     go_roundw
     case rel=>exact⟨k+1,a',b',by omega,by go_num,rfl,rfl,by rw[← HS'.out,HP.out,HY.out],HI'.out,hQ',hE'⟩
     case measure=>simp only[intOf];omega
  ·obtain rfl:k=25:=by omega
   have hble:=HI.out.bounds.1
   have hasm:=HI.out.small hnd
   have hsq:=(zcV b).1
   have hrle:=zgm b
   have HM:Hid (za0 (n*d)=if zw b*zw b=b then(a*zw b,1)else(a,b)):=LH (by
    unfold za0
    have e:zL zK (1,n*d)=(a,b):=by rw[← HS.out];rfl
    rw[e])
   have c1:(zw b:Int)*(zw b:Int)=((zw b*zw b:Nat):Int):=by simp
   have d1:(zw b:Int)*(zw b:Int)≤100000000000000000:=by rw[c1];omega
   have d2:0≤(zw b:Int)*(zw b:Int):=by rw[c1];omega
   have har:a*zw b<100000000000000000:=by
    have e1:=HI.out.eq
    have e2:(a*zw b)*(a*zw b)≤a*a*b:=by
     have:(a*zw b)*(a*zw b)=a*a*(zw b*zw b):=by grind
     rw[this];exact Nat.mul_le_mul_left _ hsq
    rcases Nat.lt_or_ge (a*zw b) 100000000000000000 with x | x
    ·exact x
    ·have:1*(a*zw b)≤(a*zw b)*(a*zw b):=Nat.mul_le_mul_right _ (by omega)
     omega
   have c2:(a:Int)*(zw b:Int)=((a*zw b:Nat):Int):=by simp
   have d3:(a:Int)*(zw b:Int)<100000000000000000:=by rw[c2];omega
   have d4:0≤(a:Int)*(zw b:Int):=by rw[c2];omega
   have HB:=LH (zez b (by omega))
   have C2:=LH c2
   by_cases hz:zw b*zw b=b
   ·have t:((zw b:Int)*(zw b:Int) == (b:Int))=true:=by rw[c1,hz];simp
    have HZ:=LH hz
    clear c1 c2 hz hsq
    generalize zw b=r at *
    go_wp2_with fail
    refine(HB.out _).mono ?_
    rintro e w1⟨rfl,rfl⟩
    go_wp2_with fail
    refine cx (zbe _ d hd (by omega) (by omega) _ hEr) fun w2 hq2=>?_
    have hQ2:Q w w2:=hQ.trans (hq2.mono hQ.size)
    go_wp2_with fail
    refine cx (zaq _ (by omega) (by omega) _ (hE.q hQ2)) fun w3 hq3=>?_
    go_wp2
    go_ret2
    exact⟨by rw[HM.out,if_pos HZ.out];simp only;rw[← C2.out];rfl,hQ2.trans (hq3.mono hQ2.size)⟩
   ·have t:((zw b:Int)*(zw b:Int) == (b:Int))=false:=by rw[c1];simp;omega
    have HZ:=LH hz
    clear c1 c2 hz hsq
    generalize zw b=r at *
    go_wp2_with fail
    refine(HB.out _).mono ?_
    rintro e w1⟨rfl,rfl⟩
    go_wp2_with fail
    refine cx (zbe _ d hd (by omega) (by omega) _ hEr) fun w2 hq2=>?_
    have hQ2:Q w w2:=hQ.trans (hq2.mono hQ.size)
    go_wp2_with fail
    refine cx (zaq _ (by omega) (by omega) _ (hE.q hQ2)) fun w3 hq3=>?_
    go_wp2
    go_ret2
    exact⟨by rw[HM.out,if_neg HZ.out];rfl,hQ2.trans (hq3.mono hQ2.size)⟩
theorem zjH{P:Program}{f:FuncId}{args:Array Value}{w:World}{n:Nat}{v:Value}
  (h:Calls P f args (w.drewN n) fun e w'=>e=.returned v∧w.drewN n=w'):Calls P f args (w.drewN n) fun e w''=>e=.returned v∧∃ m,w''=w.drewN m :=
 h.mono fun _ _ ⟨he,hm⟩=>⟨he,n,hm.symm⟩
def zb2(w:World)(v:Value)(l:List Str):Prop :=
 ∃ b off cap,v=.slice (some ⟨b,off,none⟩) l.length cap∧b<w.heap.size∧∀ i,i<l.length→w.cell? ⟨b,off+i,none⟩=some (.string ⟨(l.getD i []).toArray⟩)
theorem zfZ(s:Str)(w:World) :
  Calls Tryz.prog 277 #[.string ⟨s.toArray⟩] w fun e w'=>e=.returned (.bool (decide (s.head? = some 45)))∧w=w':=by
 go_enter Tryz.func277,Tryz.ntmps277
 go_wp2_with fail
 refine(zW s _).mono ?_
 rintro e w1⟨rfl,rfl⟩
 go_wp2
 go_ret
 exact⟨rfl,rfl⟩
theorem ztu(tmps:Array Value)(W:World)(b:Nat)(x y:Value)(hp:tmps.getD 2 undef=.pointer (some ⟨b,0,none⟩))
  (c0:W.cell? ⟨b,0,none⟩=some x)(c1:W.cell? ⟨b,1,none⟩=some y) :
  (results Tryz.f214 tmps).run Tryz.prog W=.ok (.agg #[x,y]) W:=by
 simp only[Array.getD_eq_getD_getElem?]at hp
 simp[results,Tryz.results214,go_sem,hp,c0,c1]
theorem zfW(q:Rat):(ze q).head? = some 45 ↔ q.num<0:=by
 unfold ze;split
 ·have:=zcd q.num [];rw[List.append_nil]at this;exact this
 ·exact zcd q.num _
theorem zb2.one{w:World}{b:Nat}{s:Str}{t:TypeId}(h:Blk w b [.string ⟨s.toArray⟩] t):zb2 w (.slice (some ⟨b,0,none⟩) 1 1) [s]:=by
 refine⟨b,0,1,rfl,h.lt,?_⟩
 intro i hi
 obtain rfl:i=0:=by simpa using hi
 exact h.cell 0
theorem zhr{n:Int}(h:0<n):(Lib.itoa n == [48])=false:=by
 rw[beq_eq_false_iff_ne,← zae]
 intro hx
 have:=zak hx
 omega
theorem zhI(x:Int)(d:Nat)(hn:0<x)(hd:0<d)(hnd:x.toNat*d<100000000000000000)(w:World)(hE:Env w) :
  CR 216 #[.int .i64 x,.int .i64 d] w (.tuple #[.string ⟨(ze (Rat.divInt (za0 (x.toNat*d)).1 d)).toArray⟩,.string ⟨(Lib.itoa ((za0 (x.toNat*d)).2:Int)).toArray⟩]):=by
 obtain⟨n,rfl⟩:∃ n:Nat,x=n:=⟨x.toNat,by omega⟩
 rw[Int.toNat_natCast]at *
 exact zgO n d (by omega) hd hnd w hE
theorem zh4(s:Str)(w:World) :
  Calls Tryz.prog 167 #[.string ⟨s.toArray⟩] w fun e w'=>e=.returned (.int .i64 (zo s).length)∧w=w':=by
 go_enter Tryz.func167,Tryz.ntmps167
 go_wp2_with fail
 refine(zP s _).mono ?_
 rintro e w1⟨rfl,rfl⟩
 go_wp2
 go_ret
 exact⟨rfl,rfl⟩
def za6(q:Rat):Int:=max ((zo (Lib.itoa q.num)).length:Int) ((zo (Lib.itoa (q.den:Int))).length:Int)
theorem zax(q:Rat):0≤za6 q:=by unfold za6;omega
theorem zma:(Tryz.prog.info? 160).map (fun i=>(i.zero,i.size,i.bytes))=some (some (.agg #[.string ⟨#[]⟩,.string ⟨#[]⟩]),2,32):=by kernel_rfl
theorem zrC:(Tryz.prog.info? 60).map (fun i=>(i.zero,i.size,i.bytes))=some (some (.agg #[.string ⟨#[]⟩,.string ⟨#[]⟩]),2,32):=by kernel_rfl
theorem zbU{P:Program}{t:TypeId}{z:Value}{n m:Nat}(h:(P.info? t).map (fun i=>(i.zero,i.size,i.bytes))=some (some z,n,m)):∃ i,P.info? t=some i∧i.zero=some z∧i.size=n∧i.bytes=m:=by
 cases hi:P.info? t with
 | none=>rw[hi]at h;simp at h
 | some i=>rw[hi]at h;simp at h;exact⟨i,rfl,h.1,h.2.1,h.2.2⟩
theorem zo8{w w1:World}{G T:Nat}{o x y:Value}(hg:w.grownBy w1 none)(hG:G<w.heap.size)(hT:T<w.heap.size)(hne:G≠T)(c:w.cell? ⟨G,0,none⟩=some o)
  (d0:w.cell? ⟨T,0,none⟩=some x)(d1:w.cell? ⟨T,1,none⟩=some y)(kf:w.frozen? ⟨G,0,none⟩=false) :
  w1.cell? ⟨G,0,none⟩=some o∧∀ v,(w1.setCell ⟨G,0,none⟩ v).cell? ⟨T,0,none⟩=some x∧(w1.setCell ⟨G,0,none⟩ v).cell? ⟨T,1,none⟩=some y∧(w1.setCell ⟨G,0,none⟩ v).frozen? ⟨G,0,none⟩=false:=by
 refine⟨(hg.cell_far _ hG (by simp)).trans c,fun v=>⟨?_,?_,?_⟩⟩
 ·exact(World.cell?_setCell_other w1 ⟨G,0,none⟩ ⟨T,0,none⟩ v (by intro h;exact hne (congrArg Addr.block h))).trans ((hg.cell_far _ hT (by simp)).trans d0)
 ·exact(World.cell?_setCell_other w1 ⟨G,0,none⟩ ⟨T,1,none⟩ v (by simp)).trans ((hg.cell_far _ hT (by simp)).trans d1)
 ·rw[World.frozen?_setCell];exact(hg.frozen_far _ hG (by simp)).trans kf
theorem zqt{w1:World}{G T:Nat}{x y:Value}(h:∀ v,(w1.setCell ⟨G,0,none⟩ v).cell? ⟨T,0,none⟩=some x∧(w1.setCell ⟨G,0,none⟩ v).cell? ⟨T,1,none⟩=some y∧(w1.setCell ⟨G,0,none⟩ v).frozen? ⟨G,0,none⟩=false):w1.frozen? ⟨G,0,none⟩=false:=by
 have:=(h (.int .i64 0)).2.2
 rw[World.frozen?_setCell]at this;exact this
theorem zqV{w w1:World}{G g cap:Nat}{s1 s2:Str}{A B:Obj}(hG:Blk w G [.slice none 0 0] 156)(hgrow:((w.alloc A).alloc B).drew.grownBy w1 none)
  (hown:w1.ownsRow (G+1) 160 2 (.slice (some ⟨g,0,none⟩) 1 cap) 1 [.string ⟨s1.toArray⟩,.string ⟨s2.toArray⟩]) :
  Below G w (w1.setCell ⟨G,0,none⟩ (.slice (some ⟨g,0,none⟩) 1 cap)) ∧
   ∃ v,Blk (w1.setCell ⟨G,0,none⟩ (.slice (some ⟨g,0,none⟩) 1 cap)) G [v] 156∧(w1.setCell ⟨G,0,none⟩ (.slice (some ⟨g,0,none⟩) 1 cap)).ownsRow (G+1) 160 2 v 1 [.string ⟨s1.toArray⟩,.string ⟨s2.toArray⟩]:=by
 have l0:=hG.lt
 have hl:G<((w.alloc A).alloc B).drew.heap.size:=by simp;omega
 have b1:Below G w ((w.alloc A).alloc B).drew:=(((Below.refl G w).alloc (by omega) A).alloc (by simp;omega) B).drew
 have b2:Below G w w1:=b1.grown hgrow (by omega) (by simp)
 have bG:Blk w1 G [.slice none 0 0] 156:=(hgrow.block G hl (by simp)).trans ((hG.alloc A).alloc B)
 refine⟨b2.setCell (p:=⟨G,0,none⟩) (Nat.le_refl _) _,_,bG.set 0 _,ownsRow_setCell_below hown (by simp) _⟩
theorem zgv(G:Nat)(s1 s2:Str)(w:World)(hG:Blk w G [.slice none 0 0] 156) :
  Calls Tryz.prog 98 #[.pointer (some ⟨G,0,none⟩),.agg #[.string ⟨s1.toArray⟩,.string ⟨s2.toArray⟩]] w fun e w'=>e=.returned (.int .i64 0)∧Below G w w' ∧
   ∃ v,Blk w' G [v] 156∧w'.ownsRow (G+1) 160 2 v 1 [.string ⟨s1.toArray⟩,.string ⟨s2.toArray⟩]:=by
 have c0:=hG.cell 0
 have f0:=hG.frozen 0
 have l0:=hG.lt
 simp only[List.getElem?_cons_zero]at c0
 obtain⟨i0,hi,hz0,hz1,hz2⟩:=zbU zma
 have HI:=LH hi
 have HZ:=LH hz0
 have HS:=LH hz1
 have HB:=LH hz2
 clear hi hz0 hz1 hz2
 go_enter Tryz.func98,Tryz.ntmps98
 go_wp2
 go_loop [19] (fun i=>i=.int .i64 0) (fun _=>0)
 case atStart=>rfl
 case round =>
  subst hrel
  go_wp2
  have t0:=World.new_ne w ⟨G,0,none⟩ c0
  have hsz:(w.alloc (Obj.cells #[.string ⟨s1.toArray⟩,.string ⟨s2.toArray⟩] 60)).heap.size=w.heap.size+1:=by simp
  have BT:=Blk.new w [.string ⟨s1.toArray⟩,.string ⟨s2.toArray⟩] 60
  have hnew:((w.alloc (Obj.cells #[.string ⟨s1.toArray⟩,.string ⟨s2.toArray⟩] 60)).alloc (Obj.cells #[.string ⟨s1.toArray⟩,.string ⟨s2.toArray⟩] 160)).heap[w.heap.size+1]? = some (.cells #[.string ⟨s1.toArray⟩,.string ⟨s2.toArray⟩] 160 (0,0)):=by rw[← hsz];exact heap_alloc_new _ _
  have k0:=(hG.alloc (Obj.cells #[.string ⟨s1.toArray⟩,.string ⟨s2.toArray⟩] 60)).cell 0
  have d0:=BT.cell 0
  have d1:=BT.cell 1
  have kf:=(hG.alloc (Obj.cells #[.string ⟨s1.toArray⟩,.string ⟨s2.toArray⟩] 60)).frozen 0
  have k02:=((hG.alloc (Obj.cells #[.string ⟨s1.toArray⟩,.string ⟨s2.toArray⟩] 60)).alloc (Obj.cells #[.string ⟨s1.toArray⟩,.string ⟨s2.toArray⟩] 160)).cell 0
  simp only[List.getElem?_cons_zero]at k02
  have d02:=(BT.alloc (Obj.cells #[.string ⟨s1.toArray⟩,.string ⟨s2.toArray⟩] 160)).cell 0
  have d12:=(BT.alloc (Obj.cells #[.string ⟨s1.toArray⟩,.string ⟨s2.toArray⟩] 160)).cell 1
  simp only[zs4,zs5]at d02 d12
  have hGT:G≠w.heap.size:=by omega
  have hlG:G<((w.alloc (Obj.cells #[.string ⟨s1.toArray⟩,.string ⟨s2.toArray⟩] 60)).alloc (Obj.cells #[.string ⟨s1.toArray⟩,.string ⟨s2.toArray⟩] 160)).heap.size:=by simp;omega
  have hlT:w.heap.size<((w.alloc (Obj.cells #[.string ⟨s1.toArray⟩,.string ⟨s2.toArray⟩] 60)).alloc (Obj.cells #[.string ⟨s1.toArray⟩,.string ⟨s2.toArray⟩] 160)).heap.size:=by simp;omega
  have kf2:=((hG.alloc (Obj.cells #[.string ⟨s1.toArray⟩,.string ⟨s2.toArray⟩] 60)).alloc (Obj.cells #[.string ⟨s1.toArray⟩,.string ⟨s2.toArray⟩] 160)).frozen 0
  have hQ0:Below G w (w.alloc (Obj.cells #[.string ⟨s1.toArray⟩,.string ⟨s2.toArray⟩] 60)):=(Below.refl G w).alloc (by omega) _
  simp only[zs4,zs5]at k0 d0 d1
  go_region_law
   (first | (refine step_append_lies _ (by rfl) (.tmp 73) (.tmp 79) 154 (by rfl) (G+1) 160 i0 _ 2 32 Tryz.underlying154 HI.out HZ.out HS.out HB.out rfl (by decide) (.slice none 0 0) 0 [] (by rfl) (World.ownsRow_nil _ _ _ _) ⟨w.heap.size+1,0,none⟩ 1 1 [.string ⟨s1.toArray⟩,.string ⟨s2.toArray⟩] (by rfl) (by rfl) (World.news_of_block (cs:=#[.string ⟨s1.toArray⟩,.string ⟨s2.toArray⟩]) (t:=160) (fr:=(0,0)) hnew) (by simp[Value.oneCell']) (by decide) (by decide) (by decide) (by simp;omega) (w.heap.size+2) (by simp) ?_;intro g cap w1 hown hgrow hat hlt;have hh:=zo8 (w1:=w1) (T:=w.heap.size) (x:=.string ⟨s1.toArray⟩) (y:=.string ⟨s2.toArray⟩) hgrow hlG hlT hGT k02 d02 d12 kf2;have c1:=hh.1;have fz:=zqt hh.2))
  all_goals go_wp2
  all_goals go_ret
  all_goals exact⟨rfl,zqV hG hgrow hown⟩
theorem zhc(ad:Option Addr)(cap:Nat)(f:Value)(w:World) :
  Calls Tryz.prog 226 #[.slice ad 1 cap,.int .i64 0,.int .i64 1,f] w fun e w'=>(∃ v,e=.returned v)∧w=w':=by
 go_enter Tryz.func226,Tryz.ntmps226
 go_wp2
 go_loop [8] (fun i=>i=.int .i64 1) (fun _=>0)
 case atStart=>rfl
 case round =>
  subst hrel
  go_wp2
  go_end0
  exact⟨⟨_,rfl⟩,rfl⟩
theorem zm1(ad:Option Addr)(cap:Nat)(k:Int)(f:Value)(w:World) :
  Calls Tryz.prog 168 #[.slice ad 1 cap,.int .i64 0,.int .i64 1,.int .i64 k,f] w fun e w'=>(∃ v,e=.returned v)∧w=w':=by
 go_enter Tryz.func168,Tryz.ntmps168
 go_wp2
 go_loop [1,2,3] (fun x y _=>x=.int .i64 0∧y=.int .i64 1) (fun _ _ _=>0)
 case atStart=>exact⟨rfl,rfl⟩
 case round =>
  obtain⟨rfl,rfl⟩:=hrel
  go_wp2_with fail
  refine(zhc ad cap f _).mono ?_
  rintro e w1⟨⟨v,rfl⟩,rfl⟩
  go_wp2
  (try simp only[Exit.inBlock,Exit.then])
  refine bodyPost_ret (results_none rfl _ _ _) rfl ?_
  exact⟨⟨_,rfl⟩,rfl⟩
theorem zlk(ad:Option Addr)(cap:Nat)(f:Value)(w:World) :
  Calls Tryz.prog 100 #[.slice ad 1 cap,f] w fun e w'=>(∃ v,e=.returned v)∧w=w':=by
 go_enter Tryz.func100,Tryz.ntmps100
 go_wp2_with fail
 refine(Tryz.bits_Len _ _ (by omega) (by omega)).mono ?_
 rintro e w1⟨rfl,rfl⟩
 go_wp2_with fail
 refine(zm1 ad cap _ f _).mono ?_
 rintro e w1⟨⟨v,rfl⟩,rfl⟩
 go_wp2
 go_end0
 exact⟨⟨_,rfl⟩,rfl⟩
theorem zbN(n:Nat):ze (n:Rat)=Lib.itoa (n:Int):=by
 unfold ze;rw[if_pos (Rat.den_natCast n),Rat.num_natCast]
theorem zaY:ze 0=[48]:=by
 have:=zbN 0;rw[show ((0:Nat):Rat)=0 from rfl]at this;rw[this];exact zae
theorem zdW:ze 1=[49]:=by
 have:=zbN 1;rw[show ((1:Nat):Rat)=1 from rfl]at this;rw[this];exact zai
theorem d25:(16/25:Rat).den=25:=by kernel_rfl
theorem d16:(25/16:Rat).den=16:=by kernel_rfl
theorem v1:((1:Nat):Rat)=1:=by kernel_rfl
theorem zr1(P:Program)(a b:Str)(h:a.length+b.length≤1000)(w:World):(Op.stringOp .add ⟨a.toArray⟩ ⟨b.toArray⟩).run P w=.ok (.string ⟨(a++b).toArray⟩) w:=by
 rw[run_string_add_sum w _ _ (by show a.length+b.length≤_;omega),ByteArray.mk_append_mk]
end
end Go.Proofs.YtapnkgdnflofbaaGreatDoor
