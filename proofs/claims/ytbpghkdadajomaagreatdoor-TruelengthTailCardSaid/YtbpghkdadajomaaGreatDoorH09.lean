/-
  Surds of no term: walks of package surd.; The law TruelengthSquares: its walk. Compare by the values; the law TruelengthRounds: its walk.; Regions that draw their order, of an iterator: the first operations in whatever order, then what is left, the loop's body among it, one by one.; Rows of any elements in memory.
-/
import Derived.Test.YtbpghkdadajomaaGreatDoorHVZ2
import Derived.Test.YtbpghkdadajomaaGreatDoorH08
import Derived.Test.YtbpghkdadajomaaGreatDoorHBI1
set_option maxRecDepth 100000
set_option maxHeartbeats 2000000
namespace Go.Proofs.YtbpghkdadajomaaGreatDoor
section
open Go.RowKit Kp
open Go.Lib (decDigits)
theorem zjb(f:Value)(w:World):Calls Tryz.prog 82 #[.slice none 0 0,f] w fun e w'=>e=.returned (.int .i64 0)∧Q w w':=by
 go_enter Tryz.func82,Tryz.ntmps82
 go_wp2
 go_loopw [13] (fun i wr=>i=.int .i64 0∧wr=w) (fun _ _=>0)
 case atStart=>exact⟨rfl,rfl⟩
 case round =>
  obtain⟨rfl,rfl⟩:=hrel
  go_wp2
  go_ret
  exact⟨rfl,bt⟩
theorem zkd(w:World):Calls Tryz.prog 38 #[.slice none 0 0] w fun e w'=>e=.returned (.tuple #[.slice none 0 0,.int .i64 0])∧Q w w':=by
 go_enter Tryz.func38,Tryz.ntmps38
 go_wp2
 go_loopw [18] (fun i wr=>i=.int .i64 0∧wr=w) (fun _ _=>0)
 case atStart=>exact⟨rfl,rfl⟩
 case round =>
  obtain⟨rfl,rfl⟩:=hrel
  go_wp2_with fail
  have hG:=Blk.new wr [Value.slice none 0 0] 144
  refine(zjb _ _).mono ?_
  rintro e w1⟨rfl,hq1⟩
  have hQ1:Q wr w1:=Q.trans bt hq1
  replace hG:=hG.keep hq1 hG.lt
  have g0:=hG.cell 0
  simp only[List.getElem?_cons_zero]at g0
  go_wp2_with fail
  go_loopw [10,47] (fun o i wr2=>o=.slice none 0 0∧i=.int .i64 0∧wr2=w1) (fun _ i _=>1 - (intOf i).toNat)
  case atStart=>exact⟨rfl,rfl,rfl⟩
  case round =>
   obtain⟨rfl,rfl,rfl⟩:=hrel
   go_wp2_with fail
   refine(zcZ _ _ _ _).mono ?_
   rintro e w2⟨⟨u,rfl⟩,rfl⟩
   go_wp2
   go_ret2
   exact⟨rfl,hQ1⟩
theorem zjd(w:World):Calls Tryz.prog 39 #[.slice none 0 0,.slice none 0 0] w fun e w'=>e=.returned (.bool true)∧Q w w':=by
 have HN:=LH (fun w=>zfx w)
 go_enter Tryz.func39,Tryz.ntmps39
 have hQ0:=Q.refl w
 go_wp2_with fail
 refine(HN.out _).mono ?_
 rintro e w1⟨rfl,hq1⟩
 have hs1:Q w w1:=Q.trans bt hq1
 have hQ1:Q w w1:=Q.trans hQ0 hs1
 go_wp2_with fail
 refine(HN.out _).mono ?_
 rintro e w2⟨rfl,hq2⟩
 have hs2:Q w1 w2:=Q.trans bt hq2
 have hQ2:Q w w2:=Q.trans hQ1 hs2
 go_wp2
 go_ret
 exact⟨rfl,bt⟩
theorem zg1(R:Str){rest:List Value}{cap:Nat}(b:Nat)(t:TypeId)(w:World)(hb:Blk w b (.string ⟨#[48]⟩::.string ⟨R.toArray⟩::rest) t)(f:Value) :
  Calls Tryz.prog 82 #[.slice (some ⟨b,0,none⟩) 1 cap,f] w fun e w'=>e=.returned (.int .i64 0)∧Q w w':=by
 have lb:=hb.lt
 go_enter Tryz.func82,Tryz.ntmps82
 go_wp2
 go_loopw [13] (fun i wr=>(i=.int .i64 0∨i=.int .i64 1)∧Q w wr) (fun i _=>1 - (intOf i).toNat)
 case atStart=>exact⟨.inl rfl,Below.refl _ _⟩
 case round =>
  obtain⟨rfl | rfl,hQ⟩:=hrel
  ·have hB:=hb.keep hQ lb
   have c0:=hB.cell 0
   have c1:=hB.cell 1
   have l1:=hB.lt
   simp only[zs4,zs5]at c0 c1
   have hq0:Q w (wr.alloc (Obj.cells [.string ⟨#[48]⟩,.string ⟨R.toArray⟩].toArray 84)):=hQ.alloc hQ.size _
   go_wp2
   try (go_quiet (fail);go_wp2)
   go_roundw
   case rel=>exact⟨.inr rfl,by first | exact hq0 | exact Below.drewN hq0 _⟩
   case measure=>simp[intOf]
  ·go_wp2
   go_ret
   exact⟨rfl,hQ⟩
theorem zhQ(r:Rat)(hr:zak r=false)(hp:0≤r.num){rest:List Value}{cap:Nat}(b:Nat)(t:TypeId)(w:World)(hE:Env w)(hb:Blk w b (.string ⟨#[48]⟩::.string ⟨(za r).toArray⟩::rest) t) :
  Calls Tryz.prog 38 #[.slice (some ⟨b,0,none⟩) 1 cap] w fun e w'=>e=.returned (.tuple #[.slice none 0 0,.int .i64 0])∧Q w w':=by
 have l0:=hb.lt
 have hc0:=fun w hw=>zm 0 (show zak 0=false by unfold zak;rw[show ((0:Rat)).num=0 from rfl,show (((0:Rat)).den:Int)=1 from rfl,zdh,zcB];rfl) w hw
 have hc1:=fun w hw=>zm r hr w hw
 have hneg:decide ((za r).head? = some 45)=false:=by rw[decide_eq_false_iff_not,zbf];omega
 have HH:=LH (fun w=>zG (za r) w)
 rw[hneg]at HH
 clear hneg
 rw[zI]at hc0
 have HC0:=LH hc0
 have HC1:=LH hc1
 clear hc0 hc1
 generalize za r=R at *
 go_enter Tryz.func38,Tryz.ntmps38
 go_wp2
 go_loopw [18] (fun i wr=>(i=.int .i64 0∨i=.int .i64 1)∧Q w wr) (fun i _=>1 - (intOf i).toNat)
 case atStart=>exact⟨.inl rfl,Below.refl _ _⟩
 case round =>
  obtain⟨rfl | rfl,hQ⟩:=hrel
  ·have hB:=hb.keep hQ l0
   have c0:=hB.cell 0
   have c1:=hB.cell 1
   have l1:=hB.lt
   simp only[zs4,zs5]at c0 c1
   go_wp2_with fail
   have hq0:Q w (wr.alloc (Obj.cells [.string ⟨#[48]⟩,.string ⟨R.toArray⟩].toArray 84)):=hQ.alloc hQ.size _
   have BT:=Blk.new wr [.string ⟨#[48]⟩,.string ⟨R.toArray⟩] 84
   refine(HC0.out _ (hE.q hq0)).mono ?_
   rintro e w1⟨rfl,hq1⟩
   have hQ1:=Q.trans hq0 hq1
   have B1:=BT.keep hq1 (by simp)
   have d1:=B1.cell 1
   simp only[zs4,zs5]at d1
   clear hq1 hq0 BT c0 c1
   go_wp2_with fail
   refine(HC1.out _ (hE.q hQ1)).mono ?_
   rintro e w2⟨rfl,hq2⟩
   have hQ2:=Q.trans hQ1 hq2
   have B2:=B1.keep hq2 B1.lt
   have d2:=B2.cell 1
   simp only[zs4,zs5]at d2
   clear hq2 hQ1 B1 d1
   go_wp2_with fail
   refine(HH.out _).mono ?_
   rintro e w3⟨rfl,rfl⟩
   go_wp2
   go_roundw
   case rel=>exact⟨.inr rfl,hQ2⟩
   case measure=>simp[intOf]
  ·go_wp2_with fail
   have hBb:=(hb.keep hQ l0).alloc (Obj.cells #[Value.slice none 0 0] 144)
   have hG:=Blk.new wr [Value.slice none 0 0] 144
   refine(zg1 R b t _ hBb _).mono ?_
   rintro e w1⟨rfl,hq1⟩
   have hQ1:Q w w1:=Q.trans (hQ.alloc hQ.size _) hq1
   replace hG:=hG.keep hq1 hG.lt
   have g0:=hG.cell 0
   simp only[List.getElem?_cons_zero]at g0
   go_wp2_with fail
   go_loopw [10,47] (fun o i wr2=>o=.slice none 0 0∧i=.int .i64 0∧wr2=w1) (fun _ i _=>1 - (intOf i).toNat)
   case atStart=>exact⟨rfl,rfl,rfl⟩
   case round =>
    obtain⟨rfl,rfl,rfl⟩:=hrel
    go_wp2_with fail
    refine(zcZ _ _ _ _).mono ?_
    rintro e w2⟨⟨u,rfl⟩,rfl⟩
    go_wp2
    go_ret2
    exact⟨rfl,hQ1⟩
theorem zil(c:Value)(w:World):Calls Tryz.prog 44 #[.slice none 0 0,c] w fun e w'=>e=.returned (.tuple #[.slice none 0 0,.int .i64 0])∧Q w w':=by
 go_enter Tryz.func44,Tryz.ntmps44
 go_wp2
 go_loopw [6,13] (fun o i wr=>o=.slice none 0 0∧i=.int .i64 0∧wr=w) (fun _ _ _=>0)
 case atStart=>exact⟨rfl,rfl,rfl⟩
 case round =>
  obtain⟨rfl,rfl,rfl⟩:=hrel
  go_wp2
  go_ret2
  exact⟨rfl,bt⟩
theorem zrK(s:Rat)(hs:0<s.num):aOf s*aOf s*(leftOf s:Rat)=s:=by
 obtain⟨C,L,N,D,hN,hD,h,hsd,e1,e2,e3⟩:=zmT s hs
 rw[e1,e3]
 have:s=N / D:=by grind
 rw[this]
 grind
theorem zsd{n:Nat}{r:Rat}(hr:Bd n r)(hp:0<r.num):0<(aOf r).num:=by
 obtain⟨h1,-⟩:=zqK hr hp
 exact zaz (by have:=(zdZ h1).2.1;omega) r.den_pos
end
section
open Go.RowKit Kp
open Go.Lib (decDigits)
end
end Go.Proofs.YtbpghkdadajomaaGreatDoor
namespace Kp
theorem zjO(n:Nat):zl (n*n)=n:=zet ⟨Nat.le_refl _,Nat.mul_lt_mul'' (Nat.lt_succ_self n) (Nat.lt_succ_self n)⟩
end Kp
namespace Go.Proofs.YtbpghkdadajomaaGreatDoor
section
open Go.RowKit Kp
open Go.Lib (decDigits)
theorem zjn(t:Rat):(t*t).num=t.num*t.num∧(t*t).den=t.den*t.den:=by
 have h1:t*(t.den:Rat)=(t.num:Rat):=zbI t
 have h2:(t*t)*((t*t).den:Rat)=((t*t).num:Rat):=zbI (t*t)
 have hc1:=t.reduced
 have hc2:=(t*t).reduced
 have hd:=t.den_nz
 have h3:(((t*t).num*((t.den:Int)*t.den):Int):Rat)=((t.num*t.num*((t*t).den:Int):Int):Rat):=by
  rw[Rat.intCast_mul,Rat.intCast_mul,Rat.intCast_mul,Rat.intCast_mul,Rat.intCast_natCast,Rat.intCast_natCast,← h2,← h1]
  grind
 have h4:(t*t).num*((t.den:Int)*t.den)=t.num*t.num*((t*t).den:Int):=by exact_mod_cast h3
 generalize (t*t).num=N at *
 generalize (t*t).den=D at *
 have h5:N.natAbs*(t.den*t.den)=t.num.natAbs*t.num.natAbs*D:=by
  have:=congrArg Int.natAbs h4
  simpa[Int.natAbs_mul]using this
 have c3:Nat.Coprime (t.num.natAbs*t.num.natAbs) (t.den*t.den):=Nat.Coprime.mul_left (Nat.Coprime.mul_right hc1 hc1) (Nat.Coprime.mul_right hc1 hc1)
 have e1:D ∣ t.den*t.den:=by
  have:D ∣ N.natAbs*(t.den*t.den):=⟨t.num.natAbs*t.num.natAbs,by rw[h5,Nat.mul_comm]⟩
  exact Nat.Coprime.dvd_of_dvd_mul_left (Nat.Coprime.symm hc2) this
 have e2:t.den*t.den ∣ D:=by
  have:t.den*t.den ∣ t.num.natAbs*t.num.natAbs*D:=⟨N.natAbs,by rw[← h5,Nat.mul_comm]⟩
  exact Nat.Coprime.dvd_of_dvd_mul_left (Nat.Coprime.symm c3) this
 have e3:D=t.den*t.den:=Nat.dvd_antisymm e1 e2
 refine⟨?_,e3⟩
 rw[e3,Int.natCast_mul]at h4
 have:((t.den:Int)*t.den)≠0:=Int.mul_ne_zero (by omega) (by omega)
 exact Int.eq_of_mul_eq_mul_right this h4
theorem zgJ{t:Rat}(ht:0≤t.num):zfD (t*t)=true∧sqR (t*t)=t:=by
 obtain⟨h1,h2⟩:=zjn t
 obtain⟨n,hn⟩:=Int.eq_ofNat_of_zero_le ht
 have e1:(t*t).num.toNat=n*n:=by rw[h1,hn,← Int.natCast_mul,Int.toNat_natCast]
 unfold zfD sqR
 rw[e1,h2,zjO,zjO]
 refine⟨by simp,?_⟩
 rw[← hn]
 exact Rat.num_divInt_den t
theorem rpos{q:Rat}(h:0<q.num):0<q:=Rat.lt_of_le_of_ne (Rat.num_nonneg.1 (by omega)) (fun e=>by rw[← e]at h;simp at h)
theorem zc7{x:Rat}(h:0<x.num):x≠0:=fun e=>by rw[e]at h;simp at h
theorem zrZ{x y:Rat}{l m:Nat}(px:0<x.num)(py:0<y.num)(hl:0<l)(hm:0<m)(bl:l<10 ^ 16)(bm:m<10 ^ 16)(h:x*x*(l:Rat)=y*y*(m:Rat)) :
  zef (zfJ (zcq (zbA [(x,l)] (-y,m))))=some 0∧(∀ c∈zbA [(x,l)] (-y,m),Bd 50 c.1∧0<c.2∧c.2<10 ^ 16):=by
 have hx:=zc7 px
 have hy:=zc7 py
 have hl0:=nat_ne hl
 have hm0:=nat_ne hm
 have q1:(m:Rat) / (l:Rat)=(x / y)*(x / y):=by grind
 have q2:(l:Rat) / (m:Rat)=(y / x)*(y / x):=by grind
 have n1:0≤(x / y).num:=zfT (by omega) py
 have n2:0≤(y / x).num:=zfT (by omega) px
 have key:∀ n:Nat,0<n→n<10 ^ 16→zbA [(x,l)] (-y,m)=[(0,n)]→zef (zfJ (zcq (zbA [(x,l)] (-y,m))))=some 0∧(∀ c∈zbA [(x,l)] (-y,m),Bd 50 c.1∧0<c.2∧c.2<10 ^ 16):=fun n h1 h2 e=>by
  rw[e]
  refine⟨by unfold zef zcq zfJ;simp,fun c hc=>?_⟩
  rw[List.mem_singleton]at hc
  subst hc
  exact⟨(show Bd 50 0 from⟨by decide,by decide⟩),h1,h2⟩
 by_cases hml:m<l
 ·refine key m hm bm ?_
  unfold zbA zcK
  rw[q1,if_pos (zgJ n1).1,if_pos hml]
  simp only
  rw[q2,(zgJ n2).2,show -y+x*(y / x)=0 by grind]
 ·refine key l hl bl ?_
  unfold zbA zcK
  rw[q1,if_pos (zgJ n1).1,if_neg hml]
  simp only
  rw[(zgJ n1).2,show x + -y*(x / y)=0 by grind]
theorem zm5(x y:Rat)(l:Nat):((sqN x l*(y.den*y.den):Nat):Rat)=x*x*(l:Rat)*((x.den:Rat)*(x.den:Rat)*((y.den:Rat)*(y.den:Rat))):=by
 rw[Rat.natCast_mul,zm6,Rat.natCast_mul];grind
theorem zq7(x y:Rat):0<(x.den:Rat)*(x.den:Rat)*((y.den:Rat)*(y.den:Rat)):=by
 have h:0<x.den*x.den*(y.den*y.den):=Nat.mul_pos (Nat.mul_pos x.den_pos x.den_pos) (Nat.mul_pos y.den_pos y.den_pos)
 have h2:(0:Rat)<((x.den*x.den*(y.den*y.den):Nat):Rat):=by exact_mod_cast h
 rwa[Rat.natCast_mul,Rat.natCast_mul,Rat.natCast_mul]at h2
theorem zit{x y:Rat}{l m:Nat}(h:x*x*(l:Rat)<y*y*(m:Rat)):sqN x l*(y.den*y.den)<sqN y m*(x.den*x.den):=by
 have h1:=Rat.mul_lt_mul_of_pos_right h (zq7 x y)
 have e1:=zm5 x y l
 have e2:=zm5 y x m
 have h2:((sqN x l*(y.den*y.den):Nat):Rat)<((sqN y m*(x.den*x.den):Nat):Rat):=by
  rw[e1,e2]
  have:(y.den:Rat)*(y.den:Rat)*((x.den:Rat)*(x.den:Rat))=(x.den:Rat)*(x.den:Rat)*((y.den:Rat)*(y.den:Rat)):=by grind
  rw[this];exact h1
 exact_mod_cast h2
def zrA(s t:Rat)(σ:Int):Prop:=(s<t∧σ = -1)∨(s=t∧σ=0)∨(t<s∧σ=1)
theorem zeC(x y:Rat)(l m:Nat)(hx:PTerm x l)(hy:PTerm y m)(σ:Int)(hσ:zrA (x*x*(l:Rat)) (y*y*(m:Rat)) σ)(B1 B2:Nat)(v1 v2:Value)(w:World)(hE:Env w)(h1:zaJ w B1 v1 x l)(h2:zaJ w B2 v2 y m) :
  Calls Tryz.prog 16 #[v1,v2] w fun e w'=>e=.returned (.tuple #[.int .i64 σ,.int .i64 0])∧Q w w':=by
 rcases hσ with⟨h,rfl⟩|⟨h,rfl⟩|⟨h,rfl⟩
 ·have hc:=zit h
  exact zcT x y l m hx.t hy.t hx.pos hy.pos hx.bx hy.bx hx.bl hy.bl hx.dx hy.dx (-1) (.inr ⟨by omega,by rw[if_neg (by omega)]⟩) B1 B2 v1 v2 w hE hE.places h1 h2
 ·obtain⟨e1,e2⟩:=zrZ hx.pos hy.pos hx.t.norm.1 hy.t.norm.1 hx.bl hy.bl h
  exact zeD x y l m hx.t hy.t hx.bx hy.bx hx.bl hy.bl 0 e1 e2 B1 B2 v1 v2 w hE h1 h2
 ·have hc:=zit h
  exact zcT x y l m hx.t hy.t hx.pos hy.pos hx.bx hy.bx hx.bl hy.bl hx.dx hy.dx 1 (.inr ⟨by omega,by rw[if_pos hc]⟩) B1 B2 v1 v2 w hE hE.places h1 h2
theorem zoz(x y:Rat):(x*y).den≤x.den*y.den:=by
 have h:=Rat.mul_is x y
 rw[← Int.natCast_mul]at h
 rw[← h]
 exact zew (Nat.mul_pos x.den_pos y.den_pos)
def zse(w:World)(B:Nat)(v:Value)(a:Rat):Prop:=(a=0∧v=.slice none 0 0)∨(a≠0∧zaJ w B v a 1)
theorem zse.keep{w w':World}{B:Nat}{v:Value}{a:Rat}(h:zse w B v a)(hq:Q w w'):zse w' B v a :=
 h.elim .inl (fun h=>.inr ⟨h.1,zU h.2 hq⟩)
end
section
open Go.RowKit Kp
theorem zfu{F:Fence}{m:Nat}{P:Program}{md:Region.Mode}{ops:Array Oper}{R:Exit→Act→World→Prop}:∀ (l:List Oper) (k:Nat) (listed:Array Bool) (a:Act) (w:World),(∀ j,l[j]? = ops[k+j]?) →
  Region.seqB md ops l.length k listed=true→wpListIn F m P ops R l a w→wpAnyIn F m P md ops R l.length listed a w
 | [],_,_,_,_,_,hB,h=>⟨by simpa[Region.seqB]using hB,h⟩
 | o::l,k,listed,a,w,hl,hB,h=>by
  have h0:ops[k]? = some o:=by simpa using(hl 0).symm
  simp only[List.length_cons,Region.seqB,Bool.and_eq_true,decide_eq_true_eq]at hB
  refine⟨fun h1=>(by rw[hB.1]at h1;cases h1),fun i hi=>?_⟩
  rw[hB.1]at hi
  have hik:i=k:=by simpa using hi
  subst hik
  have hw:wpOpIn F m P ops R i (wpListIn F m P ops R l) a w:=by unfold wpOpIn;simp only[h0];exact h
  exact wpOpIn_mono (fun a' w' h'=>zfu l (i+1) _ a' w' (fun j=>by have:=hl (j+1);simpa[Nat.add_assoc,Nat.add_comm 1 j]using this) hB.2 h') hw
namespace RT
def zeI:Exit→Act→World→Prop:=zbO fun _ _=>True
section
variable {P:Program} {l:List Oper} {T:Act→World→Prop} {R:Exit→Act→World→Prop} {md:Region.Mode} {n m:Nat}
def zeG(P:Program)(md:Region.Mode)(l:List Oper)(T:Act→World→Prop)(n:Nat):Nat→Array Bool→Act→World→Prop
 | 0,ls,a,w=>Region.seqB md l.toArray (l.toArray.size - n) n ls=true∧∀ w',Q w w'→T a w'
 | f+1,ls,a,w=>Region.ready md l.toArray ls≠[] ∧
  ∀ i∈Region.ready md l.toArray ls,i<n∧∀ w',Q w w'→wpOp P l.toArray zeI i (fun a' w''=>Q w' w''∧zeG P md l T n f (ls.setIfInBounds i true) a' w'') a w'
theorem zeG.later:∀ {f:Nat} {ls:Array Bool} {a:Act} {w w':World},zeG P md l T n f ls a w→Q w w'→zeG P md l T n f ls a w'
 | 0,_,_,_,_,h,hq=>⟨h.1,fun _ h1=>h.2 _ (hq.trans h1)⟩
 | _+1,_,_,_,_,h,hq=>⟨h.1,fun i hi=>⟨(h.2 i hi).1,fun _ h1=>(h.2 i hi).2 _ (hq.trans h1)⟩⟩
theorem znA{ops:Array Oper}{i:Nat}{N:Act→World→Prop}{a:Act}{w:World}(h:wpOp P ops zeI i N a w):wpOpIn Fence.wide m P ops R i N a w:=by
 unfold wpOp at h
 unfold wpOpIn
 split
 ·next he=>simp only[he]at h;exact h
 ·next o ho =>
  simp only[ho]at h
  split
  ·next hw =>
   rw[if_pos hw]at h
   rcases h with h | ⟨_,h⟩
   ·refine⟨fun _ _=>trivial,?_⟩
    rw[show Fence.wide.round=none from rfl,Oper.semAt_none]
    unfold Oper.wp at h
    generalize (execOp a.eval o).run P w=r at h ⊢
    match r,h with
    | .ok (.value v) w',h=>exact h
    | .ok .skip w',h=>exact h
    | .ok (.defer d) w',h=>exact h
    | .ok (.enter f args) w',h =>
     refine⟨fun hd=>(by cases hd),callsIn_wide.2 (Calls.mono h fun e w'' he=>?_)⟩
     match e,he with
     | .returned v,he=>exact he
     | .panicked c,he=>exact he.elim
     | .outgrown,he=>exact absurd he (zgQ _)
    | .ok (.row row args) w',h=>exact⟨fun hd=>(by cases hd),fun c cs _=>by
      obtain⟨v,w',hs,st⟩:=h c cs
      exact⟨v,w',hs,stepsIn_wide.2 st⟩⟩
    | .halt x w',h =>
     cases x <;> first | exact h.elim | exact False.elim h
   ·exact absurd h (zgQ _)
  ·next hw =>
   rw[if_neg hw]at h
   exact⟨fun _ _=>trivial,h⟩
theorem zeG.any(hn:n≤l.length):∀ {f:Nat} {ls:Array Bool} {a:Act} {w:World},zeG P md l (fun a w=>wpListIn Fence.wide m P l.toArray R (l.drop n) a w) n f ls a w→wpAnyIn Fence.wide m P md l.toArray R (f+(l.toArray.size - n)) ls a w
 | 0,ls,a,w,h=>by
  rw[Nat.zero_add]
  have hd:(l.drop n).length=l.toArray.size - n:=by simp
  have:=zfu (F:=Fence.wide) (m:=m) (P:=P) (md:=md) (R:=R) (l.drop n) n ls a w (fun j=>by simp[List.getElem?_drop]) (by rw[hd];exact h.1) (h.2 w (Q.refl w))
  rwa[hd]at this
 | f+1,ls,a,w,h=>by
  rw[show f+1+(l.toArray.size - n)=(f+(l.toArray.size - n))+1 by omega]
  exact⟨fun e=>absurd e h.1,fun i hi=>znA (wpOp_mono (fun _ _ h'=>zeG.any hn h'.2) ((h.2 i hi).2 w (Q.refl w)))⟩
theorem zlc{i:Nat}{oi:Oper}{v:Value}(hi:l.toArray[i]? = some oi)(hB:zev md l.toArray n=true)(hin:i<n)
  (hR:∀ c a w,zeI (.panic c) (a.put oi.dst v) w→zeI (.panic c) a w) :
  ∀ (f:Nat) (ls:Array Bool) (a:Act) (w:World),HeadInv md l.toArray n ls →
   (∀ j oj,l.toArray[j]? = some oj→j≠i→ls.getD j true=false→(∀ e∈oj.after,Region.binds md e=true→e.on≠i)→oi.apart l.toArray oj=true) →
   i∈Region.ready md l.toArray ls→Does P l.toArray oi v a w →
   zeG P md l T n f (ls.setIfInBounds i true) (a.put oi.dst v) w→zeG P md l T n (f+1) ls a w:=by
 intro f
 induction f with
 | zero =>
  intro ls a w inv _ hr hd H
  refine⟨fun h=>(by rw[h]at hr;cases hr),fun j hj=>⟨zb3 hB inv hin hr j hj,fun w' hq=>?_⟩⟩
  by_cases hji:j=i
  ·subst hji
   exact hd.wpOp hi hq fun w'' hq'=>⟨hq',zeG.later (f:=0) H (hq.trans hq')⟩
  ·have h1:=zb3 hB inv hin hr j hj
   have h2:=seqB_ready H.1 j (ready_mono hj hji)
   omega
 | succ f ih =>
  intro ls a w inv hf hr hd H
  refine⟨fun h=>(by rw[h]at hr;cases hr),fun j hj=>?_⟩
  have hjn:=zb3 hB inv hin hr j hj
  refine⟨hjn,fun w' hq=>?_⟩
  by_cases hji:j=i
  ·subst hji
   exact hd.wpOp hi hq fun w'' hq'=>⟨hq',H.later (hq.trans hq')⟩
  ·have h1:=(H.2 j (ready_mono hj hji)).2 w' hq
   obtain⟨hjun,oj,hoj,hall⟩:=mem_ready.1 hj
   have hno:∀ e∈oj.after,Region.binds md e=true→e.on≠i:=fun e he hb heq=>by
    have h1:=hall e he hb
    rw[heq,getD_both (mem_ready.1 hr).1]at h1
    cases h1
   have h2:=zff hoj (hf j oj hoj hji hjun hno) (fun cs b=>zcQ hB i oi cs b hi) (fun cs b=>zcQ hB j oj cs b hoj) hR h1
   have hf':∀ k ok,l.toArray[k]? = some ok→k≠i→(ls.setIfInBounds j true).getD k true=false →
     (∀ e∈ok.after,Region.binds md e=true→e.on≠i)→oi.apart l.toArray ok=true:=fun k ok hk hki hun hn=>by
    by_cases hjk:j=k
    ·subst hjk;exact hf j ok hk hki hjun hn
    ·rw[getD_set_ne true hjk]at hun
     exact hf k ok hk hki hun hn
   refine wpOp_mono (fun a' w'' h3=>⟨h3.2.1,ih (ls.setIfInBounds j true) a' w'' (inv.set hj hjn) hf' (ready_mono hr (Ne.symm hji)) (hd.alike h3.1 (hq.trans h3.2.1)) ?_⟩) h2
   rw[Array.setIfInBounds_comm _ _ hji]
   exact h3.2.2
def zk(P:Program)(md:Region.Mode)(l:List Oper)(T:Act→World→Prop)(n f:Nat)(ls:Array Bool)(a:Act)(w:World):Prop :=
 zev md l.toArray n=true→HeadInv md l.toArray n ls→zeG P md l T n f ls a w
theorem zaK(n:Nat){id:Nat}{a:Act}{w:World}(hm:P.follows .mixedOrders=true)(hB:zev .any l.toArray n=true)(hn:decide (n≤l.length)=true)
  (h:zk P .any l (fun a w=>wpListIn Fence.wide m P l.toArray R (l.drop n) a w) n n (Array.replicate l.toArray.size false) a w.drew):(Code.region id l.toArray true).wpIn Fence.wide m P R a w:=by
 have hn':n≤l.length:=by simpa using hn
 have inv0:HeadInv .any l.toArray n (Array.replicate l.toArray.size false) :=
  ⟨by simp,fun j oj _ hl=>(by rw[getD_replicate_false]at hl;cases hl),fun t _ ht=>getD_in (by simpa using ht) (getD_replicate_false _ _)⟩
 refine wpIn_region_any hm ?_
 have:=zeG.any hn' (h hB inv0)
 rwa[show n+(l.toArray.size - n)=l.toArray.size by simp;omega]at this
theorem zX{i:Nat}{oi:Oper}{v:Value}{f:Nat}{ls:Array Bool}{a:Act}{w:World}(hi:l[i]? = some oi)(hin:decide (i<n)=true)
  (hf:Region.free md l.toArray ls i=true)(hr:(Region.ready md l.toArray ls).contains i=true)
  (hR:∀ c a w,zeI (.panic c) (a.put oi.dst v) w→zeI (.panic c) a w)(hd:Does P l.toArray oi v a w)
  (h:zk P md l T n f (ls.setIfInBounds i true) (a.put oi.dst v) w):zk P md l T n (f+1) ls a w:=fun hB inv=>by
 have hr':i∈Region.ready md l.toArray ls:=by simpa using hr
 have hin':i<n:=by simpa using hin
 exact zlc (zb7 hi) hB hin' hR f ls a w inv (Region.free_spec (zb7 hi) hf) hr' hd (h hB (inv.set hr' hin'))
theorem zW{i:Nat}{oi:Oper}{v:Value}{f:Nat}{ls:Array Bool}{a:Act}{w:World}(hi:l[i]? = some oi)(hin:decide (i<n)=true)
  (hf:Region.free md l.toArray ls i=true)(hr:(Region.ready md l.toArray ls).contains i=true)
  (hR:∀ c a w,zeI (.panic c) (a.put oi.dst v) w→zeI (.panic c) a w)(hw:Region.wanted oi (yielded l.toArray a.tmps)=true)
  (hx:∀ w',Q w w'→(execOp a.eval oi).run P w'=.ok (.value v) w')
  (h:zk P md l T n f (ls.setIfInBounds i true) (a.put oi.dst v) w):zk P md l T n (f+1) ls a w :=
 zX hi hin hf hr hR (.inl ⟨hw,hx⟩) h
theorem zbo{i:Nat}{oi:Oper}{f:Nat}{ls:Array Bool}{a:Act}{w:World}(hi:l[i]? = some oi)(hin:decide (i<n)=true)
  (hf:Region.free md l.toArray ls i=true)(hr:(Region.ready md l.toArray ls).contains i=true)
  (hR:∀ c a w,zeI (.panic c) (a.put oi.dst undef) w→zeI (.panic c) a w)(hw:Region.wanted oi (yielded l.toArray a.tmps)=false)
  (h:zk P md l T n f (ls.setIfInBounds i true) (a.put oi.dst undef) w):zk P md l T n (f+1) ls a w :=
 zX hi hin hf hr hR (.inr (.inr ⟨hw,rfl⟩)) h
theorem svp(i:Nat){oi:Oper}{v:Value}{f:Nat}{ls:Array Bool}{a a':Act}{w:World}
  (h:zk P md l T n f (ls.setIfInBounds i true) a' w)(hi:l[i]? = some oi:=by exact rfl)(hin:decide (i<n)=true:=by exact rfl)
  (hf:Region.free md l.toArray ls i=true:=by kernel_rfl)(hr:(Region.ready md l.toArray ls).contains i=true:=by kernel_rfl)
  (hw:Region.wanted oi (yielded l.toArray a.tmps)=true:=by rfl)
  (hx:∀ w',Q w w'→(execOp a.eval oi).run P w'=.ok (.value v) w':=by intro w' hq;go_simp;try with_reducible rfl)
  (hR:∀ c a w,zeI (.panic c) (a.put oi.dst v) w→zeI (.panic c) a w:=by exact fun _ _ _ h=>h)
  (ha:a.put oi.dst v=a':=by simp only[Act.put,zs1,zs2,zs3];exact rfl):zk P md l T n (f+1) ls a w :=
 zW hi hin hf hr hR hw hx (ha ▸ h)
theorem svq(i:Nat){oi:Oper}{v:Value}{f:Nat}{ls:Array Bool}{a a':Act}{w:World}(hi:l[i]? = some oi)
  (hx:∀ w',Q w w'→(execOp a.eval oi).run P w'=.ok (.value v) w')
  (h:zk P md l T n f (ls.setIfInBounds i true) a' w)(hin:decide (i<n)=true:=by exact rfl)
  (hf:Region.free md l.toArray ls i=true:=by kernel_rfl)(hr:(Region.ready md l.toArray ls).contains i=true:=by kernel_rfl)
  (hw:Region.wanted oi (yielded l.toArray a.tmps)=true:=by rfl)
  (hR:∀ c a w,zeI (.panic c) (a.put oi.dst v) w→zeI (.panic c) a w:=by exact fun _ _ _ h=>h)
  (ha:a.put oi.dst v=a':=by simp only[Act.put,zs1,zs2,zs3];exact rfl):zk P md l T n (f+1) ls a w :=
 zW hi hin hf hr hR hw hx (ha ▸ h)
theorem svi(i:Nat){oi:Oper}{f:Nat}{ls:Array Bool}{a a':Act}{w:World}
  (h:zk P md l T n f (ls.setIfInBounds i true) a' w)(hi:l[i]? = some oi:=by exact rfl)(hin:decide (i<n)=true:=by exact rfl)
  (hf:Region.free md l.toArray ls i=true:=by kernel_rfl)(hr:(Region.ready md l.toArray ls).contains i=true:=by kernel_rfl)
  (hw:Region.wanted oi (yielded l.toArray a.tmps)=false:=by rfl)
  (hR:∀ c a w,zeI (.panic c) (a.put oi.dst undef) w→zeI (.panic c) a w:=by exact fun _ _ _ h=>h)
  (ha:a.put oi.dst undef=a':=by simp only[Act.put,zs1,zs2,zs3];exact rfl):zk P md l T n (f+1) ls a w :=
 zbo hi hin hf hr hR hw (ha ▸ h)
theorem zh{i:Nat}{oi:Oper}{v:Value}{n f:Nat}{ls:Array Bool}{a:Act}{w:World}{g:FuncId}{args:Array Value}(hi:l[i]? = some oi)(hin:decide (i<n)=true)
  (hf:Region.free md l.toArray ls i=true)(hr:(Region.ready md l.toArray ls).contains i=true)
  (hR:∀ c a w,zeI (.panic c) (a.put oi.dst v) w→zeI (.panic c) a w)(hw:Region.wanted oi (yielded l.toArray a.tmps)=true)
  (hx:∀ w',Q w w'→(execOp a.eval oi).run P w'=.ok (.enter g args) w')
  (hc:∀ w',Q w w'→Calls P g args w' fun e w''=>e=.returned v∧Q w' w'')
  (h:zk P md l T n f (ls.setIfInBounds i true) (a.put oi.dst v) w):zk P md l T n (f+1) ls a w :=
 zX hi hin hf hr hR (.inr (.inl ⟨hw,g,args,hx,hc⟩)) h
theorem zi{ls:Array Bool}{a:Act}{w:World}(hB:Region.seqB md l.toArray (l.toArray.size - n) n ls=true)(h:∀ w',Q w w'→T a w'):zk P md l T n 0 ls a w :=
 fun _ _=>⟨hB,h⟩
end
end RT
end
section
open Go.RowKit Kp
def zcS{α:Type}(k:Nat)(enc:α→List Value)(w:World)(v:Value)(l:List α):Prop:=∃ a cap,v=.slice a l.length cap∧∀ i (h:i<l.length),∃ b o,a=some ⟨b,o,none⟩∧b<w.heap.size∧∀ j u,(enc l[i])[j]? = some u→w.cell? ⟨b,o+i*k+j,none⟩=some u
section
variable {α:Type} {k:Nat} {enc:α→List Value}
theorem zcS.keepB{w w':World}{B:Nat}{v:Value}{l:List α}(h:zcS k enc w v l)(hq:Below B w w')(hB:w.heap.size≤B):zcS k enc w' v l:=by
 obtain⟨a,cap,rfl,hc⟩:=h
 refine⟨a,cap,rfl,fun i hi=>?_⟩
 obtain⟨b,o,ha,hb,h⟩:=hc i hi
 exact⟨b,o,ha,Nat.lt_of_lt_of_le hb hq.size,fun j u hu=>(hq.cell (p:=⟨b,o+i*k+j,none⟩) (show b<B by omega)).trans (h j u hu)⟩
theorem zcS.keep{w w':World}{v:Value}{l:List α}(h:zcS k enc w v l)(hq:Q w w'):zcS k enc w' v l:=h.keepB hq (Nat.le_refl _)
theorem zcS.nil(w:World)(a:Option Addr)(cap:Nat):zcS k enc w (.slice a 0 cap) ([]:List α):=⟨a,cap,rfl,fun _ hi=>absurd hi (Nat.not_lt_zero _)⟩
def rowOf(enc:α→List Value)(l:List α):List Value:=l.flatMap enc
theorem ziv(hk:∀ x,(enc x).length=k):∀ l:List α,(rowOf enc l).length=l.length*k
 | []=>by simp[rowOf]
 | x::l=>by
  have ih:=ziv hk l
  unfold rowOf at *
  rw[List.flatMap_cons,List.length_append,hk,ih,List.length_cons,Nat.succ_mul];omega
theorem zdd(hk:∀ x,(enc x).length=k):∀ (l:List α) (i:Nat) (h:i<l.length) (j:Nat),j<k→(rowOf enc l)[i*k+j]? = (enc l[i])[j]?
 | [],i,h,_,_=>absurd h (Nat.not_lt_zero _)
 | x::l,0,_,j,hj=>by
  unfold rowOf
  rw[List.flatMap_cons,Nat.zero_mul,Nat.zero_add,List.getElem?_append_left (by rw[hk];exact hj)];rfl
 | x::l,i+1,h,j,hj=>by
  have ih:=zdd hk l i (by simpa using h) j hj
  unfold rowOf at *
  rw[List.flatMap_cons,List.getElem?_append_right (by rw[hk,Nat.succ_mul];omega),hk,show (i+1)*k+j - k=i*k+j by rw[Nat.succ_mul];omega]
  exact ih
theorem zjE(l:List α)(x:α):rowOf enc (l++[x])=rowOf enc l++enc x:=by unfold rowOf;rw[List.flatMap_append];simp
theorem zcS.of_row{w:World}{B:Nat}{t:TypeId}{v:Value}{l:List α}(hk:∀ x,(enc x).length=k)(h:w.ownsRow B t k v l.length (rowOf enc l)):zcS k enc w v l:=by
 have h0:=h
 rcases h.2 with⟨rfl,hn⟩|⟨g,cap,cur,rfl,hg,hc,hnc,hcm,hsz,htk⟩
 ·exact⟨none,0,by rw[hn],fun i hi=>by omega⟩
 ·refine⟨_,cap,rfl,fun i hi=>⟨g,0,rfl,(Array.getElem?_eq_some_iff.1 hc).1,fun j u hu=>?_⟩⟩
  have hj:j<k:=by have:=(List.getElem?_eq_some_iff.1 hu).1;rwa[hk]at this
  have hb:i*k+j<l.length*k:=by
   have h1:=Nat.mul_le_mul_right k (show i+1≤l.length from hi)
   rw[Nat.succ_mul]at h1;omega
  rw[Nat.zero_add,World.ownsRow.cellAt h0 (i*k+j) hb,zdd hk l i hi j hj]
  exact hu
end
theorem zc4{P:Program}{o:Oper}{ev:Operand→Value}(ty:TypeId)(x:Operand)(ho:o.op=.load ty x)(g:Nat)(hx:ev x=.pointer (some ⟨g,0,none⟩)){t:TypeId}{cs:List Value}{W:World}(hb:Blk W g cs t)(d:TypeDesc)
  (hu:P.underlying ty=some d)(hd:(match d with | .struct _ | .array _ _=>true | _=>false)=true)(hi:(P.info? ty).map (·.size)=some cs.length) :
  (execOp ev o).run P W=.ok (.value (.agg cs.toArray)) W:=by
 unfold execOp
 simp only[ho,hx,Instr.loadAt,Instr.sureAddr,Sem.run_bind,Sem.run_pure,Result.andThen_ok,run_loadVar_row W g t ty cs.toArray (0,0) d hb hu hd (by simpa using hi)]
end
end Go.Proofs.YtbpghkdadajomaaGreatDoor
