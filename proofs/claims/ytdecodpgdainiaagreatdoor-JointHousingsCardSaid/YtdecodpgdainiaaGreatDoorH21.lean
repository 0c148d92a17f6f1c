/-
  The forms of a housing's length, and how they compare: mathematics.; joint.Housing at members whose directions in the plan are short.
-/
import Derived.Test.YtdecodpgdainiaaGreatDoorH20
import Derived.Test.YtdecodpgdainiaaGreatDoorH16
set_option maxRecDepth 100000
set_option maxHeartbeats 4000000
namespace Go.Proofs.YtdecodpgdainiaaGreatDoor
section
open Go.RowKit Kp
open Go.Lib (decDigits)
theorem npos{q:Rat}(h:0<q):0<q.num:=by
 have:=(Rat.lt_iff 0 q).1 h
 simpa using this
theorem zua{q:Rat}(h:0<q.num):0<q:=(Rat.lt_iff 0 q).2 (by simpa using h)
theorem zfp{r:List (Rat × Nat)}(z w:Rat)(n:Nat)(hp:0<n):zdb ((z,n)::r) (w,n)=(z+w,n)::r:=zoB hp rfl
theorem zar{q:Rat}(h:0<q):q≠0:=fun e=>by subst e;exact absurd h (by decide)
theorem zmA{q:Rat}(h:q≠0):-q≠0:=fun e=>h (by grind)
theorem zl8(cs:List (Rat × Nat))(r:Rat):zhh cs (0,r)=some cs:=by unfold zhh;rw[if_pos (.inl rfl)]
theorem zoE{s:Rat}(hs:0<s.num):aOf s*aOf s*(leftOf s:Rat)=s:=by
 obtain⟨C,L,N,D,hN,hD,h,h2,e1,-,e3⟩:=zjM s hs
 rw[e1,e3]
 grind
theorem zsO{s:Rat}(hs:0<s.num):0<aOf s:=by
 unfold aOf
 have h0:0<(zaJ (s.num.toNat*s.den)).1:=(zd9 (Nat.mul_pos (by omega) s.den_pos)).2.1
 exact zua (zb1 (by omega) s.den_pos)
def HA(a:List (Rat × Nat))(W:Rat):Prop :=
 (∃ Z n,a=[(Z,n)]∧0<Z∧zeB n∧W*W≤Z*Z*(n:Rat)) ∨
 (∃ y X n,a=[(y,1),(X,n)]∧0<y∧0<X∧zeB n∧n≠1∧W*W≤X*X*(n:Rat))
theorem HA.all{a:List (Rat × Nat)}{W:Rat}(h:HA a W):∀ c∈a,c.1≠0∧zeB c.2:=by
 rcases h with⟨Z,n,rfl,hz,hn,-⟩|⟨y,X,n,rfl,hy,hX,hn,-,-⟩
 ·intro c hc
  rw[List.mem_singleton]at hc
  subst hc
  exact⟨zar hz,hn⟩
 ·intro c hc
  rw[List.mem_cons,List.mem_singleton]at hc
  rcases hc with rfl | rfl
  ·exact⟨zar hy,zlq⟩
  ·exact⟨zar hX,hn⟩
theorem HA.up{a:List (Rat × Nat)}{W:Rat}(h:HA a W):(∀ i (h:i+1<a.length),a[i].2<a[i+1].2)∧Apart a∧a.length≤2:=by
 rcases h with⟨Z,n,rfl,hz,hn,-⟩|⟨y,X,n,rfl,hy,hX,hn,h1,-⟩
 ·exact⟨fun i h=>absurd h (by simp),List.pairwise_singleton _ _,by simp⟩
 ·refine⟨fun i h=>?_,?_,by simp⟩
  ·obtain rfl:i=0:=by simp at h;omega
   show 1<n
   have:=hn.1
   omega
  ·unfold Apart
   rw[List.pairwise_cons]
   exact⟨fun c hc=>by rw[List.mem_singleton]at hc;subst hc;exact(zhQ hn h1).1,List.pairwise_singleton _ _⟩
theorem HA.slist{a:List (Rat × Nat)}{W:Rat}(h:HA a W)(hs:∀ c∈a,zbY c=true):SList a:=by
 obtain⟨h1,h2,h3⟩:=h.up
 refine⟨fun c hc=>?_,h1,h2,by omega⟩
 obtain⟨e1,e2⟩:=h.all c hc
 have e3:=hs c hc
 have e4:=zmh e3
 unfold zbY at e3
 simp only[Bool.and_eq_true,decide_eq_true_eq]at e3
 exact⟨e4.1.zak (by decide),e1,e3.1,e2,zlU (by decide) e3.2⟩
theorem zgm{W:Rat}:negL [(W,1)]=[(-W,1)]:=rfl
theorem HA.withW{a:List (Rat × Nat)}{W:Rat}(h:HA a W)(hW:0<W):∀ c∈a++negL [(W,1)],c.1≠0∧zeB c.2:=fun c hc=>by
 rcases List.mem_append.1 hc with hc | hc
 ·exact h.all c hc
 ·rw[zgm,List.mem_singleton]at hc
  subst hc
  exact⟨zmA (zar hW),zlq⟩
theorem HA.withA{a:List (Rat × Nat)}{W:Rat}(h:HA a W):∀ c∈a++negL a,c.1≠0∧zeB c.2:=fun c hc=>by
 rcases List.mem_append.1 hc with hc | hc
 ·exact h.all c hc
 ·unfold negL at hc
  obtain⟨d,hd,rfl⟩:=List.mem_map.1 hc
  exact⟨zmA (h.all d hd).1,(h.all d hd).2⟩
theorem zlX(c t:Rat × Nat):ziw [] [c,t]=zdb [c] t:=rfl
theorem zpQ(c t u:Rat × Nat):ziw [] [c,t,u]=zdb (zdb [c] t) u:=rfl
theorem zrn(c t u v:Rat × Nat):ziw [] [c,t,u,v]=zdb (zdb (zdb [c] t) u) v:=rfl
theorem zhf(t:Rat × Nat):zdb [] t=[t]:=rfl
theorem HA.gatherW{a:List (Rat × Nat)}{W:Rat}(h:HA a W)(hW:0<W):(ziw [] (a++negL [(W,1)])).length≤2 ∧
  ∀ P,zeP (zcN (ziw [] (a++negL [(W,1)])))≠[]→0<zbC (zeP (zcN (ziw [] (a++negL [(W,1)])))) P+(zeP (zcN (ziw [] (a++negL [(W,1)])))).length:=by
 rcases h with⟨Z,n,rfl,hz,hn,hge⟩|⟨y,X,n,rfl,hy,hX,hn,h1,hge⟩
 ·by_cases h1:n=1
  ·subst h1
   have e:ziw [] ([(Z,1)]++negL [(W,1)])=[(Z + -W,1)]:=by
    rw[zgm,List.singleton_append,zlX,zfp _ _ _ (by decide)]
   rw[e]
   refine⟨by simp,fun P hne=>?_⟩
   have hle:W≤Z:=ziD (Rat.le_of_lt hz) (by rw[show ((1:Nat):Rat)=1 from rfl]at hge;grind)
   have h0:0≤(Z + -W).num:=Rat.num_nonneg.2 (by grind)
   by_cases hq:Z + -W=0
   ·exfalso;apply hne
    unfold zcN
    rw[List.filter_cons,if_neg (by simp[hq])]
    rfl
   ·have ho:zcN [(Z + -W,1)]=[(Z + -W,1)]:=by
     unfold zcN
     rw[List.filter_cons,if_pos (by simp[hq])]
     rfl
    rw[ho]
    show 0<(zbx (Z + -W) 1 P+0)+((1:Nat):Int)
    have:=zgs h0 1 P
    omega
  ·have e:ziw [] ([(Z,n)]++negL [(W,1)])=[(Z,n),(-W,1)]:=by
    rw[zgm,List.singleton_append,zlX,zfq (zhQ hn h1).2,zhf]
   rw[e]
   refine⟨by simp,fun P _=>?_⟩
   have ho:zcN [(Z,n),(-W,1)]=[(Z,n),(-W,1)]:=by
    unfold zcN
    rw[List.filter_cons,if_pos (by simp[zar hz]),List.filter_cons,if_pos (by simp[zmA (zar hW)])]
    rfl
   have hs:zeP [(Z,n),(-W,1)]=[(-W,1),(Z,n)]:=by
    show (if 1<n then _ else _)=_
    rw[if_pos (by have:=hn.1;omega)]
   rw[ho,hs]
   exact(zp9 (npos hz) (npos hW) (by decide) (zsx (by rw[show ((1:Nat):Rat)=1 from rfl];grind)) P).2
 ·have e:ziw [] ([(y,1),(X,n)]++negL [(W,1)])=[(y + -W,1),(X,n)]:=by
   rw[zgm]
   show ziw [] [(y,1),(X,n),(-W,1)]=_
   rw[zpQ,zfq (zhQ hn h1).1,zhf,zfp _ _ _ (by decide)]
  rw[e]
  refine⟨by simp,fun P _=>?_⟩
  by_cases hq:y + -W=0
  ·have ho:zcN [(y + -W,1),(X,n)]=[(X,n)]:=by
    unfold zcN
    rw[List.filter_cons,if_neg (by simp[hq]),List.filter_cons,if_pos (by simp[zar hX])]
    rfl
   rw[ho]
   show 0<(zbx X n P+0)+((1:Nat):Int)
   have:=zgs (Int.le_of_lt (npos hX)) n P
   omega
  ·have ho:zcN [(y + -W,1),(X,n)]=[(y + -W,1),(X,n)]:=by
    unfold zcN
    rw[List.filter_cons,if_pos (by simp[hq]),List.filter_cons,if_pos (by simp[zar hX])]
    rfl
   have hs:zeP [(y + -W,1),(X,n)]=[(y + -W,1),(X,n)]:=by
    show (if n<1 then _ else _)=_
    rw[if_neg (by have:=hn.1;omega)]
   rw[ho,hs]
   by_cases hneg:y + -W<0
   ·have e2:y + -W = -(W - y):=by grind
    have hp:0<W - y:=by grind
    rw[e2]
    refine(zp9 (npos hX) (npos hp) (by decide) (zsx ?_) P).2
    rw[show ((1:Nat):Rat)=1 from rfl]
    have h3:(W - y)*(W - y)≤W*W:=by
     have a1:(W - y)*(W - y)≤(W - y)*W:=Rat.mul_le_mul_of_nonneg_left (by grind) (Rat.le_of_lt hp)
     have a2:(W - y)*W≤W*W:=Rat.mul_le_mul_of_nonneg_right (by grind) (Rat.le_of_lt hW)
     exact Rat.le_trans a1 a2
    have:(W - y)*(W - y)*1=(W - y)*(W - y):=by grind
    rw[this]
    exact Rat.le_trans h3 hge
   ·have h0:0≤(y + -W).num:=Rat.num_nonneg.2 (by grind)
    show 0<(zbx (y + -W) 1 P+(zbx X n P+0))+((2:Nat):Int)
    have:=zgs h0 1 P
    have:=zgs (Int.le_of_lt (npos hX)) n P
    omega
theorem HA.gatherA{a:List (Rat × Nat)}{W:Rat}(h:HA a W):(ziw [] (a++negL a)).length≤2∧zcN (ziw [] (a++negL a))=[]:=by
 have z0:∀ q:Rat,q + -q=0:=fun q=>by grind
 rcases h with⟨Z,n,rfl,hz,hn,hge⟩|⟨y,X,n,rfl,hy,hX,hn,h1,hge⟩
 ·have e:ziw [] ([(Z,n)]++negL [(Z,n)])=[(Z + -Z,n)]:=by
   show ziw [] [(Z,n),(-Z,n)]=_
   rw[zlX,zfp _ _ _ hn.1]
  rw[e]
  refine⟨by simp,?_⟩
  unfold zcN
  rw[z0]
  rfl
 ·have e:ziw [] ([(y,1),(X,n)]++negL [(y,1),(X,n)])=[(y + -y,1),(X + -X,n)]:=by
   show ziw [] [(y,1),(X,n),(-y,1),(-X,n)]=_
   rw[zrn,zfq (zhQ hn h1).1,zhf,zfp _ _ _ (by decide),zfq (zhQ hn h1).1,zfp _ _ _ hn.1]
  rw[e]
  refine⟨by simp,?_⟩
  unfold zcN
  rw[z0,z0]
  rfl
theorem HA.cmpW{a:List (Rat × Nat)}{W:Rat}(h:HA a W)(hW:0<W):(∀ cs,zeQ (zgO (a++negL [(W,1)]))=some cs→cs.length≤2)∧zl4 (zrt (a++negL [(W,1)])):=by
 refine⟨fun cs hc=>?_,ztE fun C hC hne P=>?_⟩
 ·rw[zgp _ _ rfl (h.withW hW) cs hc];exact(h.gatherW hW).1
 ·rw[zku (h.withW hW) hC]at hne ⊢
  exact(h.gatherW hW).2 P hne
theorem HA.cmpA{a:List (Rat × Nat)}{W:Rat}(h:HA a W):(∀ cs,zeQ (zgO (a++negL a))=some cs→cs.length≤2)∧(zrt (a++negL a)=.tuple #[.int .i64 0,.int .i64 4]∨zrt (a++negL a)=.tuple #[.int .i64 0,.int .i64 0]):=by
 refine⟨fun cs hc=>?_,zrg fun C hC=>?_⟩
 ·rw[zgp _ _ rfl h.withA cs hc];exact h.gatherA.1
 ·rw[zku h.withA hC];exact h.gatherA.2
theorem zpw{x s y W:Rat}(hx:0<x)(hs:0<s)(hy:0≤y)(hW:W*W≤x*x*s){C:List (Rat × Nat)}(h:zbH [(x,s),(y,1)]=some C):HA (zeP C) W∧∀ c∈zeP C,zbY c=true:=by
 refine⟨?_,fun c hc=>zjn h c (zog hc)⟩
 have hX0:0<aOf s:=zsO (npos hs)
 have hn:zeB (leftOf s):=zlE (npos hs)
 have hv:aOf s*aOf s*(leftOf s:Rat)=s:=zoE (npos hs)
 have hX:0<x*aOf s:=Rat.mul_pos hx hX0
 have hge:W*W≤x*aOf s*(x*aOf s)*(leftOf s:Rat):=by
  have:x*aOf s*(x*aOf s)*(leftOf s:Rat)=x*x*s:=by rw[← hv];grind
  rw[this];exact hW
 unfold zbH at h
 have e:zeQ [(x,s),(y,1)]=(zhh [] (x,s)).bind fun cs=>zhh cs (y,1):=rfl
 rw[e]at h
 cases h1:zhh [] (x,s)with
 | none=>rw[h1]at h;cases h
 | some c0 =>
  rw[h1]at h
  simp only[Option.bind_some]at h
  have e0:c0=[(x*aOf s,leftOf s)]:=zgn (zar hx) (zar hs) h1
  subst e0
  by_cases hy0:y=0
  ·subst hy0
   rw[zl8]at h
   simp only[Option.bind_some]at h
   split at h
   ·have:C=[(x*aOf s,leftOf s)]:=by
     rw[← Option.some.inj h]
     unfold zcN
     rw[List.filter_cons,if_pos (by simp[zar hX])]
     rfl
    subst this
    exact .inl ⟨_,_,rfl,hX,hn,hge⟩
   ·cases h
  ·have hy1:0<y:=by
    rcases Rat.le_iff_lt_or_eq.1 hy with h | h
    ·exact h
    ·exact absurd h.symm hy0
   cases h2:zhh [(x*aOf s,leftOf s)] (y,1)with
   | none=>rw[h2]at h;cases h
   | some c1 =>
    rw[h2]at h
    simp only[Option.bind_some]at h
    have e1:=zgn hy0 (by decide) h2
    rw[zl2,zde,show y*1=y by grind]at e1
    by_cases hn1:leftOf s=1
    ·rw[zoB hn.1 hn1.symm]at e1
     subst e1
     have hXy:0<x*aOf s+y:=by grind
     split at h
     ·have:C=[(x*aOf s+y,leftOf s)]:=by
       rw[← Option.some.inj h]
       unfold zcN
       rw[List.filter_cons,if_pos (by simp[zar hXy])]
       rfl
      subst this
      refine .inl ⟨_,_,rfl,hXy,hn,Rat.le_trans hge ?_⟩
      rw[hn1,show ((1:Nat):Rat)=1 from rfl]
      have a1:x*aOf s*(x*aOf s)≤(x*aOf s+y)*(x*aOf s):=Rat.mul_le_mul_of_nonneg_right (by grind) (Rat.le_of_lt hX)
      have a2:(x*aOf s+y)*(x*aOf s)≤(x*aOf s+y)*(x*aOf s+y):=Rat.mul_le_mul_of_nonneg_left (by grind) (Rat.le_of_lt hXy)
      have:=Rat.le_trans a1 a2
      grind
     ·cases h
    ·rw[zfq (zhQ hn hn1).2,zhf]at e1
     subst e1
     split at h
     ·have:C=[(x*aOf s,leftOf s),(y,1)]:=by
       rw[← Option.some.inj h]
       unfold zcN
       rw[List.filter_cons,if_pos (by simp[zar hX]),List.filter_cons,if_pos (by simp[hy0])]
       rfl
      subst this
      have hs2:zeP [(x*aOf s,leftOf s),(y,1)]=[(y,1),(x*aOf s,leftOf s)]:=by
       show (if 1<leftOf s then _ else _)=_
       rw[if_pos (by have:=hn.1;omega)]
      rw[hs2]
      exact .inr ⟨_,_,_,rfl,hy1,hX,hn,hn1,hge⟩
     ·cases h
end
section
open Go.RowKit Go.Shelf Kp
open Go.Lib (decDigits)
attribute [local go_sem] Oper.semAt_some
def zcY(q:Rat):Rat:=if q.num<0 then -q else q
theorem ziH(q:Rat):(zcY q).num=(q.num.natAbs:Int):=by
 unfold zcY
 split
 ·rw[zeo];omega
 ·omega
theorem zoC(q:Rat):(zcY q).den=q.den:=by
 unfold zcY
 split
 ·exact zgF q
 ·rfl
theorem zoL(q:Rat):zo (za q)=za (zcY q):=by
 unfold za
 rw[zoC,ziH]
 split
 ·rw[zaa,zL]
 ·rw[zdQ,zL]
theorem zl1{n:Nat}{q:Rat}(h:Bd n q):Bd n (zcY q):=⟨by rw[ziH,Int.natAbs_natCast];exact h.1,by rw[zoC];exact h.2⟩
theorem ztQ(q:Rat):zcY q*zcY q=q*q:=by
 unfold zcY
 split <;> grind
theorem zn0(q:Rat):0≤zcY q:=Rat.num_nonneg.1 (by rw[ziH];omega)
theorem zlZ{q:Rat}(h:q≠0):0<zcY q:=zua (by
 rw[ziH]
 have:q.num≠0:=fun e=>h (Rat.num_eq_zero.1 e)
 omega)
theorem zl0(q:Rat):zcY (-q)=zcY q:=by
 unfold zcY
 rw[zeo]
 by_cases h0:q.num=0
 ·have:q=0:=Rat.num_eq_zero.1 h0
  subst this
  rfl
 ·by_cases h:q.num<0
  ·rw[if_neg (by omega),if_pos h]
  ·rw[if_pos (by omega),if_neg h];grind
theorem zkz(q:Rat)(w:World) :
  Calls Tryz.prog 27 #[.string ⟨(za q).toArray⟩] w fun e w'=>e=.returned (.string ⟨(za (zcY q)).toArray⟩)∧w=w':=by
 have HT:=LH (fun w=>zH (za q) w)
 rw[zoL]at HT
 generalize za (zcY q)=R at *
 generalize za q=S at *
 go_enter Tryz.func27,Tryz.ntmps27
 go_wp2_with fail
 refine(HT.out _).mono ?_
 rintro e w1⟨rfl,rfl⟩
 go_wp2
 go_ret
 exact⟨rfl,rfl⟩
theorem zc8{k l m n:Nat}(a x b y:Rat)(ha:Bd k a)(hx:Bd l x)(hb:Bd m b)(hy:Bd n y)(h:k+l+(m+n)+1≤300)(w:World)(hE:Env w) :
  CR 23 #[.string ⟨(za a).toArray⟩,.string ⟨(za x).toArray⟩,.string ⟨(za b).toArray⟩,.string ⟨(za y).toArray⟩] w (.tuple #[.string ⟨(za (a*x+b*y)).toArray⟩,.int .i64 0]):=by
 have HM1:=LH (fun w hw=>zaq a x ha hx (by omega) w hw)
 have HM2:=LH (fun w hw=>zaq b y hb hy (by omega) w hw)
 have HA:=LH (fun w hw=>zdm (a*x) (b*y) (ha.mul hx) (hb.mul hy) h w hw)
 clear ha hx hb hy h
 generalize za (a*x+b*y)=R at *
 generalize za (a*x)=P at *
 generalize za (b*y)=S at *
 generalize za a=A at *
 generalize za x=X at *
 generalize za b=B at *
 generalize za y=Y at *
 go_enter Tryz.func23,Tryz.ntmps23
 have hQ0:=Q.refl w
 go_wp2_with fail
 refine cx (HM1.out _ (hE.ofQ bt)) fun w1 hq1=>?_
 have hs1:Q w w1:=Q.trans bt hq1
 have hQ1:Q w w1:=Q.trans hQ0 hs1
 go_wp2_with fail
 refine cx (HM2.out _ (hE.ofQ bt)) fun w2 hq2=>?_
 have hs2:Q w1 w2:=Q.trans bt hq2
 have hQ2:Q w w2:=Q.trans hQ1 hs2
 go_wp2_with fail
 refine cx (HA.out _ (hE.ofQ bt)) fun w3 hq3=>?_
 have hs3:Q w2 w3:=Q.trans bt hq3
 have hQ3:Q w w3:=Q.trans hQ2 hs3
 go_wp2
 go_ret2
 exact⟨rfl,hQ3⟩
def crF(u v:P3):Rat:=u.x*v.y + -u.y*v.x
def doF(u v:P3):Rat:=u.x*v.x+u.y*v.y
def hsT(W:Int)(q:Int)(u v:P3):List (Rat × Rat):=[((W:Rat) / zcY (crF u v),doF u u*doF v v),(zcY (doF u v) / zcY (crF u v)*(q:Rat),1)]
def hsE(W:Int)(q:Int)(u v:P3):Int:=if crF u v=0 then 12 else if zbH (hsT W q u v)=none then 4 else 0
theorem zso:Bd 1 (0:Rat):=⟨by decide,by decide⟩
def B2(n:Nat)(p:P3):Prop:=Bd n p.x∧Bd n p.y
theorem zkL{u v:P3}(hu:B2 25 u)(hv:B2 25 v):Bd 101 (doF u v):=((hu.1.mul hv.1).add (hu.2.mul hv.2)).mono (by decide)
theorem zsK{u v:P3}(hu:B2 25 u)(hv:B2 25 v):Bd 101 (crF u v):=((hu.1.mul hv.2).add ((zod hu.2).mul hv.1)).mono (by decide)
theorem zjz{n:Nat}{z:Int}(h:z.natAbs<10 ^ n)(hn:0<n):Bd n (z:Rat):=⟨h,by rw[show ((z:Rat)).den=1 from rfl];exact Nat.one_lt_pow (by omega) (by decide)⟩
theorem zm3{k l:Nat}{x y:Rat}(hx:Bd k x)(hy:Bd l y):Bd (k+l+1) (x - y):=by
 rw[show x - y=x + -y by grind]
 exact hx.add (zod hy)
theorem TSl.four{w:World}{b:Nat}{s1 s2 s3 s4:Str}{t:TypeId}(h:Blk w b [.string ⟨s1.toArray⟩,.string ⟨s2.toArray⟩,.string ⟨s3.toArray⟩,.string ⟨s4.toArray⟩] t)(cap:Nat):TSl w w.heap.size (.slice (some ⟨b,0,none⟩) 2 cap) [(s1,s2),(s3,s4)]:=by
 refine⟨_,cap,rfl,Nat.le_refl _,fun i hi=>⟨b,0,rfl,h.lt,?_⟩⟩
 rcases(show i=0∨i=1 by simp at hi;omega)with rfl | rfl
 ·exact⟨h.cell 0,h.cell 1⟩
 ·exact⟨h.cell 2,h.cell 3⟩
theorem zuh{W q:Int}{u v:P3}(hu:B2 25 u)(hv:B2 25 v)(hW:W.natAbs<10 ^ 4)(hq:q.natAbs<10 ^ 4)(hc:crF u v≠0):(∀ t∈hsT W q u v,TW t)∧Bd 105 ((W:Rat) / zcY (crF u v))∧Bd 202 (doF u u*doF v v)∧Bd 202 (zcY (doF u v) / zcY (crF u v))∧Bd 206 (zcY (doF u v) / zcY (crF u v)*(q:Rat)):=by
 have bc:=zl1 (zsK hu hv)
 have pc:0<(zcY (crF u v)).num:=npos (zlZ hc)
 have b1:Bd 105 ((W:Rat) / zcY (crF u v)):=(zjz hW (by decide)).quot bc pc
 have b2:Bd 202 (doF u u*doF v v):=(zkL hu hu).mul (zkL hv hv)
 have b3:Bd 202 (zcY (doF u v) / zcY (crF u v)):=(zl1 (zkL hu hv)).quot bc pc
 have b4:Bd 206 (zcY (doF u v) / zcY (crF u v)*(q:Rat)):=b3.mul (zjz hq (by decide))
 refine⟨fun t ht=>?_,b1,b2,b3,b4⟩
 unfold hsT at ht
 rw[List.mem_cons,List.mem_singleton]at ht
 rcases ht with rfl | rfl
 ·refine⟨b1.zak (by decide),b2.zak (by decide),Rat.num_nonneg.2 (Rat.mul_nonneg ?_ ?_)⟩
  ·exact Rat.add_nonneg (sq_nonneg _) (sq_nonneg _)
  ·exact Rat.add_nonneg (sq_nonneg _) (sq_nonneg _)
 ·exact⟨b4.zak (by decide),zfL.zak (by decide),(show (0:Int)≤(1:Rat).num by decide)⟩
theorem zgY{n1 n2:Nat}(k F O W D:Int)(hm:MOk k W D)(ho:FOk F O)(f t:P3)(hf:B3 n1 f)(ht:B3 n1 t)(hn1:n1≤149)(hlf:lg3 f=false)(hlt:lg3 t=false)(hne:f≠t)
  (k' F' O' W' D':Int)(hm':MOk k' W' D')(ho':FOk F' O')(f' t':P3)(hf':B3 n2 f')(ht':B3 n2 t')(hn2:n2≤149)(hlf':lg3 f'=false)(hlt':lg3 t'=false)(hne':f'≠t')
  (q:Int)(q0:0≤q)(q1:q≤255)(hu:B2 25 (t.sub f))(hv:B2 25 (t'.sub f'))(w:World)(hE:Env w) :
  Calls Tryz.prog 7 #[VN k F O W D f t,VN k' F' O' W' D' f' t',.int .i64 q] w fun e w'=>∃ v,e=.returned (.tuple #[v,.int .i64 (hsE W q (t.sub f) (t'.sub f'))])∧Q w w'∧(hsE W q (t.sub f) (t'.sub f')=0→∃ C,zbH (hsT W q (t.sub f) (t'.sub f'))=some C∧zbc w' w.heap.size v (zeP C)):=by
 have hc1:=fun w hw=>zds k F O W D hm ho f t hf ht (by omega) hlf hne w hw
 rw[hlt,if_neg (by decide)]at hc1
 have HC1:=LH hc1
 have hc2:=fun w hw=>zds k' F' O' W' D' hm' ho' f' t' hf' ht' (by omega) hlf' hne' w hw
 rw[hlt',if_neg (by decide)]at hc2
 have HC2:=LH hc2
 have HD1:=LH (fun w hw=>zfj k F O W D hm ho f t hf ht hn1 hlf hlt hne w hw)
 have HD2:=LH (fun w hw=>zfj k' F' O' W' D' hm' ho' f' t' hf' ht' hn2 hlf' hlt' hne' w hw)
 clear hc1 hc2
 generalize t.sub f=u at *
 generalize t'.sub f'=v at *
 have hw4:W.natAbs<10 ^ 4:=by have:=hm.w1;have:=hm.w2;omega
 have hq4:q.natAbs<10 ^ 4:=by omega
 have hs0:=fun w hw=>zao 0 u.y zso hu.2 (by decide) w hw
 rw[zav,show (0:Rat) - u.y = -u.y by grind]at hs0
 have HB:=LH hs0
 have HP1:=LH (fun w hw=>zc8 u.x v.y (-u.y) v.x hu.1 hv.2 (zod hu.2) hv.1 (by decide) w hw)
 have HP2:=LH (fun w hw=>zc8 u.x v.x u.y v.y hu.1 hv.1 hu.2 hv.2 (by decide) w hw)
 have HP3:=LH (fun w hw=>zc8 u.x u.x u.y u.y hu.1 hu.1 hu.2 hu.2 (by decide) w hw)
 have HP4:=LH (fun w hw=>zc8 v.x v.x v.y v.y hv.1 hv.1 hv.2 hv.2 (by decide) w hw)
 rw[show u.x*v.y + -u.y*v.x=crF u v from rfl]at HP1
 rw[show u.x*v.x+u.y*v.y=doF u v from rfl]at HP2
 rw[show u.x*u.x+u.y*u.y=doF u u from rfl]at HP3
 rw[show v.x*v.x+v.y*v.y=doF v v from rfl]at HP4
 clear hs0
 by_cases hc:crF u v=0
 ·have hcz:(za (crF u v) == [48])=true:=by rw[hc,zav];rfl
  have he:hsE W q u v=12:=by unfold hsE;rw[if_pos hc]
  rw[he]
  clear he hc hw4 hq4 hm ho hf ht hn1 hlf hlt hne hm' ho' hf' ht' hn2 hlf' hlt' hne' hu hv HP2 HP3 HP4
  unfold VN V3 at *
  generalize za (crF u v)=SC at *
  generalize za (-u.y)=UN at *
  generalize za u.x=UX at *
  generalize za u.y=UY at *
  generalize za u.z=UZ at *
  generalize za v.x=VX at *
  generalize za v.y=VY at *
  generalize za v.z=VZ at *
  generalize za f.x=X1 at *
  generalize za f.y=X2 at *
  generalize za f.z=X3 at *
  generalize za t.x=X4 at *
  generalize za t.y=X5 at *
  generalize za t.z=X6 at *
  generalize za f'.x=Y1 at *
  generalize za f'.y=Y2 at *
  generalize za f'.z=Y3 at *
  generalize za t'.x=Y4 at *
  generalize za t'.y=Y5 at *
  generalize za t'.z=Y6 at *
  obtain⟨W0,hW0⟩:∃ W0,(w.alloc (.cells #[.int .i64 k,.int .i64 F,.int .i64 O,.string ⟨X1.toArray⟩,.string ⟨X2.toArray⟩,.string ⟨X3.toArray⟩,.string ⟨X4.toArray⟩,.string ⟨X5.toArray⟩,.string ⟨X6.toArray⟩,.int .i64 W,.int .i64 D] 26)).alloc (.cells #[.int .i64 k',.int .i64 F',.int .i64 O',.string ⟨Y1.toArray⟩,.string ⟨Y2.toArray⟩,.string ⟨Y3.toArray⟩,.string ⟨Y4.toArray⟩,.string ⟨Y5.toArray⟩,.string ⟨Y6.toArray⟩,.int .i64 W',.int .i64 D'] 26)=W0:=⟨_,rfl⟩
  have hq0:Q w W0:=by rw[← hW0];exact bt
  have BM:Blk W0 w.heap.size [.int .i64 k,.int .i64 F,.int .i64 O,.string ⟨X1.toArray⟩,.string ⟨X2.toArray⟩,.string ⟨X3.toArray⟩,.string ⟨X4.toArray⟩,.string ⟨X5.toArray⟩,.string ⟨X6.toArray⟩,.int .i64 W,.int .i64 D] 26:=by rw[← hW0];exact(Blk.new w _ _).alloc _
  have BN:Blk W0 (w.heap.size+1) [.int .i64 k',.int .i64 F',.int .i64 O',.string ⟨Y1.toArray⟩,.string ⟨Y2.toArray⟩,.string ⟨Y3.toArray⟩,.string ⟨Y4.toArray⟩,.string ⟨Y5.toArray⟩,.string ⟨Y6.toArray⟩,.int .i64 W',.int .i64 D'] 26:=by rw[← hW0];exact Blk.new1 w _ _ _
  have hEw:=hE.ofQ hq0
  clear hE
  have hE:=hEw
  clear hEw
  have hQ0:=Q.refl W0
  replace m0:=BM.cell
  replace lBM:=BM.lt
  replace y0:=BN.cell
  replace lBN:=BN.lt
  go_enter Tryz.func7,Tryz.ntmps7
  go_wp2_with fail
  clear hW0
  go_wp2_with fail
  refine cx (HC1.out _ (hE.ofQ bt)) fun G1 hq1=>?_
  have hs1:Q W0 G1:=Q.trans bt hq1
  have hQ1:Q W0 G1:=Q.trans hQ0 hs1
  replace BM:=BM.keep hs1 BM.lt
  replace m0:=BM.cell
  replace lBM:=BM.lt
  replace BN:=BN.keep hs1 BN.lt
  replace y0:=BN.cell
  replace lBN:=BN.lt
  go_wp2_with fail
  refine cx (HC2.out _ (hE.ofQ bt)) fun G2 hq2=>?_
  have hs2:Q G1 G2:=Q.trans bt hq2
  have hQ2:Q W0 G2:=Q.trans hQ1 hs2
  replace BM:=BM.keep hs2 BM.lt
  replace m0:=BM.cell
  replace lBM:=BM.lt
  replace BN:=BN.keep hs2 BN.lt
  replace y0:=BN.cell
  replace lBN:=BN.lt
  clear HC1 HC2
  go_wp2_with fail
  refine cx (HD1.out _ (hE.ofQ bt)) fun G3 hq3=>?_
  have hs3:Q G2 G3:=Q.trans bt hq3
  have hQ3:Q W0 G3:=Q.trans hQ2 hs3
  replace BM:=BM.keep hs3 BM.lt
  replace m0:=BM.cell
  replace lBM:=BM.lt
  replace BN:=BN.keep hs3 BN.lt
  replace y0:=BN.cell
  replace lBN:=BN.lt
  have BU0:=Blk.new G3 [.string ⟨UX.toArray⟩,.string ⟨UY.toArray⟩,.string ⟨UZ.toArray⟩] 24
  go_wp2_with fail
  refine cx (HD2.out _ (hE.ofQ bt)) fun G4 hq4=>?_
  have hs4:Q G3 G4:=Q.trans bt hq4
  have hQ4:Q W0 G4:=Q.trans hQ3 hs4
  replace BM:=BM.keep hs4 BM.lt
  replace m0:=BM.cell
  replace lBM:=BM.lt
  replace BN:=BN.keep hs4 BN.lt
  replace y0:=BN.cell
  replace lBN:=BN.lt
  clear BN lBN y0
  have BU:=BU0.keep hq4 BU0.lt
  have BV0:=Blk.new G4 [.string ⟨VX.toArray⟩,.string ⟨VY.toArray⟩,.string ⟨VZ.toArray⟩] 24
  replace u0:=BU.cell
  replace lBU:=BU.lt
  clear BU0 HD1 HD2
  go_wp2_with fail
  refine cx (HB.out _ (hE.ofQ bt)) fun G5 hq5=>?_
  have hs5:Q G4 G5:=Q.trans bt hq5
  have hQ5:Q W0 G5:=Q.trans hQ4 hs5
  replace BM:=BM.keep hs5 BM.lt
  replace m0:=BM.cell
  replace lBM:=BM.lt
  replace BU:=BU.keep hs5 BU.lt
  replace u0:=BU.cell
  replace lBU:=BU.lt
  have BV:=BV0.keep hq5 BV0.lt
  replace v0:=BV.cell 0
  replace v1:=BV.cell 1
  replace v2:=BV.cell 2
  simp only[zs4,zs5]at v0 v1 v2
  replace lBV:=BV.lt
  clear BV0 HB
  go_wp2_with fail
  refine cx (HP1.out _ (hE.ofQ bt)) fun G6 hq6=>?_
  have hs6:Q G5 G6:=Q.trans bt hq6
  have hQ6:Q W0 G6:=Q.trans hQ5 hs6
  replace BM:=BM.keep hs6 BM.lt
  replace m0:=BM.cell
  replace lBM:=BM.lt
  replace BU:=BU.keep hs6 BU.lt
  replace u0:=BU.cell
  replace lBU:=BU.lt
  replace BV:=BV.keep hs6 BV.lt
  replace v0:=BV.cell 0
  replace v1:=BV.cell 1
  replace v2:=BV.cell 2
  simp only[zs4,zs5]at v0 v1 v2
  replace lBV:=BV.lt
  clear HP1
  have hQe:=Q.trans hq0 hQ6
  go_wp2
  go_ret2
  exact⟨_,rfl,hQe,fun h=>absurd h (by decide)⟩
 ·have hcz:(za (crF u v) == [48])=false:=by
   rw[beq_eq_false_iff_ne,← zav];exact fun h=>hc (zaR h)
  obtain⟨htw,b1,b2,b3,b4⟩:=zuh (W:=W) (q:=q) hu hv hw4 hq4 hc
  have bc:=zl1 (zsK hu hv)
  have nc:(zcY (crF u v)).num≠0:=by have:=npos (zlZ hc);omega
  have HSQ:=LH (fun w hw=>zaq (doF u u) (doF v v) (zkL hu hu) (zkL hv hv) (by decide) w hw)
  have HW:=LH (fun w hw=>zcz W (by omega) w hw)
  have HQ:=LH (fun w hw=>zcz q (by omega) w hw)
  have HS1:=LH (fun w=>zkz (crF u v) w)
  have HS2:=LH (fun w=>zkz (doF u v) w)
  have HV1:=LH (fun w hw=>zbi (W:Rat) (zcY (crF u v)) (zjz hw4 (by decide)) bc nc (by decide) w hw)
  have HV2:=LH (fun w hw=>zbi (zcY (doF u v)) (zcY (crF u v)) (zl1 (zkL hu hv)) bc nc (by decide) w hw)
  have HM:=LH (fun w hw=>zaq (zcY (doF u v) / zcY (crF u v)) (q:Rat) b3 (zjz hq4 (by decide)) (by decide) w hw)
  have hmk:=fun v' w hw hv=>zeU (hsT W q u v) htw (by unfold hsT;simp) (fun cs h=>(ziK _ rfl htw h).2) v' w hw hv
  have hof:(hsT W q u v).map ofT=[(za ((W:Rat) / zcY (crF u v)),za (doF u u*doF v v)),(za (zcY (doF u v) / zcY (crF u v)*(q:Rat)),[49])]:=by
   unfold hsT
   rw[List.map_cons,List.map_cons,List.map_nil]
   unfold ofT
   rw[zdC]
  rw[hof]at hmk
  have HMK:=LH hmk
  have he:hsE W q u v=if zbH (hsT W q u v)=none then 4 else 0:=by unfold hsE;rw[if_neg hc]
  rw[he]
  obtain⟨mk,hmk2⟩:∃ mk,zbH (hsT W q u v)=mk:=⟨_,rfl⟩
  rw[hmk2]at HMK ⊢
  have HE4:Hid (mk=none→(if mk=none then(4:Int)else 0)=4):=LH (fun h=>if_pos h)
  have HE0:Hid (mk≠none→(if mk=none then(4:Int)else 0)=0):=LH (fun h=>if_neg h)
  generalize (if mk=none then(4:Int)else 0)=EV at *
  clear he hmk hmk2 hof hc hw4 hq4 hm ho hf ht hn1 hlf hlt hne hm' ho' hf' ht' hn2 hlf' hlt' hne' hu hv htw b1 b2 b3 b4 bc nc
  unfold VN V3 at *
  generalize za ((W:Rat) / zcY (crF u v))=WI at *
  generalize za (zcY (doF u v) / zcY (crF u v)*(q:Rat))=DE at *
  generalize za (zcY (doF u v) / zcY (crF u v))=DQ at *
  generalize za (doF u u*doF v v)=SQ at *
  generalize za (zcY (crF u v))=AC at *
  generalize za (zcY (doF u v))=AD at *
  generalize za (doF u u)=UU at *
  generalize za (doF v v)=VV at *
  generalize za (doF u v)=UV at *
  generalize za (W:Rat)=WS at *
  generalize za (q:Rat)=QS at *
  generalize za (crF u v)=SC at *
  generalize za (-u.y)=UN at *
  generalize za u.x=UX at *
  generalize za u.y=UY at *
  generalize za u.z=UZ at *
  generalize za v.x=VX at *
  generalize za v.y=VY at *
  generalize za v.z=VZ at *
  generalize za f.x=X1 at *
  generalize za f.y=X2 at *
  generalize za f.z=X3 at *
  generalize za t.x=X4 at *
  generalize za t.y=X5 at *
  generalize za t.z=X6 at *
  generalize za f'.x=Y1 at *
  generalize za f'.y=Y2 at *
  generalize za f'.z=Y3 at *
  generalize za t'.x=Y4 at *
  generalize za t'.y=Y5 at *
  generalize za t'.z=Y6 at *
  obtain⟨W0,hW0⟩:∃ W0,(w.alloc (.cells #[.int .i64 k,.int .i64 F,.int .i64 O,.string ⟨X1.toArray⟩,.string ⟨X2.toArray⟩,.string ⟨X3.toArray⟩,.string ⟨X4.toArray⟩,.string ⟨X5.toArray⟩,.string ⟨X6.toArray⟩,.int .i64 W,.int .i64 D] 26)).alloc (.cells #[.int .i64 k',.int .i64 F',.int .i64 O',.string ⟨Y1.toArray⟩,.string ⟨Y2.toArray⟩,.string ⟨Y3.toArray⟩,.string ⟨Y4.toArray⟩,.string ⟨Y5.toArray⟩,.string ⟨Y6.toArray⟩,.int .i64 W',.int .i64 D'] 26)=W0:=⟨_,rfl⟩
  have hq0:Q w W0:=by rw[← hW0];exact bt
  have BM:Blk W0 w.heap.size [.int .i64 k,.int .i64 F,.int .i64 O,.string ⟨X1.toArray⟩,.string ⟨X2.toArray⟩,.string ⟨X3.toArray⟩,.string ⟨X4.toArray⟩,.string ⟨X5.toArray⟩,.string ⟨X6.toArray⟩,.int .i64 W,.int .i64 D] 26:=by rw[← hW0];exact(Blk.new w _ _).alloc _
  have BN:Blk W0 (w.heap.size+1) [.int .i64 k',.int .i64 F',.int .i64 O',.string ⟨Y1.toArray⟩,.string ⟨Y2.toArray⟩,.string ⟨Y3.toArray⟩,.string ⟨Y4.toArray⟩,.string ⟨Y5.toArray⟩,.string ⟨Y6.toArray⟩,.int .i64 W',.int .i64 D'] 26:=by rw[← hW0];exact Blk.new1 w _ _ _
  have hEw:=hE.ofQ hq0
  clear hE
  have hE:=hEw
  clear hEw
  have hQ0:=Q.refl W0
  replace m0:=BM.cell
  replace lBM:=BM.lt
  replace y0:=BN.cell
  replace lBN:=BN.lt
  go_enter Tryz.func7,Tryz.ntmps7
  go_wp2_with fail
  clear hW0
  go_wp2_with fail
  refine cx (HC1.out _ (hE.ofQ bt)) fun G1 hq1=>?_
  have hs1:Q W0 G1:=Q.trans bt hq1
  have hQ1:Q W0 G1:=Q.trans hQ0 hs1
  replace BM:=BM.keep hs1 BM.lt
  replace m0:=BM.cell
  replace lBM:=BM.lt
  replace BN:=BN.keep hs1 BN.lt
  replace y0:=BN.cell
  replace lBN:=BN.lt
  go_wp2_with fail
  refine cx (HC2.out _ (hE.ofQ bt)) fun G2 hq2=>?_
  have hs2:Q G1 G2:=Q.trans bt hq2
  have hQ2:Q W0 G2:=Q.trans hQ1 hs2
  replace BM:=BM.keep hs2 BM.lt
  replace m0:=BM.cell
  replace lBM:=BM.lt
  replace BN:=BN.keep hs2 BN.lt
  replace y0:=BN.cell
  replace lBN:=BN.lt
  clear HC1 HC2
  go_wp2_with fail
  refine cx (HD1.out _ (hE.ofQ bt)) fun G3 hq3=>?_
  have hs3:Q G2 G3:=Q.trans bt hq3
  have hQ3:Q W0 G3:=Q.trans hQ2 hs3
  replace BM:=BM.keep hs3 BM.lt
  replace m0:=BM.cell
  replace lBM:=BM.lt
  replace BN:=BN.keep hs3 BN.lt
  replace y0:=BN.cell
  replace lBN:=BN.lt
  have BU0:=Blk.new G3 [.string ⟨UX.toArray⟩,.string ⟨UY.toArray⟩,.string ⟨UZ.toArray⟩] 24
  go_wp2_with fail
  refine cx (HD2.out _ (hE.ofQ bt)) fun G4 hq4=>?_
  have hs4:Q G3 G4:=Q.trans bt hq4
  have hQ4:Q W0 G4:=Q.trans hQ3 hs4
  replace BM:=BM.keep hs4 BM.lt
  replace m0:=BM.cell
  replace lBM:=BM.lt
  replace BN:=BN.keep hs4 BN.lt
  replace y0:=BN.cell
  replace lBN:=BN.lt
  clear BN lBN y0
  have BU:=BU0.keep hq4 BU0.lt
  have BV0:=Blk.new G4 [.string ⟨VX.toArray⟩,.string ⟨VY.toArray⟩,.string ⟨VZ.toArray⟩] 24
  replace u0:=BU.cell
  replace lBU:=BU.lt
  clear BU0 HD1 HD2
  go_wp2_with fail
  refine cx (HB.out _ (hE.ofQ bt)) fun G5 hq5=>?_
  have hs5:Q G4 G5:=Q.trans bt hq5
  have hQ5:Q W0 G5:=Q.trans hQ4 hs5
  replace BM:=BM.keep hs5 BM.lt
  replace m0:=BM.cell
  replace lBM:=BM.lt
  replace BU:=BU.keep hs5 BU.lt
  replace u0:=BU.cell
  replace lBU:=BU.lt
  have BV:=BV0.keep hq5 BV0.lt
  replace v0:=BV.cell 0
  replace v1:=BV.cell 1
  replace v2:=BV.cell 2
  simp only[zs4,zs5]at v0 v1 v2
  replace lBV:=BV.lt
  clear BV0 HB
  go_wp2_with fail
  refine cx (HP1.out _ (hE.ofQ bt)) fun G6 hq6=>?_
  have hs6:Q G5 G6:=Q.trans bt hq6
  have hQ6:Q W0 G6:=Q.trans hQ5 hs6
  replace BM:=BM.keep hs6 BM.lt
  replace m0:=BM.cell
  replace lBM:=BM.lt
  replace BU:=BU.keep hs6 BU.lt
  replace u0:=BU.cell
  replace lBU:=BU.lt
  replace BV:=BV.keep hs6 BV.lt
  replace v0:=BV.cell 0
  replace v1:=BV.cell 1
  replace v2:=BV.cell 2
  simp only[zs4,zs5]at v0 v1 v2
  replace lBV:=BV.lt
  clear HP1
  go_wp2_with fail
  refine cx (HP2.out _ (hE.ofQ bt)) fun G7 hq7=>?_
  have hs7:Q G6 G7:=Q.trans bt hq7
  have hQ7:Q W0 G7:=Q.trans hQ6 hs7
  replace BM:=BM.keep hs7 BM.lt
  replace m0:=BM.cell
  replace lBM:=BM.lt
  replace BU:=BU.keep hs7 BU.lt
  replace u0:=BU.cell
  replace lBU:=BU.lt
  replace BV:=BV.keep hs7 BV.lt
  replace v0:=BV.cell 0
  replace v1:=BV.cell 1
  replace v2:=BV.cell 2
  simp only[zs4,zs5]at v0 v1 v2
  replace lBV:=BV.lt
  go_wp2_with fail
  refine cx (HP3.out _ (hE.ofQ bt)) fun G8 hq8=>?_
  have hs8:Q G7 G8:=Q.trans bt hq8
  have hQ8:Q W0 G8:=Q.trans hQ7 hs8
  replace BM:=BM.keep hs8 BM.lt
  replace m0:=BM.cell
  replace lBM:=BM.lt
  replace BU:=BU.keep hs8 BU.lt
  replace u0:=BU.cell
  replace lBU:=BU.lt
  replace BV:=BV.keep hs8 BV.lt
  replace v0:=BV.cell 0
  replace v1:=BV.cell 1
  replace v2:=BV.cell 2
  simp only[zs4,zs5]at v0 v1 v2
  replace lBV:=BV.lt
  go_wp2_with fail
  refine cx (HP4.out _ (hE.ofQ bt)) fun G9 hq9=>?_
  have hs9:Q G8 G9:=Q.trans bt hq9
  have hQ9:Q W0 G9:=Q.trans hQ8 hs9
  replace BM:=BM.keep hs9 BM.lt
  replace m0:=BM.cell
  replace lBM:=BM.lt
  replace BU:=BU.keep hs9 BU.lt
  replace u0:=BU.cell
  replace lBU:=BU.lt
  replace BV:=BV.keep hs9 BV.lt
  replace v0:=BV.cell 0
  replace v1:=BV.cell 1
  replace v2:=BV.cell 2
  simp only[zs4,zs5]at v0 v1 v2
  replace lBV:=BV.lt
  clear BU lBU u0
  clear BV lBV v0 v1 v2
  go_wp2_with fail
  refine cx (HSQ.out _ (hE.ofQ bt)) fun G10 hq10=>?_
  have hs10:Q G9 G10:=Q.trans bt hq10
  have hQ10:Q W0 G10:=Q.trans hQ9 hs10
  replace BM:=BM.keep hs10 BM.lt
  replace m0:=BM.cell
  replace lBM:=BM.lt
  clear HP2 HP3 HP4 HSQ
  go_wp2_with fail
  refine cx (HW.out _ (hE.ofQ bt)) fun G11 hq11=>?_
  have hs11:Q G10 G11:=Q.trans bt hq11
  have hQ11:Q W0 G11:=Q.trans hQ10 hs11
  replace BM:=BM.keep hs11 BM.lt
  replace m0:=BM.cell
  replace lBM:=BM.lt
  go_wp2_with fail
  refine(HS1.out _).mono ?_
  rintro e wp1⟨rfl,rfl⟩
  go_wp2_with fail
  refine cx (HV1.out _ (hE.ofQ bt)) fun G12 hq12=>?_
  have hs12:Q G11 G12:=Q.trans bt hq12
  have hQ12:Q W0 G12:=Q.trans hQ11 hs12
  replace BM:=BM.keep hs12 BM.lt
  replace m0:=BM.cell
  replace lBM:=BM.lt
  clear BM lBM m0
  go_wp2_with fail
  refine(HS2.out _).mono ?_
  rintro e wp2⟨rfl,rfl⟩
  go_wp2_with fail
  refine(HS1.out _).mono ?_
  rintro e wp3⟨rfl,rfl⟩
  go_wp2_with fail
  refine cx (HV2.out _ (hE.ofQ bt)) fun G13 hq13=>?_
  have hs13:Q G12 G13:=Q.trans bt hq13
  have hQ13:Q W0 G13:=Q.trans hQ12 hs13
  go_wp2_with fail
  refine cx (HQ.out _ (hE.ofQ bt)) fun G14 hq14=>?_
  have hs14:Q G13 G14:=Q.trans bt hq14
  have hQ14:Q W0 G14:=Q.trans hQ13 hs14
  go_wp2_with fail
  refine cx (HM.out _ (hE.ofQ bt)) fun G15 hq15=>?_
  have hs15:Q G14 G15:=Q.trans bt hq15
  have hQ15:Q W0 G15:=Q.trans hQ14 hs15
  clear HS1 HS2 HW HV1 HV2 HQ HM
  have B4:Blk (G15.alloc (.cells #[.string ⟨WI.toArray⟩,.string ⟨SQ.toArray⟩,.string ⟨DE.toArray⟩,.string ⟨([49]:Str).toArray⟩] 40)) G15.heap.size [.string ⟨WI.toArray⟩,.string ⟨SQ.toArray⟩,.string ⟨DE.toArray⟩,.string ⟨([49]:Str).toArray⟩] 40:=Blk.new G15 [.string ⟨WI.toArray⟩,.string ⟨SQ.toArray⟩,.string ⟨DE.toArray⟩,.string ⟨([49]:Str).toArray⟩] 40
  have hEB:=hE.ofQ (show Q W0 (G15.alloc (.cells #[.string ⟨WI.toArray⟩,.string ⟨SQ.toArray⟩,.string ⟨DE.toArray⟩,.string ⟨([49]:Str).toArray⟩] 40))from Q.trans hQ15 bt)
  have TS4:=TSl.four B4 2
  have hQB:Q W0 (G15.alloc (.cells #[.string ⟨WI.toArray⟩,.string ⟨SQ.toArray⟩,.string ⟨DE.toArray⟩,.string ⟨([49]:Str).toArray⟩] 40)):=Q.trans hQ15 bt
  go_wp2_with fail
  refine(HMK.out _ _ hEB TS4).mono ?_
  rintro e G16⟨hq16,hn,hs⟩
  have hQ16:Q w G16:=Q.trans hq0 (Q.trans hQB hq16)
  have hz:=(Q.trans hq0 hQ15).size
  clear B4 HMK hEB TS4
  by_cases hm:mk=none
  ·obtain rfl:=hn hm
   have HM:=LH hm
   clear hm hn hs
   go_wp2
   go_ret2
   have hev:=HE4.out HM.out
   subst hev
   exact⟨_,rfl,hQ16,fun h=>absurd h (by decide)⟩
  ·obtain⟨C,hm⟩:=Option.ne_none_iff_exists'.1 hm
   obtain⟨v5,rfl,hr5⟩:=hs C hm
   have HR5:=LH hr5
   have HM:=LH hm
   have hz2:w.heap.size≤(G15.alloc (.cells #[.string ⟨WI.toArray⟩,.string ⟨SQ.toArray⟩,.string ⟨DE.toArray⟩,.string ⟨([49]:Str).toArray⟩] 40)).heap.size:=(Q.trans hq0 hQB).size
   have HR6:=LH (Joins.ownsRow_le HR5.out hz2)
   clear hm hn hs hr5 HR5 hz2
   go_wp2
   go_ret2
   have hev:=HE0.out (by rw[HM.out];intro h;cases h)
   subst hev
   refine⟨_,rfl,hQ16,fun _=>⟨C,HM.out,?_⟩⟩
   have:=HR6.out
   rw[List.length_map]at this
   exact this
end
end Go.Proofs.YtdecodpgdainiaaGreatDoor
