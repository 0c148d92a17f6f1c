/-
  BA BB BC BD BE BG EstM BH Rng BJ RegC RegE BI BK BF RdM, one behind the other.
-/
import Derived.Test.YtapnkgdnflofbaaGreatDoorCH00
import Derived.Test.YtapnkgdnflofbaaGreatDoorCHMA
import Derived.Test.YtapnkgdnflofbaaGreatDoorCHRegB
import Derived.Deep.AppendLies
import Derived.Laws.OwnMore
import Derived.Lib.MinMax
import Derived.Deep.RegionHeld3
import Derived.RangeFuncBox
import Derived.RangeFuncLeaves
import Derived.OwnWalkIn
import Derived.TacticsInMore
import Derived.LoopNIn
import Derived.LoopIn
import Derived.Shelf.Abstract
import Derived.RangeFuncNested
import Derived.RangeFuncBound
import Derived.RangeFuncCalls
import Derived.Maps.AppendAt
import Derived.RangeFuncWrites
import Derived.OrdersIn
import Derived.TacticsIn
set_option maxRecDepth 100000
set_option maxHeartbeats 4000000
namespace Go.Proofs.YtapnkgdnflofbaaGreatDoor
section
open Go.RowKit Kp
def zjb(w:World)(b o:Nat)(l:List Int):Prop:=b<w.heap.size∧∀ i,i<l.length→w.cell? ⟨b,o+i,none⟩=some (.int .i64 (l.getD i 0))
def zO(w:World)(v:Value)(l:List Int):Prop:=∃ a cap,v=.slice a l.length cap∧l.length≤cap∧(0<l.length→∃ b o,a=some ⟨b,o,none⟩∧zjb w b o l)
theorem zjb.keep{w w':World}{b o B:Nat}{l:List Int}(h:zjb w b o l)(hq:Below B w w')(hB:b<B):zjb w' b o l :=
 ⟨Nat.lt_of_lt_of_le h.1 (by have:=hq.size;have:=h.1;exact Nat.le_trans (Nat.le_refl _) (by
  first | exact hq.grows | exact hq.size)),fun i hi=>(hq.cell (p:=⟨b,o+i,none⟩) hB).trans (h.2 i hi)⟩
theorem zO.cases{w:World}{v:Value}{l:List Int}(h:zO w v l):(l=[]∧∃ a cap,v=.slice a 0 cap)∨(∃ b o cap,v=.slice (some ⟨b,o,none⟩) l.length cap∧l.length≤cap∧0<l.length∧zjb w b o l):=by
 obtain⟨a,cap,rfl,hcap,hc⟩:=h
 cases l with
 | nil=>exact .inl ⟨rfl,a,cap,rfl⟩
 | cons s l =>
  obtain⟨b,o,rfl,hb⟩:=hc (by simp)
  exact .inr ⟨b,o,cap,rfl,hcap,by simp,hb⟩
theorem zO.keep{w w':World}{v:Value}{l:List Int}(h:zO w v l)(hq:Q w w'):zO w' v l:=by
 obtain⟨a,cap,rfl,hcap,hc⟩:=h
 refine⟨a,cap,rfl,hcap,fun h0=>?_⟩
 obtain⟨b,o,rfl,hb⟩:=hc h0
 exact⟨b,o,rfl,hb.keep hq hb.1⟩
def zaz(l:List Int):List Value:=l.map fun x=>.int .i64 x
theorem zbx(l:List Int)(j:Nat)(hj:j<l.length):(zaz l)[j]? = some (.int .i64 (l.getD j 0)):=by
 simp[zaz,hj]
theorem zbn{w:World}{B:Nat}{v:Value}{l:List Int}(h:w.ownsRow B 3 1 v l.length (zaz l)):zO w v l:=by
 rcases h.2 with⟨rfl,h0⟩|⟨g,cap,cur,rfl,hg,hc,hcap,_⟩
 ·have:l=[]:=List.eq_nil_of_length_eq_zero h0
  subst this
  exact⟨none,0,rfl,Nat.le_refl _,fun h=>absurd h (Nat.not_lt_zero _)⟩
 ·refine⟨_,cap,rfl,hcap,fun _=>⟨g,0,rfl,(Array.getElem?_eq_some_iff.1 hc).1,fun i hi=>?_⟩⟩
  rw[Nat.zero_add,h.cellAt i (by omega),zbx l i hi]
theorem zeP(l:List Int)(hln:l.length<4611686018427387904)(v:Value)(i:Nat)(hi:i<4611686018427387904)(w:World)(hl:zO w v l) :
  Calls Tryz.prog 207 #[v,.int .i64 i] w fun e w'=>e=.returned (.int .i64 (l.getD i 0))∧w'=w:=by
 rcases hl.cases with⟨rfl,a,cap,rfl⟩|⟨b,o,cap,rfl,hcap,h0,hA⟩
 ·have hd:decide ((i:Int)<0)=false:=by simp
  go_enter Tryz.func207,Tryz.ntmps207
  go_wp2
  go_ret
  exact⟨rfl,rfl⟩
 ·by_cases hlt:i<l.length
  ·have hi0:(0:Int)≤(i:Int):=by omega
   have hil:(i:Int)<(l.length:Int):=by omega
   have hc:=hA.2 i hlt
   generalize l.getD i 0=x at *
   go_enter Tryz.func207,Tryz.ntmps207
   go_wp2
   go_ret
   exact⟨rfl,rfl⟩
  ·have hd:decide ((i:Int)<(l.length:Int))=false:=by simp;omega
   have e:l.getD i 0=0:=by rw[List.getD_eq_getElem?_getD,List.getElem?_eq_none (by omega)];rfl
   rw[e]
   go_enter Tryz.func207,Tryz.ntmps207
   go_wp2
   go_ret
   exact⟨rfl,rfl⟩
theorem zoZ(l:List Int)(m:Nat)(hm:m<l.length)(h0:l.getD m 0=0):zaJ (l.take (m+1))=zaJ (l.take m):=by
 rw[zdq hm,h0,ziG]
theorem zo1(l:List Int)(m:Nat)(hm:m≤l.length)(h0:m=0∨l.getD (m - 1) 0≠0):zaJ (l.take m)=l.take m:=by
 cases m with
 | zero=>rfl
 | succ k =>
  rcases h0 with h0 | h0
  ·omega
  ·rw[zdq (by omega),zo0 _ _ (by simpa using h0)]
theorem zaW(l:List Int):(zaJ l).length≤l.length∧l.take (zaJ l).length=zaJ l:=by
 induction l with
 | nil=>simp[zaJ]
 | cons x r ih =>
  simp only[zaJ]
  split
  ·simp
  ·simp[ih.1,ih.2]
theorem zO.take{w:World}{a:Option Addr}{cap:Nat}{l:List Int}(h:zO w (.slice a l.length cap) l){m:Nat}(hm:m≤l.length):zO w (.slice a m cap) (l.take m):=by
 obtain⟨a',cap',e,hcap,hc⟩:=h
 injection e with e1 e2 e3
 subst e1 e3
 have hlt:(l.take m).length=m:=by rw[List.length_take];omega
 refine⟨a,cap,by rw[hlt],by omega,fun h0=>?_⟩
 obtain⟨b,o,rfl,hA⟩:=hc (by omega)
 refine⟨b,o,rfl,hA.1,fun i hi=>?_⟩
 rw[hA.2 i (by omega)]
 congr 2
 rw[List.getD_eq_getElem?_getD,List.getD_eq_getElem?_getD,List.getElem?_take_of_lt (by omega)]
theorem zcA{w:World}{B:Nat}{t:TypeId}{a:Option Addr}{n cap:Nat}{xs:List Value}(h:w.ownsRow B t 1 (.slice a n cap) n xs){m:Nat}(hm:m≤n):w.ownsRow B t 1 (.slice a m cap) m (xs.take m):=by
 refine⟨by rw[List.length_take,h.1];omega,?_⟩
 rcases h.2 with⟨e,h0⟩|⟨g,cap',cur,e,hg,hc,h1,h2,h3,h4⟩
 ·injection e with e1 e2 e3
  subst e1 e3
  exact .inl ⟨by rw[show m=0 by omega],by omega⟩
 ·injection e with e1 e2 e3
  subst e1 e3
  refine .inr ⟨g,cap,cur,rfl,hg,hc,by omega,h2,h3,?_⟩
  rw[← h4,List.take_take,Nat.min_eq_left (by omega),Nat.mul_one]
theorem za8(l:List Int)(hln:l.length<4611686018427387904)(a:Option Addr)(cap:Nat)(w:World)(hl:zO w (.slice a l.length cap) l) :
  Calls Tryz.prog 201 #[.slice a l.length cap] w fun e w'=>e=.returned (.slice a (zaJ l).length cap)∧w'=w:=by
 have hA:l.length≤cap∧(0<l.length→∃ b o,a=some ⟨b,o,none⟩∧zjb w b o l):=by
  obtain⟨a',cap',e,hcap,hc⟩:=hl
  injection e with e1 e2 e3
  subst e1 e3
  exact⟨hcap,hc⟩
 obtain⟨hcap,hA⟩:=hA
 have HA:=LH hA
 clear hl hA
 obtain⟨r,hr⟩:∃ r,(zaJ l).length=r:=⟨_,rfl⟩
 rw[hr]
 have HR:=LH hr
 clear hr
 go_enter Tryz.func201,Tryz.ntmps201
 go_wp2
 go_loopw [0] (fun x wr=>∃ m:Nat,m≤l.length∧x=.slice a m cap∧Hid (zaJ (l.take m)=zaJ l)∧wr=w) (fun x _=>match x with | .slice _ n _=>n | _=>0)
 case atStart=>exact⟨l.length,Nat.le_refl _,rfl,LH (by rw[List.take_length]),rfl⟩
 case round =>
  obtain⟨m,hm,rfl,HT,rfl⟩:=hrel
  by_cases hm0:m=0
  ·subst hm0
   obtain rfl:r=0:=by rw[← HR.out,← HT.out];rfl
   go_wp2
   go_ret
   exact⟨rfl,rfl⟩
  ·obtain⟨k,rfl⟩:∃ k,m=k+1:=⟨m - 1,by omega⟩
   obtain⟨b,o,rfl,hA⟩:=HA.out (by omega)
   have hc:=hA.2 k (by omega)
   have hk0:(0:Int)≤(k:Int):=by omega
   have hk1:(k:Int)<(k:Int)+1:=by omega
   by_cases hz:l.getD k 0=0
   ·rw[hz]at hc
    have HN:Hid (zaJ (l.take k)=zaJ l):=LH (by rw[← zoZ l k (by omega) hz];exact HT.out)
    clear hz
    go_wp2
    go_roundw
    case rel=>exact⟨k,by omega,rfl,HN,trivial⟩
    case measure=>simp
   ·obtain rfl:r=k+1:=by
     rw[← HR.out,← HT.out,zo1 l (k+1) hm (.inr (by simpa using hz)),List.length_take];omega
    have hzb:(l.getD k 0 == 0)=false:=by rw[beq_eq_false_iff_ne];exact hz
    clear hz
    generalize l.getD k 0=x at *
    go_wp2
    go_ret
    exact⟨rfl,rfl⟩
theorem zl5(l:List Int)(hln:l.length<4611686018427387904)(v:Value)(w:World)(hl:zO w v l) :
  Calls Tryz.prog 201 #[v] w fun e w'=>∃ v',e=.returned v'∧zO w v' (zaJ l)∧w'=w:=by
 obtain⟨a,cap,rfl,hc⟩:=id hl
 refine(za8 l hln a cap w hl).mono ?_
 rintro e w'⟨rfl,rfl⟩
 have h:=zaW l
 have h2:=hl.take h.1
 rw[h.2]at h2
 exact⟨_,rfl,h2,rfl⟩
theorem zdz:(Tryz.prog.info? 3).map (fun i=>(i.zero,i.size,i.bytes))=some (some (.int .i64 0),1,8):=by kernel_rfl
theorem zhb(l:List Int)(x:Int):zaz (l++[x])=zaz l++[.int .i64 x]:=by simp[zaz]
theorem zeQ(f:FuncId)(hcall:∀ (args:Array Value) (W:World),(callFunc f args).run Tryz.prog W=.ok (.enter f args) W)(Inv:Nat→List Int→Int→Prop)(a b:List Int)(ha:a.length≤100000)(hb:b.length≤100000)(v1 v2:Value)(w:World)(h1:zO w v1 a)(h2:zO w v2 b)(h0:Inv 0 [] 0)
  (hlen:∀ i o c,Inv i o c→o.length=i)
  (hstep:∀ i o c,i≤100000→Inv i o c→∃ x d,(∀ W,Calls Tryz.prog f #[.int .i64 (a.getD i 0),.int .i64 (b.getD i 0),.int .i64 c] W fun e W'=>e=.returned (.tuple #[.int .i64 x,.int .i64 d])∧W=W')∧Inv (i+1) (o++[x]) d) :
  Calls Tryz.prog 203 #[v1,v2,.func (.func f) #[] #[]] w fun e w'=>∃ v' o c,e=.returned v'∧Inv (max a.length b.length+1) o c∧zO w' v' (zaJ o)∧Q w w':=by
 obtain⟨i0,hi,hz0,hz1,hz2⟩:=info_parts zdz
 have H1:=LH h1
 have H2:=LH h2
 have HS:=LH hstep
 have HI:=LH hlen
 have H0:=LH h0
 clear hstep hlen h0
 obtain⟨a1,c1,rfl,-,-⟩:=h1
 obtain⟨a2,c2,rfl,-,-⟩:=h2
 obtain⟨n,hn⟩:∃ n:Nat,max a.length b.length=n:=⟨_,rfl⟩
 have hn2:max (a.length:Int) (b.length:Int)=(n:Int):=by omega
 have hna:n≤100000:=by omega
 rw[hn]
 clear hn
 go_enter Tryz.func203,Tryz.ntmps203
 go_wp2
 go_loopw [7,8,18] (fun ov cv iv wr=>∃ (i:Nat) (o:List Int) (c:Int) (v:Value),i≤n+1∧v=ov∧cv=.int .i64 c∧iv=.int .i64 i∧Hid (Inv i o c)∧Hid (wr.ownsRow w.heap.size 3 1 v o.length (zaz o))∧Q w wr) (fun _ _ iv _=>n+1 - (intOf iv).toNat)
 case atStart=>exact⟨0,[],0,_,by omega,rfl,rfl,rfl,H0,LH (World.ownsRow_nil _ _ _ _),Below.refl _ _⟩
 case round =>
  obtain⟨i,o,c,v,hi1,rfl,rfl,rfl,HInv,HO,hQ⟩:=hrel
  by_cases hlt:i<n+1
  ·have hlt2:(i:Int)<(n:Int)+1:=by omega
   obtain⟨x,d,hf,hN⟩:=HS.out i o c (by omega) HInv.out
   have HF:=LH hf
   have HN:=LH hN
   have hol:=HI.out _ _ _ HInv.out
   clear hf hN
   have HLa:=zeP a (by omega) _ i (by omega) wr (H1.out.keep hQ)
   have HLb:=zeP b (by omega) _ i (by omega) wr (H2.out.keep hQ)
   generalize a.getD i 0=x1 at HF HLa
   generalize b.getD i 0=x2 at HF HLb
   have HLa:=LH HLa
   have HLb:=LH HLb
   go_wp2_with fail
   refine HLa.out.mono ?_
   rintro e w1⟨rfl,rfl⟩
   go_wp2_with fail
   refine HLb.out.mono ?_
   rintro e w1⟨rfl,rfl⟩
   go_wp2_with fail
   refine(HF.out _).mono ?_
   rintro e w1⟨rfl,rfl⟩
   have ho:=HO.out
   have hws:=hQ.size
   go_wp2_with (at_builtin;refine wpList_append_own _ rfl (.tmp 33) (.tmp 35) 29 rfl w.heap.size 3 i0 _ 1 8 Tryz.underlying29 hi hz0 hz1 hz2 rfl (by decide) _ o.length (zaz o) rfl (ho.alloc _) ⟨w1.heap.size,0,none⟩ 1 1 [.int .i64 x] rfl rfl (cell_one_new _ _ _) (by simp[Value.oneCell']) (by unfold maxLen;omega) (by omega) (by simp;omega) ?_)
   intro v' w2 hown' hgrow _
   have hq2:Q w w2:=(hQ.alloc hws _).grown hgrow (by simp;omega) (fun j hj=>(ho.lt j hj).1)
   have HO2:Hid (w2.ownsRow w.heap.size 3 1 v' (o++[x]).length (zaz (o++[x]))):=LH (by rw[zhb,List.length_append,hol];exact hown')
   clear hown' hgrow ho HO HLa HLb HF
   go_wp2
   go_roundw
   case rel=>exact⟨i+1,o++[x],d,v',by omega,rfl,rfl,by go_num,HN,HO2,hq2⟩
   case measure=>simp[intOf];omega
  ·obtain rfl:i=n+1:=by omega
   have hol:=HI.out _ _ _ HInv.out
   have hsl:=zbn HO.out
   go_wp2_with fail
   refine(zl5 o (by omega) _ _ hsl).mono ?_
   rintro e w1⟨v',rfl,hs,rfl⟩
   go_wp2
   go_ret
   exact⟨_,o,c,rfl,HInv.out,hs,hQ⟩
theorem zmf {P : Program} {f : FuncId} {fn : Func} {c : Code} (hf : P.funcs[f]? = some fn) (hname : (fn.name == "runtime.NumGoroutine") = false) (hb : fn.body = some c) (args : Array Value) (w : World) :
  (callFunc f args).run P w=.ok (.enter f args) w:=by
 have h1 : fn.name ≠ "runtime.NumGoroutine" := by simpa using hname
 simp[callFunc,hf,h1,hb]
abbrev LB:Int:=1000000000
theorem zeX(a b:List Int)(da:Dig LB a)(db:Dig LB b)(ha:a.length≤100000)(hb:b.length≤100000)(v1 v2:Value)(w:World)(h1:zO w v1 a)(h2:zO w v2 b) :
  Calls Tryz.prog 203 #[v1,v2,.func (.func 204) #[] #[]] w fun e w'=>∃ v',e=.returned v'∧zO w' v' (limbs LB (lval LB a+lval LB b))∧Q w w':=by
 refine(zeQ 204 (zmf Tryz.func204 (by kernel_rfl) rfl) (PlusInv LB a b) a b ha hb v1 v2 w h1 h2 (PlusInv.start LB a b) (fun _ _ _ h=>h.len) (fun i o c _ h=>?_)).mono ?_
 ·have g1:=da.get (by decide) i
  have g2:=db.get (by decide) i
  exact⟨_,_,fun W=>zl7 _ _ _ W g1.1 g1.2 g2.1 g2.2 h.c0 h.c1,h.step (by decide) da db⟩
 ·rintro e w' ⟨v',o,c,rfl,hI,hs,hq⟩
  rw[hI.done (by decide) da db (by omega) (by omega)]at hs
  exact⟨v',rfl,hs,hq⟩
theorem zef(a b:List Int)(da:Dig LB a)(db:Dig LB b)(ha:a.length≤100000)(hb:b.length≤100000)(hle:lval LB b≤lval LB a)(v1 v2:Value)(w:World)(h1:zO w v1 a)(h2:zO w v2 b) :
  Calls Tryz.prog 203 #[v1,v2,.func (.func 206) #[] #[]] w fun e w'=>∃ v',e=.returned v'∧zO w' v' (limbs LB (lval LB a - lval LB b))∧Q w w':=by
 refine(zeQ 206 (zmf Tryz.func206 (by kernel_rfl) rfl) (MinusInv LB a b) a b ha hb v1 v2 w h1 h2 (MinusInv.start LB a b) (fun _ _ _ h=>h.len) (fun i o c _ h=>?_)).mono ?_
 ·have g1:=da.get (by decide) i
  have g2:=db.get (by decide) i
  by_cases hn:0≤a.getD i 0 - b.getD i 0 - c
  ·exact⟨_,_,fun W=>zg5 _ _ _ W g1.2 g2.1 h.c0 hn,h.stepPos (by decide) da db hn⟩
  ·exact⟨_,_,fun W=>zg6 _ _ _ W g1.1 g1.2 g2.1 g2.2 h.c0 h.c1 (by omega),h.stepNeg (by decide) da db (by omega)⟩
 ·rintro e w' ⟨v',o,c,rfl,hI,hs,hq⟩
  rw[hI.done (by decide) hle (by omega) (by omega)]at hs
  exact⟨v',rfl,hs,hq⟩
theorem zdx(l:List Int)(hln:l.length<4611686018427387904)(v:Value)(i:Nat)(hi:i<4611686018427387904)(w:World)(hl:zO w v l) :
  CR 207 #[v,.int .i64 i] w (.int .i64 (l.getD i 0)) :=
 (zeP l hln v i hi w hl).mono fun e w' h=>⟨h.1,by rw[h.2];exact Q.refl w⟩
theorem zcD(l:List Int)(j:Nat)(x:Int):(zaz l).set j (.int .i64 x)=zaz (l.set j x):=by simp[zaz,List.map_set]
theorem zdT(l:List Int)(m:Nat):(zaz l).take m=zaz (l.take m):=by simp[zaz,List.map_take]
theorem zea(n:Nat):List.replicate n (Value.int .i64 0)=zaz (List.replicate n 0):=by simp[zaz]
theorem zcn(a b:List Int)(da:Dig LB a)(db:Dig LB b)(ha:a.length≤100000)(hb:b.length≤100000)(v1 v2:Value)(w:World)(h1:zO w v1 a)(h2:zO w v2 b) :
  Calls Tryz.prog 147 #[v1,v2] w fun e w'=>∃ v',e=.returned v'∧w'.ownsRow w.heap.size 3 1 v' (limbs LB (lval LB a*lval LB b)).length (zaz (limbs LB (lval LB a*lval LB b)))∧Q w w':=by
 obtain⟨i0,hi,hz0,hz1,hz2⟩:=info_parts zdz
 have H1:=LH h1
 have H2:=LH h2
 obtain⟨a1,c1,rfl,-,k1⟩:=h1
 obtain⟨a2,c2,rfl,-,-⟩:=h2
 obtain⟨n,hn⟩:∃ n:Nat,a.length+b.length+1=n:=⟨_,rfl⟩
 have hn2:(a.length:Int)+(b.length:Int)+1=(n:Int):=by omega
 have hna:n≤300000:=by omega
 obtain⟨W5,hmk,hown,hgr⟩:=run_make_full (P:=Tryz.prog) w w.heap.size 29 3 i0 _ 1 Tryz.underlying29 hi hz0 hz1 .i64 .i64 n (by rw[hz2];omega) (by unfold maxLen;omega) (Nat.le_refl _)
 rw[show (Value.int .i64 0).cells=#[Value.int .i64 0]from rfl,Nat.mul_one,toList_madeCells_one,zea]at hown
 have hq5:Q w W5:=(Below.refl _ w).grown hgr (Nat.le_refl _) (fun k hk=>by cases hk)
 have HS:Hid (TimesInv LB a b 0 0 (List.replicate n 0) 0):=LH (by rw[← hn];exact TimesInv.start LB (by decide) a b)
 have HO:=LH hown
 clear hgr hown
 generalize hg:w.heap.size=g at *
 go_enter Tryz.func147,Tryz.ntmps147
 go_wp2
 go_loopw [20] (fun iv wr=>∃ (i:Nat) (o:List Int),i≤a.length∧iv=.int .i64 i∧Hid (TimesInv LB a b i 0 o 0)∧Hid (wr.ownsRow g 3 1 (.slice (some ⟨g,0,none⟩) n n) n (zaz o))∧Q w wr) (fun iv _=>a.length - (intOf iv).toNat)
 case atStart=>exact⟨0,_,by omega,rfl,HS,HO,hq5⟩
 case round =>
  obtain⟨i,o,hi1,rfl,HT,HO1,hQ⟩:=hrel
  by_cases hlt:i<a.length
  ·obtain⟨b1,o1,rfl,hA⟩:=k1 (by omega)
   have hi0:(0:Int)≤(i:Int):=by omega
   have hil:(i:Int)<(a.length:Int):=by omega
   have hax:=(hA.keep hQ hA.1).2 i hlt
   have gx:=da.get (by decide) i
   have HLb:Hid (∀ (k:Nat),k≤200000→∀ W,Q w W→CR 207 #[.slice a2 b.length c2,.int .i64 k] W (.int .i64 (b.getD k 0))):=LH (fun k hk W hW=>zdx b (by omega) _ k (by omega) W (H2.out.keep hW))
   generalize hx:a.getD i 0=x at *
   have HX:=LH hx
   clear hx
   go_wp2
   go_loopw [8,28] (fun cv kv wl=>∃ (k:Nat) (o:List Int) (c:Int),k≤b.length+1∧cv=.int .i64 c∧kv=.int .i64 k∧Hid (TimesInv LB a b i k o c)∧Hid (wl.ownsRow g 3 1 (.slice (some ⟨g,0,none⟩) n n) n (zaz o))∧Q w wl) (fun _ kv _=>b.length+1 - (intOf kv).toNat)
   case atStart=>exact⟨0,o,0,by omega,rfl,rfl,HT,HO1,hQ⟩
   case round =>
    obtain⟨k,o,c,hk1,rfl,rfl,HT,HO1,hQ⟩:=hrel
    by_cases hlk:k<b.length+1
    ·have hk0:(0:Int)≤(k:Int):=by omega
     have hkl:(k:Int)<(b.length:Int)+1:=by omega
     have hbd:=HT.out.bound (by decide) da db
     have hst:=LH (HT.out.step (by decide) da db hlt (by omega))
     have hol:=HT.out.len
     have gy:=db.get (by decide) k
     have gu:=HT.out.dig.get (by decide) (i+k)
     have gc0:=HT.out.c0
     have gc1:=HT.out.c1
     have hcell:=HO1.out.cellAt (i+k) (by omega)
     rw[zbx o (i+k) (by omega)]at hcell
     have HL:=LH (HLb.out k (by omega))
     rw[HX.out]at hbd hst
     have hxy:=ziE gx.1 gx.2 gy.1 gy.2
     generalize b.getD k 0=y at *
     generalize o.getD (i+k) 0=u at *
     have hpb:(LB - 1)*(LB - 1)=999999998000000001:=by decide
     have hpb2:LB*LB=1000000000000000000:=by decide
     rw[hpb]at hxy
     rw[hpb2]at hbd
     have hw1:=Go.IntWalk.i64_in ((i:Int)+(k:Int)) (by omega)
     have hw2:=Go.IntWalk.i64_in (x*y) (by omega)
     have hw3:=Go.IntWalk.i64_in (u+x*y) (by omega)
     have hw4:=Go.IntWalk.i64_in (u+x*y+c) (by omega)
     have hik0:(0:Int)≤(i:Int)+(k:Int):=by omega
     have hikn:(i:Int)+(k:Int)<(n:Int):=by omega
     have hik:((i:Int)+(k:Int)).toNat=i+k:=by omega
     have hcd:wr.drew.cell? ⟨g,i+k,none⟩=some (.int .i64 u):=hcell
     go_wp2_with fail
     refine zn 15 rfl (by kernel_rfl) rfl ?_
     refine svp 0 ?_
     refine svp 1 ?_
     refine svp 2 ?_
     refine svp 3 ?_
     refine svp 4 ?_
     refine svq 5 rfl (by intro w' hq;have hc0:=za hq hcd;go_simp;try with_reducible rfl) ?_
     refine svp 6 ?_
     refine svp 7 ?_
     refine svp 8 ?_
     refine zk (i:=9) (v:=_) rfl rfl (by kernel_rfl) (by kernel_rfl) (fun _ _ _ h=>h) (by rfl) ?_ (fun w' hq=>HL.out w' (Below.trans (Below.drew hQ) (hq.mono hQ.size))) ?_
     ·(intro w' hq;go_simp;try with_reducible rfl)
     simp only[Act.put,zs1,zs2,zs3]
     refine svp 10 ?_
     refine svp 11 ?_
     refine svp 12 ?_
     refine svp 13 ?_
     refine svp 14 ?_
     refine zh (by kernel_rfl) (fun w3 hq3=>?_)
     simp only[List.drop_succ_cons,List.drop_zero]
     have hqq:Q wr w3:=Below.trans ((Below.refl wr.heap.size wr).drew) hq3
     have hr3:=zi HO1.out hqq
     have hc3:=hr3.cellAt (i+k) (by omega)
     have hf3:=hr3.frozenAt (i+k)
     have hl3:(zaz o)[i+k]? = some (.int .i64 (o.getD (i+k) 0)):=zbx o (i+k) (by omega)
     rw[hl3]at hc3
     obtain⟨hr4,-⟩:=hr3.stored (i+k) (.int .i64 ((u+x*y+c) % 1000000000))
     rw[zcD]at hr4
     have HR:=LH hr4
     have hQ4:Q w (w3.setCell ⟨g,i+k,none⟩ (.int .i64 ((u+x*y+c) % 1000000000))):=(Q.trans hQ hqq).setCell (p:=⟨g,i+k,none⟩) (by rw[hg];exact Nat.le_refl _) _
     clear hr3 hr4 hl3
     generalize hnn:u+x*y+c=N at *
     have hN0:0≤N:=hbd.1
     have hN1:N<1000000000000000000:=hbd.2
     go_wp2
     go_roundw
     case rel=>exact⟨k+1,_,_,by omega,rfl,by go_num,hst,HR,hQ4⟩
     case measure=>simp[intOf];omega
    ·obtain rfl:k=b.length+1:=by omega
     have HN:=LH (HT.out.next (by decide) da db)
     go_wp2
     go_roundw
     case rel=>exact⟨i+1,o,by omega,by go_num,HN,HO1,hQ⟩
     case measure=>simp[intOf];omega
  ·obtain rfl:i=a.length:=by omega
   have hT:=HT.out.done (by decide)
   have hol:o.length=n:=by rw[HT.out.len];exact hn
   have hsl:=zbn (v:=.slice (some ⟨g,0,none⟩) n n) (l:=o) (by rw[hol];exact HO1.out)
   have hlt:=zaW o
   have hw:=zcA HO1.out (m:=(zaJ o).length) (by rw[← hol];exact hlt.1)
   rw[zdT,hlt.2,hT]at hw
   have hTr:=za8 o (by omega) (some ⟨g,0,none⟩) n wr (by rw[hol];exact hsl)
   rw[hol,hT]at hTr
   have HTr:=LH hTr
   have HW:=LH hw
   clear hTr hw hlt hT hol hsl
   go_wp2_with fail
   refine HTr.out.mono ?_
   rintro e w1⟨rfl,rfl⟩
   go_wp2
   go_ret
   exact⟨_,rfl,HW.out,hQ⟩
theorem zkV(a b:List Int)(da:Dig LB a)(db:Dig LB b)(ha:a.length≤100000)(hb:b.length≤100000)(v1 v2:Value)(w:World)(h1:zO w v1 a)(h2:zO w v2 b) :
  Calls Tryz.prog 147 #[v1,v2] w fun e w'=>∃ v',e=.returned v'∧zO w' v' (limbs LB (lval LB a*lval LB b))∧Q w w':=by
 refine(zcn a b da db ha hb v1 v2 w h1 h2).mono ?_
 rintro e w'⟨v',rfl,h,hq⟩
 exact⟨v',rfl,zbn h,hq⟩
def zhA{α:Type}(f:Nat→α)(k:Nat):List α:=(List.range k).map f
theorem zgH{α:Type}(f:Nat→α)(k:Nat):zhA f (k+1)=zhA f k++[f k]:=by simp[zhA,List.range_succ]
theorem zeu{α:Type}(f:Nat→α)(k:Nat):(zhA f k).length=k:=by simp[zhA]
abbrev Plc(zs:List Int):={ i:Nat // i<zs.length }
def zlG(zs:List Int)(x:Plc zs):Array Value:=#[.int .i64 (x.1:Nat),.int .i64 (zs.getD x.1 0)]
def Down(zs:List Int)(k:Nat)(pre:List (Plc zs)):Prop:=pre.map (·.1)=zhA (fun j=>zs.length - 1 - j) k
theorem Down.len{zs:List Int}{k:Nat}{pre:List (Plc zs)}(h:Down zs k pre):pre.length=k:=by
 have:=congrArg List.length h
 rw[List.length_map,zeu]at this;exact this
theorem Down.next{zs:List Int}{k:Nat}{pre:List (Plc zs)}(h:Down zs k pre)(x:Plc zs)(hx:x.1=zs.length - 1 - k):Down zs (k+1) (pre++[x]):=by
 unfold Down at h ⊢
 rw[zgH,List.map_append,h];simp[hx]
theorem zmn(F:Fence)(n:Nat)(h7:F.fn 307)(hro:F.round=none)(hn:1≤n)(l Bs n₀ b off cap:Nat)(ao:Option Addr)(zs:List Int)(hreach:zs.length≤1000000)(hao:0<zs.length→ao=some ⟨b,off,none⟩∧b<n₀)(J Jx:List (Plc zs)→World→Prop)
  (hY:∀ pre x W,J pre W→pre.length<zs.length→YieldAt F (n - 1) Tryz.prog l (zlG zs x) W fun e W' =>
   (e=.returned (.bool true)∧J (pre++[x]) W'∧Below n₀ W W')∨(e=.returned (.bool false)∧Jx (pre++[x]) W'))
  (W:World) (hBs:W.cell? ⟨Bs,0,none⟩=some (.slice ao zs.length cap)) (hBn:Bs<n₀) (hc:∀ j,j<zs.length→W.cell? ⟨b,off+j,none⟩=some (.int .i64 (zs.getD j 0))) (h0:J [] W) :
  CallsIn F n Tryz.prog 307 #[.func (.yield l) #[] #[],.pointer (some ⟨Bs,0,none⟩)] W fun e W'=>(∃ v,e=.returned v) ∧
   ((∃ ys,Down zs zs.length ys∧J ys W')∨(∃ pre,(∃ k,k≤zs.length∧Down zs k pre)∧Jx pre W')):=by
 refine callsIn_of_wp Tryz.func307 rfl h7 ?_ hro
 simp only[Tryz.ntmps307,List.size_toArray,List.length_cons,List.length_nil,Nat.reduceAdd,Nat.reduceSub,Array.replicate_succ,Array.replicate_zero,List.push_toArray,List.append_toArray,List.nil_append,List.cons_append]
 gi_wp2
 gi_loopw [3] (fun i wr=>∃ k:Nat,k≤zs.length∧i=.int .i64 ((zs.length:Int) - 1 - k)∧(∃ pre,Down zs k pre∧J pre wr)∧Below n₀ W wr)
  (fun i _=>(intOf i+1).toNat)
 case atStart=>exact⟨0,Nat.zero_le _,by simp,⟨[],rfl,h0⟩,Below.refl _ _⟩
 case round =>
  obtain⟨k,hk,rfl,⟨pre,hpre,hJs⟩,hnx⟩:=hrel
  have hBs2:=(hnx.cell (p:=⟨Bs,0,none⟩) hBn).trans hBs
  by_cases hlt:k<zs.length
  ·obtain⟨rfl,hb⟩:=hao (by omega)
   obtain⟨m,hm⟩:∃ m:Nat,zs.length - 1 - k=m:=⟨_,rfl⟩
   have hmi:(zs.length:Int) - 1 - k=(m:Int):=by omega
   have hcx:=(hnx.cell (p:=⟨b,off+m,none⟩) hb).trans (hc m (by omega))
   have hml:(m:Int)<(zs.length:Int):=by omega
   have hm0:(0:Int)≤(m:Int):=by omega
   have hYk:=hY pre ⟨m,by omega⟩ wr hJs (by rw[hpre.len];exact hlt)
   have hnext:=hpre.next ⟨m,by omega⟩ hm.symm
   unfold zlG at hYk
   simp only at hYk
   obtain⟨fn,tmps,assign,body,hy,hR⟩:=hYk
   rw[hmi]
   generalize hzm:zs.getD m 0=x at *
   gi_wp2
   refine hR.mono ?_
   rintro e W3 (⟨rfl,hJ3,hk3⟩|⟨rfl,hJx3⟩)
   ·gi_wp2
    go_roundw
    case rel=>exact⟨k+1,by omega,by go_num,⟨_,hnext,hJ3⟩,hnx.trans hk3⟩
    case measure=>(simp[intOf])
   ·gi_wp2
    refine bodyPost_ret (results_none rfl _ _ _) rfl ?_
    exact⟨⟨_,rfl⟩,.inr ⟨_,⟨k+1,by omega,hnext⟩,hJx3⟩⟩
  ·obtain rfl:k=zs.length:=by omega
   have hend:(zs.length:Int) - 1 - (zs.length:Nat) = -1:=by omega
   rw[hend]
   gi_wp2
   go_end0
   exact⟨⟨_,rfl⟩,.inl ⟨_,hpre,hJs⟩⟩
theorem zjx(F:Fence)(n:Nat)(h7:F.fn 307)(hro:F.round=none)(hn:1≤n)(Bs n₀ b off cap:Nat)(ao:Option Addr)(zs:List Int)(hlen:zs.length≤1000000)(w:World)(lBs:Bs<n₀)(hao:0<zs.length→ao=some ⟨b,off,none⟩∧b<n₀)(hn₀:n₀≤w.heap.size)
  (hBs:w.cell? ⟨Bs,0,none⟩=some (.slice ao zs.length cap))(hc:∀ j,j<zs.length→w.cell? ⟨b,off+j,none⟩=some (.int .i64 (zs.getD j 0))) :
  SeqStopsK F n Tryz.prog 307 #[.pointer (some ⟨Bs,0,none⟩)] (zlG zs) (Below n₀) (fun ys=>Down zs zs.length ys) (fun pre=>∃ k,k≤zs.length∧Down zs k pre) zs.length w:=fun l J Jx W hW _ _ hY h0=>by
 refine(zmn F n h7 hro hn l Bs n₀ b off cap ao zs hlen hao J Jx hY W ((hW.cell (p:=⟨Bs,0,none⟩) (Nat.lt_of_lt_of_le lBs hn₀)).trans hBs) lBs (fun j hj=>(hW.cell (p:=⟨b,off+j,none⟩) (Nat.lt_of_lt_of_le (hao (by omega)).2 hn₀)).trans (hc j hj)) h0).mono ?_
 rintro e W'⟨hv,⟨ys,hys,hJ⟩|⟨pre,hp,hJx⟩⟩
 ·exact⟨hv,.inl ⟨_,hys,hJ⟩⟩
 ·exact⟨hv,.inr ⟨pre,hp,hJx⟩⟩
theorem zc9(F:Fence)(n:Nat)(h6:F.fn 266)(hro:F.round=none)(v:Value)(w:World)(hv:∃ a n c,v=.slice a n c) :
  CallsIn F n Tryz.prog 266 #[v] w fun e w'=>e=.returned (.func (.func 307) #[] #[.pointer (some ⟨w.heap.size,0,none⟩)])∧w'=w.alloc (.cells #[v] 29):=by
 obtain⟨a,m,c,rfl⟩:=hv
 refine callsIn_of_wp Tryz.func266 rfl h6 ?_ hro
 simp only[Tryz.ntmps266,List.size_toArray,List.length_cons,List.length_nil,Nat.reduceAdd,Nat.reduceSub,Array.replicate_succ,Array.replicate_zero,List.push_toArray,List.append_toArray,List.nil_append,List.cons_append]
 gi_wp2
 refine bodyPost_ret (results_tmp rfl _ _ _) rfl ?_
 exact⟨rfl,rfl⟩
end
section
open Go.RowKit Go.Shelf Kp
attribute [local go_sem] Oper.semAt_some
def zq0(a b:List Int)(z:Int):Prop:=(a=b∧z=0)∨∃ i,i<a.length∧(∀ j,i<j→j<a.length→a.getD j 0=b.getD j 0)∧a.getD i 0≠b.getD i 0∧z=a.getD i 0 - b.getD i 0
def zr4(a b:List Int)(pre:List (Plc a)):Prop:=∀ x∈pre,a.getD x.1 0=b.getD x.1 0
def znr(a b:List Int)(pre:List (Plc a))(v:Value):Prop:=∃ pre0 x,pre=pre0++[x]∧v=.int .i64 (a.getD x.1 0 - b.getD x.1 0)∧zr4 a b pre0∧a.getD x.1 0≠b.getD x.1 0
theorem zd1(fn:Func)(m:Nat)(hf:fn.results=#[.cell m 3])(tmps:Array Value)(W:World)(b:Nat)(v:Value)(hp:tmps.getD m undef=.pointer (some ⟨b,0,none⟩))(hc:W.cell? ⟨b,0,none⟩=some v) :
  (results fn tmps).run Tryz.prog W=.ok v W:=by
 simp only[Array.getD_eq_getD_getElem?]at hp
 simp[results,hf,go_sem,hp,hc]
theorem zrP{a b:List Int}(hl:a.length=b.length){ys:List (Plc a)}(hd:Down a a.length ys)(h:zr4 a b ys):zq0 a b 0:=by
 refine .inl ⟨List.ext_getElem hl fun i h1 h2=>?_,rfl⟩
 have hm:i∈ys.map (·.1):=by
  rw[hd];unfold zhA
  exact List.mem_map.2 ⟨a.length - 1 - i,List.mem_range.2 (by omega),by omega⟩
 obtain⟨y,hy,rfl⟩:=List.mem_map.1 hm
 have:=h y hy
 rw[List.getD_eq_getElem?_getD,List.getD_eq_getElem?_getD,List.getElem?_eq_getElem h1,List.getElem?_eq_getElem h2]at this
 exact this
theorem zrQ{a b:List Int}{pre:List (Plc a)}{k:Nat}(hd:Down a k pre){v:Value}(h:znr a b pre v):∃ z,v=.int .i64 z∧zq0 a b z:=by
 obtain⟨pre0,x,rfl,rfl,hall,hne⟩:=h
 have hk:pre0.length+1=k:=by have:=hd.len;simpa using this
 have hx:x.1=a.length - 1 - pre0.length:=by
  have h1:((pre0++[x]).map (·.1))[pre0.length]? = some x.1:=by simp
  rw[hd]at h1
  unfold zhA at h1
  simp[← hk]at h1
  omega
 refine⟨_,rfl,.inr ⟨x.1,x.2,fun j h1 h2=>?_,hne,rfl⟩⟩
 have hm:j∈pre0.map (·.1):=by
  have h3:pre0.map (·.1)=(zhA (fun j=>a.length - 1 - j) k).take pre0.length:=by
   rw[← hd,List.map_append,List.take_left' (by simp)]
  rw[h3];unfold zhA
  rw[← List.map_take]
  exact List.mem_map.2 ⟨a.length - 1 - j,by rw[List.take_range];exact List.mem_range.2 (by omega),by omega⟩
 obtain⟨y,hy,rfl⟩:=List.mem_map.1 hm
 exact hall y hy
theorem zpg(F:Fence)(n:Nat)(h1:F.fn 205)(h2:F.fn 266)(h3:F.fn 307)(hro:F.round=none)(hn:3≤n)(a b:List Int)(hl:a.length=b.length)(ha:a.length≤100000)(da:Dig LB a)(db:Dig LB b)
  (v1 v2:Value)(w:World)(i1:zO w v1 a)(i2:zO w v2 b) :
  CallsIn F n Tryz.prog 205 #[v1,v2] w fun e w'=>∃ z,e=.returned (.int .i64 z)∧Hid (zq0 a b z)∧Below w.heap.size w w':=by
 have hn1:1≤n:=by omega
 have I1:=LH i1
 have I2:=LH i2
 obtain⟨a1,c1,rfl,-,-⟩:=i1
 obtain⟨a2,c2,rfl,-,-⟩:=i2
 refine callsIn_of_wp_marks Tryz.func205 rfl h1 ?_ hro
 simp only[Tryz.ntmps205,List.size_toArray,List.length_cons,List.length_nil,Nat.reduceAdd,Nat.reduceSub,Array.replicate_succ,Array.replicate_zero,List.push_toArray,List.append_toArray,List.nil_append,List.cons_append]
 have hll:((a.length:Int) != (b.length:Int))=false:=by rw[hl];simp
 have HL:=LH hl
 have HD:Hid (∀ i,-1000000000≤a.getD i 0 - b.getD i 0∧a.getD i 0 - b.getD i 0≤1000000000):=LH (fun i=>by
  have g1:=da.get (by decide) i
  have g2:=db.get (by decide) i
  have:LB=1000000000:=rfl
  omega)
 clear hl
 gi_wp2_with (gi_at_call 266;refine(zc9 F (n - 1) h2 hro _ _ ⟨_,_,_,rfl⟩).mono ?_;rintro e w1 ⟨rfl,rfl⟩)
 obtain⟨W0,hW0⟩:∃ W0,((w.alloc (.cells #[.slice a2 b.length c2] 29)).alloc (.cells #[.int .i64 0] 3)).alloc (.cells #[.slice a1 a.length c1] 29)=W0:=⟨_,rfl⟩
 have hsz:W0.heap.size=w.heap.size+3:=by rw[← hW0];simp
 have hB0:Below w.heap.size w W0:=by rw[← hW0];exact(((Below.refl _ w).alloc (Nat.le_refl _) _).alloc (by simp) _).alloc (by simp;omega) _
 have bB:Boxed W0 w.heap.size 29 (.slice a2 b.length c2):=by rw[← hW0];exact((Boxed.new w _ _).alloc _).alloc _
 have bR:Boxed W0 (w.heap.size+1) 3 (.int .i64 0):=by
  have:=(Boxed.new (w.alloc (.cells #[.slice a2 b.length c2] 29)) 3 (.int .i64 0)).alloc (.cells #[.slice a1 a.length c1] 29)
  rw[World.size_alloc,hW0]at this;exact this
 have bS:Boxed W0 (w.heap.size+1+1) 29 (.slice a1 a.length c1):=by
  have:=Boxed.new ((w.alloc (.cells #[.slice a2 b.length c2] 29)).alloc (.cells #[.int .i64 0] 3)) 29 (.slice a1 a.length c1)
  rw[World.size_alloc,World.size_alloc,hW0]at this;exact this
 rw[hW0]
 have hA0:∀ (W:World),Below w.heap.size w W→∀ j,j<b.length→∃ b2 o2,a2=some ⟨b2,o2,none⟩∧b2<w.heap.size∧W.cell? ⟨b2,o2+j,none⟩=some (.int .i64 (b.getD j 0)):=fun W hW j hj=>by
  obtain⟨a',c',e,-,k'⟩:=I2.out
  obtain⟨b2,o2,rfl,hAt⟩:=k' (by omega)
  injection e with e1
  exact⟨b2,o2,e1,hAt.1,(hW.cell (p:=⟨b2,o2+j,none⟩) hAt.1).trans (hAt.2 j hj)⟩
 obtain⟨bA,oA,hcA,haA⟩:∃ bA oA,(∀ j,j<a.length→W0.cell? ⟨bA,oA+j,none⟩=some (.int .i64 (a.getD j 0)))∧(0<a.length→a1=some ⟨bA,oA,none⟩∧bA<W0.heap.size):=by
  obtain⟨a',c',e,-,k'⟩:=I1.out
  by_cases h0:0<a.length
  ·obtain⟨b2,o2,rfl,hAt⟩:=k' h0
   injection e with e1
   exact⟨b2,o2,fun j hj=>(hB0.cell (p:=⟨b2,o2+j,none⟩) hAt.1).trans (hAt.2 j hj),fun _=>⟨e1,by have:=hAt.1;omega⟩⟩
  ·exact⟨0,0,fun j hj=>absurd hj (by omega),fun h=>absurd h h0⟩
 have HA0:=LH hA0
 clear hA0 hW0
 refine wpIn_rangeFunc_ownG hro hn1 (gf:=307) (lb:=#[.pointer (some ⟨w.heap.size+1+1,0,none⟩)]) rfl h3 (enters_of Tryz.func307 (by kernel_rfl) rfl)
  (zjx F (n - 1) h3 hro (by omega) (w.heap.size+1+1) W0.heap.size bA oA c1 a1 a (by omega) W0 (by omega) haA (Nat.le_refl _) bS.cell hcA) belowK_t (belowK_b (by simp)) (Below.refl _ _) (fun _=>rfl)
  (fun pre W=>(Boxed W w.heap.size 29 (.slice a2 b.length c2)∧Boxed W (w.heap.size+1) 3 (.int .i64 0))∧Below w.heap.size w W∧zr4 a b pre)
  (fun c pre W=>(∃ v,Boxed W (w.heap.size+1) 3 v∧znr a b pre v∧c=.ret)∧Below w.heap.size w W)
  (OwnFrom.and (OwnFrom.and (Own.from (boxed_own _ _ _) _) (Own.from (boxed_own _ _ _) _)) (OwnFrom.and (ownFrom_below (Nat.le_refl _) (by omega)) (ownFrom_pure _ _)))
  ?hIx ⟨⟨bB,bR⟩,hB0,fun x hx=>by cases hx⟩
  (fun x=>{ tmps:=#[.slice a1 a.length c1,.slice a2 b.length c2,undef,.pointer (some ⟨w.heap.size,0,none⟩),.pointer (some ⟨w.heap.size+1,0,none⟩),.int .i64 (x.1:Nat),.int .i64 (a.getD x.1 0),.slice a1 a.length c1,.int .i64 a.length,.slice a2 b.length c2,.int .i64 b.length,.bool false,undef,undef,undef,undef,undef,.slice a1 a.length c1,.func (.func 307) #[] #[.pointer (some ⟨w.heap.size+1+1,0,none⟩)],.int .i64 (x.1:Nat),.int .i64 (a.getD x.1 0),undef,undef,undef,undef,undef,undef,undef,undef,undef,undef,undef,undef],defers:=[] }) ?assign ?body ?done ?stop
 case assign =>
  intro l x W K hK
  unfold zlG
  gi_wp2
  exact hK
 case body =>
  rintro l pre x W⟨⟨hb,hr⟩,hB,hp⟩ hlt
  have hcb:=hb.cell
  have hcr:=hr.cell
  have hfr:=hr.frozen
  have hxb:x.1<b.length:=by have:=x.2;have:=HL.out;omega
  obtain⟨b2,o2,rfl,hb2,hcx⟩:=HA0.out W hB x.1 hxb
  have hx0:(0:Int)≤(x.1:Nat):=by omega
  have hxl:((x.1:Nat):Int)<(b.length:Int):=by omega
  have hga:=LH (rfl:a.getD x.1 0=a.getD x.1 0)
  by_cases he:a.getD x.1 0=b.getD x.1 0
  ·have HE:=LH he
   have hI:zr4 a b (pre++[x]):=fun y hy=>by
    rcases List.mem_append.1 hy with hy | hy
    ·exact hp y hy
    ·obtain rfl:y=x:=by simpa using hy
     exact HE.out
   have HI:=LH hI
   rw[he]
   clear he hI HE hga
   generalize b.getD x.1 0=q at *
   gi_wp2
   exact⟨(KeepsOthers.refl _).from _,Below.refl _ _,⟨hb,hr⟩,hB,HI.out⟩
  ·have HX:Hid (znr a b (pre++[x]) (.int .i64 (a.getD x.1 0 - b.getD x.1 0))):=LH ⟨pre,x,rfl,rfl,hp,he⟩
   have hne:(a.getD x.1 0 != b.getD x.1 0)=true:=by rw[bne_iff_ne];exact he
   have hbd:=HD.out x.1
   clear he hp hga
   generalize a.getD x.1 0=p at *
   generalize b.getD x.1 0=q at *
   gi_wp2
   refine⟨(KeepsOthers.setCell _ _ _).from _,⟨_,?_,HX.out,rfl⟩,hB.setCell (p:=⟨w.heap.size+1,0,none⟩) (by simp) _⟩
   exact hr.set _
 case hIx =>
  intro c
  refine OwnFrom.and (fun s W W' row hs hg hr=>?_) (ownFrom_below (Nat.le_refl _) (by omega))
  obtain⟨v,hv,h⟩:=hs
  exact⟨v,(Own.from (boxed_own (β:=Unit) (w.heap.size+1) 3 (fun _=>v)) _) () W W' row hv hg hr,h⟩
 case done =>
  rintro D ys W hD hys⟨⟨hb,hr⟩,hB,hAll⟩ hK
  have hcr:=hr.cell
  have hfr:=hr.frozen
  gi_wp2
  have hK2:=(KeepsOthers.setCell W ⟨w.heap.size+1,0,none⟩ (.int .i64 0)).same D _ hK rfl
  have hc2:=(hr.set (.int .i64 0)).cell
  have hB2:=hB.setCell (p:=⟨w.heap.size+1,0,none⟩) (by simp) (.int .i64 0)
  refine⟨by simp,.inl ⟨_,_,rfl,run_takeDeferred hK2,?_⟩⟩
  exact⟨_,zd1 _ 4 rfl _ _ (w.heap.size+1) _ rfl (cell_kept hc2 (grownBy_putObj' _ D (.deferred none)) (fun r e=>by cases e;exact⟨_,hK2,rfl⟩)),0,rfl,LH (zrP HL.out hys hAll),hB2.trans (belowK_b (w:=w) (Nat.le_refl _) _ D _ _ (by omega) hK2 rfl rfl)⟩
 case stop =>
  rintro D c pre W hD⟨k,hk,hdown⟩ ⟨⟨v,hv,hdf,rfl⟩,hB⟩ hK
  have hcv:=hv.cell
  obtain⟨z,rfl,hz⟩:=zrQ hdown hdf
  gi_wp2
  refine⟨by simp,.inl ⟨_,_,rfl,run_takeDeferred hK,?_⟩⟩
  exact⟨_,zd1 _ 4 rfl _ _ (w.heap.size+1) _ rfl (cell_kept hcv (grownBy_putObj' _ D (.deferred none)) (fun r e=>by cases e;exact⟨_,hK,rfl⟩)),z,rfl,LH hz,hB.trans (belowK_b (w:=w) (Nat.le_refl _) W D _ _ (by omega) hK rfl rfl)⟩
theorem zgn(a b:List Int)(hl:a.length=b.length)(ha:a.length≤100000)(da:Dig LB a)(db:Dig LB b)(v1 v2:Value)(w:World)(i1:zO w v1 a)(i2:zO w v2 b) :
  Calls Tryz.prog 205 #[v1,v2] w fun e w'=>∃ z,e=.returned (.int .i64 z)∧Hid (zq0 a b z)∧Below w.heap.size w w' :=
 (callsIn_wide (n:=6)).1 (zpg Fence.wide 6 trivial trivial trivial rfl (by omega) a b hl ha da db v1 v2 w i1 i2)
def ztj(x y z:Int):Prop:=(z<0 ↔ x<y)∧(z=0 ↔ x=y)
theorem zrR{a b:List Int}(hl:a.length=b.length)(da:Dig LB a)(db:Dig LB b){z:Int}(h:zq0 a b z):ztj (lval LB a) (lval LB b) z:=by
 rcases h with⟨rfl,rfl⟩|⟨i,hi,hup,hne,rfl⟩
 ·exact⟨by simp,by simp⟩
 ·have hdrop:a.drop (i+1)=b.drop (i+1):=by
   refine List.ext_getElem (by simp[hl]) fun j h1 h2=>?_
   rw[List.getElem_drop,List.getElem_drop]
   have h3:i+1+j<a.length:=by simp at h1;omega
   have h4:i+1+j<b.length:=by omega
   have:=hup (i+1+j) (by omega) h3
   rw[List.getD_eq_getElem?_getD,List.getD_eq_getElem?_getD,List.getElem?_eq_getElem h3,List.getElem?_eq_getElem h4]at this
   exact this
  by_cases hlt:a.getD i 0<b.getD i 0
  ·have h:=zeK (by decide) da db hl hi hdrop hlt
   exact⟨⟨fun _=>h,fun _=>by omega⟩,⟨fun e=>by omega,fun e=>by omega⟩⟩
  ·have h:=zeK (by decide) db da hl.symm (by omega) hdrop.symm (by omega)
   exact⟨⟨fun e=>by omega,fun e=>by omega⟩,⟨fun e=>by omega,fun e=>by omega⟩⟩
theorem zbB(x y:Int)(hx:0≤x)(hy:0≤y)(lx:(limbs LB x).length≤100000)(ly:(limbs LB y).length≤100000)(v1 v2:Value)(w:World)(i1:zO w v1 (limbs LB x))(i2:zO w v2 (limbs LB y)) :
  Calls Tryz.prog 205 #[v1,v2] w fun e w'=>∃ z,e=.returned (.int .i64 z)∧ztj x y z∧Q w w':=by
 have e1:=zG (B:=LB) (by decide) x hx
 have e2:=zG (B:=LB) (by decide) y hy
 by_cases hl:(limbs LB x).length=(limbs LB y).length
 ·refine(zgn _ _ hl lx (zQ (by decide) x) (zQ (by decide) y) v1 v2 w i1 i2).mono ?_
  rintro e w'⟨z,rfl,hz,hq⟩
  have:=zrR hl (zQ (by decide) x) (zQ (by decide) y) hz.out
  rw[e1,e2]at this
  exact⟨z,rfl,this,hq⟩
 ·have HC:Hid (ztj x y (((limbs LB x).length:Int) - ((limbs LB y).length:Int))):=LH (by
   rcases Nat.lt_or_gt_of_ne hl with h | h
   ·have h2:=zeM (by decide) hx h
    exact⟨⟨fun _=>h2,fun _=>by omega⟩,⟨fun e=>by omega,fun e=>by omega⟩⟩
   ·have h2:=zeM (by decide) hy h
    exact⟨⟨fun e=>by omega,fun e=>by omega⟩,⟨fun e=>by omega,fun e=>by omega⟩⟩)
  obtain⟨a1,c1,rfl,-,-⟩:=i1
  obtain⟨a2,c2,rfl,-,-⟩:=i2
  generalize (limbs LB x).length=m at *
  generalize (limbs LB y).length=k at *
  have hb:((m:Int) != (k:Int))=true:=by rw[bne_iff_ne];omega
  have hbx:-9223372036854775808≤(m:Int) - (k:Int)∧(m:Int) - (k:Int)≤9223372036854775807:=by omega
  go_enter Tryz.func205,Tryz.ntmps205
  go_wp2
  have hc:=(Boxed.new (w.alloc (.cells #[.slice a2 k c2] 29)) 3 (.int .i64 ((m:Int) - (k:Int)))).cell
  rw[World.size_alloc]at hc
  exact bodyPost_ret (zd1 _ 4 rfl _ _ (w.heap.size+1) _ rfl hc) rfl ⟨_,rfl,HC.out,((Below.refl _ w).alloc (Nat.le_refl _) _).alloc (by simp) _⟩
end
section
open Go.RowKit Kp
def zdp(g:Nat)(w:World)(v:Value)(l:List Int):Prop:=∃ a cap,v=.slice a l.length cap∧l.length≤cap∧(0<l.length→∃ b o,a=some ⟨b,o,none⟩∧b≠g∧zjb w b o l)
theorem zdp.sl{g:Nat}{w:World}{v:Value}{l:List Int}(h:zdp g w v l):zO w v l:=by
 obtain⟨a,cap,rfl,hcap,hc⟩:=h
 refine⟨a,cap,rfl,hcap,fun h0=>?_⟩
 obtain⟨b,o,rfl,_,hA⟩:=hc h0
 exact⟨b,o,rfl,hA⟩
theorem zdp.keep{g:Nat}{w w':World}{v:Value}{l:List Int}(h:zdp g w v l)(hg:w.grownBy w' (some g)):zdp g w' v l:=by
 obtain⟨a,cap,rfl,hcap,hc⟩:=h
 refine⟨a,cap,rfl,hcap,fun h0=>?_⟩
 obtain⟨b,o,rfl,hne,hb,hi⟩:=hc h0
 refine⟨b,o,rfl,hne,Nat.lt_of_lt_of_le hb hg.size,fun i hi'=>?_⟩
 rw[hg.cell_far ⟨b,o+i,none⟩ hb (fun e=>hne (by injection e))]
 exact hi i hi'
theorem zas{w w':World}(h:Q w w')(row:Option Nat):w.grownBy w' row:=⟨h.os,h.tape,h.output,h.size,fun i hi _=>h.block i hi⟩
theorem grownBy_set{w w':World}{g:Nat}(h:w.grownBy w' (some g))(i:Nat)(v:Value):w.grownBy (w'.setCell ⟨g,i,none⟩ v) (some g) :=
 h.trans ⟨rfl,rfl,rfl,by simp[World.setCell],fun k _ hne=>by
  have:g≠k:=fun e=>hne (by rw[e])
  simp[World.setCell,Array.getElem?_modify,this]⟩
theorem zl6(B0 g cap j n:Nat)(u v:List Int)(q:Int)(hn:u.length=n)(hu:Dig LB u)(hv:Dig LB v)(hul:n≤400000)(hj:j+v.length<n)(hq0:0≤q)(hq1:q≤1000000001)(v2:Value)(w:World)
  (hO:w.ownsRow B0 3 1 (.slice (some ⟨g,0,none⟩) n cap) n (zaz u))(hV:zdp g w v2 v) :
  Calls Tryz.prog 272 #[.slice (some ⟨g,0,none⟩) n cap,v2,.int .i64 j,.int .i64 q] w fun e w'=>∃ u' c,e=.returned (.bool (decide (0<c)))∧TakeInv LB u v j q (v.length+1) u' c ∧
   w'.ownsRow B0 3 1 (.slice (some ⟨g,0,none⟩) n cap) n (zaz u')∧w.grownBy w' (some g):=by
 have HN:=LH hn
 have HV:=LH hV
 obtain⟨a2,c2,rfl,-,-⟩:=hV
 have HO:=LH hO
 have HS:=LH (TakeInv.start (v:=v) hu j hq0)
 clear hO hn
 go_enter Tryz.func272,Tryz.ntmps272
 go_wp2
 go_loopw [9,15] (fun cv iv wr=>∃ (i:Nat) (o:List Int) (c:Int),i≤v.length+1∧cv=.int .i64 c∧iv=.int .i64 i∧Hid (TakeInv LB u v j q i o c)∧Hid (wr.ownsRow B0 3 1 (.slice (some ⟨g,0,none⟩) n cap) n (zaz o))∧w.grownBy wr (some g)) (fun _ iv _=>v.length+1 - (intOf iv).toNat)
 case atStart=>exact⟨0,u,0,by omega,rfl,rfl,HS,HO,World.grownBy.refl _ _⟩
 case round =>
  obtain⟨i,o,c,hi1,rfl,rfl,HT,HO1,hQ⟩:=hrel
  by_cases hlt:i<v.length+1
  ·have hi0:(0:Int)≤(i:Int):=by omega
   have hil:(i:Int)<(v.length:Int)+1:=by omega
   have hbd:=HT.out.bound (by decide) hv
   have gc0:=HT.out.c0
   have gc1:=HT.out.c1
   have hol:o.length=n:=by rw[HT.out.len];exact HN.out
   have hcell:=HO1.out.cellAt (j+i) (by omega)
   rw[zbx o (j+i) (by omega)]at hcell
   have HL:Hid (∀ W,Q wr W→CR 207 #[.slice a2 v.length c2,.int .i64 i] W (.int .i64 (v.getD i 0))):=LH (fun W hW=>zdx v (by omega) _ i (by omega) W ((HV.out.keep hQ).sl.keep hW))
   have gu:=HT.out.dig.get (by decide) (j+i)
   have gy:=hv.get (show (0:Int)<LB by decide) i
   have hsp:=LH (fun h=>HT.out.stepPos (by decide) hv (i:=i) (by have:=HN.out;omega) h)
   have hsn:=LH (fun h=>HT.out.stepNeg (by decide) hv (i:=i) (by have:=HN.out;omega) h)
   generalize v.getD i 0=y at *
   generalize o.getD (j+i) 0=x at *
   have hLB:LB=1000000000:=rfl
   rw[hLB]at hbd gu gy
   obtain⟨b1,b2,b3,b4⟩:=hbd
   have hqb:q*1000000000≤1000000001*1000000000:=Int.mul_le_mul_of_nonneg_right hq1 (by decide)
   have hqb2:q*(1000000000 - 1)≤1000000001*(1000000000 - 1):=Int.mul_le_mul_of_nonneg_right hq1 (by decide)
   have hw1:=Go.IntWalk.i64_in ((j:Int)+(i:Int)) (by omega)
   have hw2:=Go.IntWalk.i64_in (q*y) (by omega)
   have hw3:=Go.IntWalk.i64_in (x - c) (by omega)
   have hw4:=Go.IntWalk.i64_in (x - c - q*y) (by omega)
   have hik0:(0:Int)≤(j:Int)+(i:Int):=by omega
   have hikn:(j:Int)+(i:Int)<(n:Int):=by omega
   have hik:((j:Int)+(i:Int)).toNat=j+i:=by omega
   have hcd:wr.drew.cell? ⟨g,j+i,none⟩=some (.int .i64 x):=hcell
   go_wp2_with fail
   refine zn 15 rfl (by kernel_rfl) rfl ?_
   refine svp 0 ?_
   refine svp 1 ?_
   refine svp 2 ?_
   refine svp 3 ?_
   refine svp 4 ?_
   refine svq 5 rfl (by intro w' hq;have hc0:=za hq hcd;go_simp;try with_reducible rfl) ?_
   refine svp 6 ?_
   refine svp 7 ?_
   refine svp 8 ?_
   refine svp 9 ?_
   refine svp 10 ?_
   refine zk (i:=11) (v:=_) rfl rfl (by kernel_rfl) (by kernel_rfl) (fun _ _ _ h=>h) (by rfl) ?_ (fun w' hq=>HL.out w' (Below.trans (Below.drew (Q.refl wr)) (hq.mono (Nat.le_refl _)))) ?_
   ·(intro w' hq;go_simp;try with_reducible rfl)
   simp only[Act.put,zs1,zs2,zs3]
   refine svp 12 ?_
   refine svp 13 ?_
   refine svp 14 ?_
   refine zh (by kernel_rfl) (fun w3 hq3=>?_)
   simp only[List.drop_succ_cons,List.drop_zero]
   have hqq:Q wr w3:=Below.trans ((Below.refl wr.heap.size wr).drew) hq3
   have hr3:=zi HO1.out hqq
   have hc3:=hr3.cellAt (j+i) (by omega)
   have hf3:=hr3.frozenAt (j+i)
   rw[zbx o (j+i) (by omega)]at hc3
   have hg3:=hQ.trans (zas hqq (some g))
   generalize hN:x - c - q*y=N at *
   have HNN:=LH hN
   clear hN hw1 hw2 hw3 hw4 hcd hcell HL
   by_cases hneg:N<0
   ·have hs:=LH (hsn.out hneg)
    obtain⟨hr4,-⟩:=hr3.stored (j+i) (.int .i64 (N+(-N+1000000000 - 1) / 1000000000*1000000000))
    rw[zcD]at hr4
    have HR:=LH hr4
    have hQ4:=grownBy_set hg3 (j+i) (.int .i64 (N+(-N+1000000000 - 1) / 1000000000*1000000000))
    clear hr3 hr4 hsp hsn
    go_wp2
    go_roundw
    case rel=>exact⟨i+1,_,_,by omega,rfl,by go_num,hs,HR,hQ4⟩
    case measure=>simp[intOf];omega
   ·have hs:=LH (hsp.out (by omega))
    have hN0:0≤N:=by omega
    obtain⟨hr4,-⟩:=hr3.stored (j+i) (.int .i64 N)
    rw[zcD]at hr4
    have HR:=LH hr4
    have hQ4:=grownBy_set hg3 (j+i) (.int .i64 N)
    clear hr3 hr4 hsp hsn hneg
    go_wp2
    go_roundw
    case rel=>exact⟨i+1,_,_,by omega,rfl,by go_num,hs,HR,hQ4⟩
    case measure=>simp[intOf];omega
  ·obtain rfl:i=v.length+1:=by omega
   have HT1:=HT.out
   have HO2:=HO1.out
   clear hi1 hlt
   go_wp2
   go_ret
   exact⟨o,c,rfl,HT1,HO2,hQ⟩
theorem ziQ(B0 g cap j n:Nat)(u v:List Int)(q:Int)(hn:u.length=n)(hu:Dig LB u)(hv:Dig LB v)(hul:n≤400000)(hj:j+v.length<n)(hq0:0≤q)(hq1:q≤1000000001)(v2:Value)(w:World)
  (hO:w.ownsRow B0 3 1 (.slice (some ⟨g,0,none⟩) n cap) n (zaz u))(hV:zdp g w v2 v) :
  Calls Tryz.prog 273 #[.slice (some ⟨g,0,none⟩) n cap,v2,.int .i64 j,.int .i64 q] w fun e w'=>∃ u' c,e=.returned (.slice (some ⟨g,0,none⟩) n cap)∧BackInv LB u v j q (v.length+1) u' c ∧
   w'.ownsRow B0 3 1 (.slice (some ⟨g,0,none⟩) n cap) n (zaz u')∧w.grownBy w' (some g):=by
 have HN:=LH hn
 have HV:=LH hV
 obtain⟨a2,c2,rfl,-,-⟩:=hV
 have HO:=LH hO
 have HS:=LH (BackInv.start (v:=v) hu j hq0)
 clear hO hn
 go_enter Tryz.func273,Tryz.ntmps273
 go_wp2
 go_loopw [9,15] (fun cv iv wr=>∃ (i:Nat) (o:List Int) (c:Int),i≤v.length+1∧cv=.int .i64 c∧iv=.int .i64 i∧Hid (BackInv LB u v j q i o c)∧Hid (wr.ownsRow B0 3 1 (.slice (some ⟨g,0,none⟩) n cap) n (zaz o))∧w.grownBy wr (some g)) (fun _ iv _=>v.length+1 - (intOf iv).toNat)
 case atStart=>exact⟨0,u,0,by omega,rfl,rfl,HS,HO,World.grownBy.refl _ _⟩
 case round =>
  obtain⟨i,o,c,hi1,rfl,rfl,HT,HO1,hQ⟩:=hrel
  by_cases hlt:i<v.length+1
  ·have hi0:(0:Int)≤(i:Int):=by omega
   have hil:(i:Int)<(v.length:Int)+1:=by omega
   have hbd:=HT.out.bound (by decide) hv
   have gc0:=HT.out.c0
   have gc1:=HT.out.c1
   have hol:o.length=n:=by rw[HT.out.len];exact HN.out
   have hcell:=HO1.out.cellAt (j+i) (by omega)
   rw[zbx o (j+i) (by omega)]at hcell
   have HL:Hid (∀ W,Q wr W→CR 207 #[.slice a2 v.length c2,.int .i64 i] W (.int .i64 (v.getD i 0))):=LH (fun W hW=>zdx v (by omega) _ i (by omega) W ((HV.out.keep hQ).sl.keep hW))
   have gu:=HT.out.dig.get (by decide) (j+i)
   have gy:=hv.get (show (0:Int)<LB by decide) i
   have hst:=LH (HT.out.step (by decide) hv (i:=i) (by have:=HN.out;omega))
   generalize v.getD i 0=y at *
   generalize o.getD (j+i) 0=x at *
   have hLB:LB=1000000000:=rfl
   rw[hLB]at hbd gu gy
   obtain⟨b1,b2,b3,b4⟩:=hbd
   have hqb:(q+1)*1000000000≤1000000002*1000000000:=Int.mul_le_mul_of_nonneg_right (by omega) (by decide)
   have hqb2:q*(1000000000 - 1)≤1000000001*(1000000000 - 1):=Int.mul_le_mul_of_nonneg_right hq1 (by decide)
   have hw1:=Go.IntWalk.i64_in ((j:Int)+(i:Int)) (by omega)
   have hw2:=Go.IntWalk.i64_in (q*y) (by omega)
   have hw3:=Go.IntWalk.i64_in (x+q*y) (by omega)
   have hw4:=Go.IntWalk.i64_in (x+q*y+c) (by omega)
   have hik0:(0:Int)≤(j:Int)+(i:Int):=by omega
   have hikn:(j:Int)+(i:Int)<(n:Int):=by omega
   have hik:((j:Int)+(i:Int)).toNat=j+i:=by omega
   have hcd:wr.drew.cell? ⟨g,j+i,none⟩=some (.int .i64 x):=hcell
   go_wp2_with fail
   refine zn 15 rfl (by kernel_rfl) rfl ?_
   refine svp 0 ?_
   refine svp 1 ?_
   refine svp 2 ?_
   refine svp 3 ?_
   refine svp 4 ?_
   refine svq 5 rfl (by intro w' hq;have hc0:=za hq hcd;go_simp;try with_reducible rfl) ?_
   refine svp 6 ?_
   refine svp 7 ?_
   refine svp 8 ?_
   refine zk (i:=9) (v:=_) rfl rfl (by kernel_rfl) (by kernel_rfl) (fun _ _ _ h=>h) (by rfl) ?_ (fun w' hq=>HL.out w' (Below.trans (Below.drew (Q.refl wr)) (hq.mono (Nat.le_refl _)))) ?_
   ·(intro w' hq;go_simp;try with_reducible rfl)
   simp only[Act.put,zs1,zs2,zs3]
   refine svp 10 ?_
   refine svp 11 ?_
   refine svp 12 ?_
   refine svp 13 ?_
   refine svp 14 ?_
   refine zh (by kernel_rfl) (fun w3 hq3=>?_)
   simp only[List.drop_succ_cons,List.drop_zero]
   have hqq:Q wr w3:=Below.trans ((Below.refl wr.heap.size wr).drew) hq3
   have hr3:=zi HO1.out hqq
   have hc3:=hr3.cellAt (j+i) (by omega)
   have hf3:=hr3.frozenAt (j+i)
   rw[zbx o (j+i) (by omega)]at hc3
   have hg3:=hQ.trans (zas hqq (some g))
   generalize hN:x+q*y+c=N at *
   clear hN hw1 hw2 hw3 hw4 hcd hcell HL
   obtain⟨hr4,-⟩:=hr3.stored (j+i) (.int .i64 (N % 1000000000))
   rw[zcD]at hr4
   have HR:=LH hr4
   have hQ4:=grownBy_set hg3 (j+i) (.int .i64 (N % 1000000000))
   clear hr3 hr4
   go_wp2
   go_roundw
   case rel=>exact⟨i+1,_,_,by omega,rfl,by go_num,hst,HR,hQ4⟩
   case measure=>simp[intOf];omega
  ·obtain rfl:i=v.length+1:=by omega
   have HT1:=HT.out
   have HO2:=HO1.out
   clear hi1 hlt
   go_wp2
   go_ret
   exact⟨o,c,rfl,HT1,HO2,hQ⟩
end
end Go.Proofs.YtapnkgdnflofbaaGreatDoor
namespace Kp
structure EstAll (B X V v1 v2 top u2:Int):Prop where
 half:B≤2*v1
 v1lt:v1<B
 v20:0≤v2
 v21:v2<B
 u20:0≤u2
 u21:u2<B
 top0:0≤top
 top1:top<B*(v1+1)
 start:EstInv X V v1 top (top / v1) (top % v1)
 q0:0≤X / V
 qB:X / V<B
 next:∀ q r,EstInv X V v1 top q r→(B≤q∨r*B+u2<q*v2)→EstInv X V v1 top (q - 1) (r+v1)
theorem EstAll.mk'{B:Int}(hB:2≤B){x v:List Int}(hx:Dig B x)(hv:Dig B v){n:Nat}(hn:v.length=n+2)(hX:lval B x<B*lval B v)(hh:B≤2*v.getD (n+1) 0) :
  EstAll B (lval B x) (lval B v) (v.getD (n+1) 0) (v.getD n 0) (x.getD (n+2) 0*B+x.getD (n+1) 0) (x.getD n 0):=by
 have hV:=zbh (show 0<B by omega) hv
 rw[hn]at hV
 have hP:=zbu (show 0<B by omega) n
 have hP1:=zbu (show 0<B by omega) (n+1)
 have hX0:=zM (show 0≤B by omega) hx
 have hX2:lval B x<B ^ (n+3):=by
  have:B*lval B v<B*B ^ (n+2):=Int.mul_lt_mul_of_pos_left hV (by omega)
  rw[Int.mul_comm B (B ^ (n+2)),show B ^ (n+2)*B=B ^ (n+3)from(Int.pow_succ ..).symm]at this
  omega
 obtain⟨b1,b2⟩:=zmz hB hx hX2
 obtain⟨d1,d2⟩:=zh3 hB hx (n:=n+1) hX2
 obtain⟨c1,c2⟩:=zh3 hB hv hV
 obtain⟨e1,e2⟩:=zgJ hB hv (n:=n+1) hV
 have g0:=hx.get (show 0<B by omega) n
 have g1:=hx.get (show 0<B by omega) (n+1)
 have g2:=hx.get (show 0<B by omega) (n+2)
 have k0:=hv.get (show 0<B by omega) n
 have k1:=hv.get (show 0<B by omega) (n+1)
 generalize lval B x=X at *
 generalize lval B v=V at *
 rw[show n+1+1=n+2 from rfl]at d1 d2
 generalize x.getD (n+2) 0=x2 at *
 generalize x.getD (n+1) 0=x1 at *
 generalize x.getD n 0=x0 at *
 generalize v.getD (n+1) 0=v1 at *
 generalize v.getD n 0=v2 at *
 have hv1:0<v1:=by omega
 have hVp:0<V:=by
  have:0<B ^ (n+1)*v1:=Int.mul_pos hP1 hv1
  omega
 have htop0:0≤x2*B:=Int.mul_nonneg g2.1 (by omega)
 have htop:x2*B+x1<B*(v1+1):=by
  refine Int.lt_of_mul_lt_mul_left (a:=B ^ (n+1)) ?_ (Int.le_of_lt hP1)
  have h1:B*V<B*(B ^ (n+1)*(v1+1)):=Int.mul_lt_mul_of_pos_left e2 (by omega)
  have e:B*(B ^ (n+1)*(v1+1))=B ^ (n+1)*(B*(v1+1)):=by grind
  omega
 have hs:0<v1*B+v2:=by
  have:0<v1*B:=Int.mul_pos hv1 (by omega)
  omega
 exact⟨hh,k1.2,k0.1,k0.2,g0.1,g0.2,by omega,htop,EstInv.start hv1 (zpY hP1 d2 e1 hv1 hX0),Int.ediv_nonneg hX0 (by omega),Int.ediv_lt_of_lt_mul hVp hX,
  fun q r h hc=>h.next hv1 hP hX0 b2 c1 hs (Int.ediv_lt_of_lt_mul hVp hX) hc⟩
theorem EstAll.first{B X V v1 v2 top u2:Int}(hB:2≤B)(h:EstAll B X V v1 v2 top u2):0≤top / v1∧top / v1≤B+1∧0≤top % v1∧top % v1<v1:=by
 have h1:=h.half
 have h2:=h.top1
 have h3:=h.top0
 refine⟨Int.ediv_nonneg h3 (by omega),?_,Int.emod_nonneg _ (by omega),Int.emod_lt_of_pos _ (by omega)⟩
 have:top / v1<B+2:=Int.ediv_lt_of_lt_mul (by omega) (by
  have e:(B+2)*v1=B*v1+2*v1:=by grind
  have e2:B*(v1+1)=B*v1+B:=by grind
  omega)
 omega
theorem zrr{B t:Int}(hB:2≤B)(h0:0<t)(h1:t<B):1≤B / (t+1)∧B / (t+1)<B∧B / (t+1)*(t+1)≤B∧B≤2*(B / (t+1)*t)+1:=by
 have hm:=Int.emod_add_mul_ediv B (t+1)
 have hm1:=Int.emod_lt_of_pos B (show 0<t+1 by omega)
 have hm0:=Int.emod_nonneg B (show t+1≠0 by omega)
 have hf:1≤B / (t+1):=(Int.le_ediv_iff_mul_le (by omega)).2 (by omega)
 have hf2:B / (t+1)<B:=Int.ediv_lt_of_lt_mul (by omega) (by
  have:B*2≤B*(t+1):=Int.mul_le_mul_of_nonneg_left (by omega) (by omega)
  omega)
 generalize B / (t+1)=f at *
 generalize B % (t+1)=r at *
 have e1:(t+1)*f=f*(t+1):=Int.mul_comm ..
 have e2:f*(t+1)=f*t+f:=by grind
 have h3:f+t≤f*t+1:=by
  have:0≤(f - 1)*(t - 1):=Int.mul_nonneg (by omega) (by omega)
  have e:(f - 1)*(t - 1)=f*t - f - t+1:=by grind
  omega
 refine⟨hf,hf2,by omega,by omega⟩
theorem zjV(n k:Nat):(List.replicate n (0:Int)).getD k 0=0:=by
 rw[List.getD_eq_getElem?_getD,List.getElem?_replicate];split <;> rfl
theorem zhW{B:Int}(hB:0<B)(n:Nat):Dig B (List.replicate n 0):=fun x hx=>by have:=List.eq_of_mem_replicate hx;omega
theorem DivInv.start{B:Int}(hB:2≤B){u:List Int}(hu:Dig B u){n m:Nat}(hl:u.length=m+n){V:Int}(htop:lval B (u.drop m)<V):DivInv B (lval B u) V m u (List.replicate m 0) n :=
 ⟨by simp[hl],hu,zhW (by omega) m,fun k _=>zjV m k,by rw[List.drop_of_length_le (by simp)];simp[lval],htop⟩
theorem zoP{B:Int}(hB:2≤B){l:List Int}(hl:Dig B l){k m n:Nat}(hk:1≤k)(hlen:l.length+k=m+(n+1)):lval B ((l++List.replicate k 0).drop m)<B ^ n:=by
 have hd:Dig B (l++List.replicate k 0):=hl.append (zhW (by omega) k)
 refine zb9 hB (hd.drop m) n fun i hi=>?_
 rw[getD_drop,List.getD_eq_getElem?_getD,List.getElem?_append_right (by omega),← List.getD_eq_getElem?_getD]
 exact zjV _ _
theorem zoO{B:Int}{l:List Int}(k:Nat):lval B (l++List.replicate k 0)=lval B l:=by
 rw[zc5,zg1];simp
theorem zpM(A V f:Int)(hf:0<f)(_hV:0<V):(A*f) / (V*f)=A / V∧(A*f) % (V*f) / f=A % V∧(A*f) % (V*f) % f=0:=by
 have h1:(A*f) / (V*f)=A / V:=Int.mul_ediv_mul_of_pos_left _ _ hf
 have h2:(A*f) % (V*f)=A % V*f:=by rw[Int.mul_comm A f,Int.mul_comm V f,Int.mul_emod_mul_of_pos _ _ hf,Int.mul_comm]
 refine⟨h1,?_,?_⟩
 ·rw[h2,Int.mul_ediv_cancel _ (by omega)]
 ·rw[h2,Int.mul_emod_left]
theorem zlL{B:Int}(hB:2≤B)(hev:B % 2=0){V f:Int}{n:Nat}(hV:0<V)(hl:(limbs B V).length=n+1)(hf:f=B / ((limbs B V).getD n 0+1)) :
  1≤f∧f<B∧(limbs B (V*f)).length=n+1∧B≤2*(limbs B (V*f)).getD n 0∧B ^ n≤V*f:=by
 have hd:=zQ hB V
 have hv:=zG hB V (by omega)
 have hVl:V<B ^ (n+1):=zbA hB V (by omega) (n+1) (by omega)
 obtain⟨b1,b2⟩:=zgJ hB hd (n:=n) (by rw[hv];exact hVl)
 rw[hv]at b1 b2
 have g:=hd.get (show 0<B by omega) n
 have hlast:=zjQ hB V
 have ht0:(limbs B V).getD n 0≠0:=by
  intro e
  apply hlast
  rw[List.getLast?_eq_getElem?,hl,Nat.add_sub_cancel]
  rw[List.getD_eq_getElem?_getD]at e
  rw[List.getElem?_eq_getElem (by omega)]at e ⊢
  simpa using e
 generalize (limbs B V).getD n 0=t at *
 obtain⟨n1,n2,n3,n4⟩:=zrr hB (show 0<t by omega) g.2
 rw[← hf]at n1 n2 n3 n4
 have hP:=zbu (show 0<B by omega) n
 have h1:V*f<B ^ (n+1):=by
  have h2:V*f<B ^ n*(t+1)*f:=Int.mul_lt_mul_of_pos_right b2 (by omega)
  have h3:B ^ n*(f*(t+1))≤B ^ n*B:=Int.mul_le_mul_of_nonneg_left n3 (by omega)
  have e:B ^ n*(t+1)*f=B ^ n*(f*(t+1)):=by grind
  rw[Int.pow_succ]
  omega
 have hft:1≤f*t:=by
  have:=Int.mul_le_mul_of_nonneg_left (show 1≤t by omega) (show 0≤f by omega)
  omega
 have h4:B ^ n*(f*t)≤V*f:=by
  have h5:B ^ n*t*f≤V*f:=Int.mul_le_mul_of_nonneg_right b1 (by omega)
  have e:B ^ n*t*f=B ^ n*(f*t):=by grind
  omega
 have h6:B ^ n≤V*f:=by
  have:=Int.mul_le_mul_of_nonneg_left hft (show 0≤B ^ n by omega)
  omega
 have hVf:0<V*f:=by omega
 have hlen:(limbs B (V*f)).length=n+1:=by
  have h7:=zbZ hB (n+1) (V*f) h1
  by_cases h8:(limbs B (V*f)).length≤n
  ·have:=zbA hB (V*f) (by omega) n h8
   omega
  ·omega
 have hd2:=zQ hB (V*f)
 have hv2:=zG hB (V*f) (by omega)
 obtain⟨c1,c2⟩:=zgJ hB hd2 (n:=n) (by rw[hv2];exact h1)
 rw[hv2]at c1 c2
 have h9:f*t<(limbs B (V*f)).getD n 0+1:=by
  refine Int.lt_of_mul_lt_mul_left (a:=B ^ n) ?_ (Int.le_of_lt hP)
  omega
 refine⟨n1,n2,hlen,?_,h6⟩
 omega
end Kp
namespace Go.Proofs.YtapnkgdnflofbaaGreatDoor
section
open Go.RowKit Kp
theorem zO.addr{w:World}{a:Option Addr}{n cap:Nat}{l:List Int}(hn:l.length=n)(h:zO w (.slice a n cap) l)(h0:0<n):∃ b o,a=some ⟨b,o,none⟩∧zjb w b o l:=by
 obtain⟨a',c',e,-,k⟩:=h
 injection e with e1
 subst e1
 exact k (by omega)
theorem zhJ(j m un cu cv:Nat)(u v:List Int)(hun:u.length=un)(hvn:v.length=m+2)(hu:Dig LB u)(hv:Dig LB v)(hul:un≤400000)(hj:j+(m+2)<un)
  (hX:lval LB (u.drop j)<LB*lval LB v)(hh:LB≤2*v.getD (m+1) 0)(au av:Option Addr)(w:World)(h1:zO w (.slice au un cu) u)(h2:zO w (.slice av (m+2) cv) v) :
  Calls Tryz.prog 271 #[.slice au un cu,.slice av (m+2) cv,.int .i64 j] w fun e w'=>∃ q,e=.returned (.int .i64 q)∧lval LB (u.drop j) / lval LB v≤q∧0≤q∧q≤LB+1∧Q w w':=by
 obtain⟨b1,o1,rfl,hA1⟩:=h1.addr hun (by omega)
 obtain⟨b2,o2,rfl,hA2⟩:=h2.addr hvn (by omega)
 have hE:=EstAll.mk' (by decide) (hu.drop j) hv hvn hX hh
 rw[getD_drop,getD_drop,getD_drop]at hE
 have c0:=hA1.2 (j+m) (by omega)
 have c1:=hA1.2 (j+(m+1)) (by omega)
 have c2:=hA1.2 (j+(m+2)) (by omega)
 have k0:=hA2.2 m (by omega)
 have k1:=hA2.2 (m+1) (by omega)
 have g1:=hu.get (show (0:Int)<LB by decide) (j+(m+1))
 have g2:=hu.get (show (0:Int)<LB by decide) (j+(m+2))
 have hB1:=hA1.1
 have hB2:=hA2.1
 clear h1 h2 hA1 hA2 hh hX
 have hLB:LB=1000000000:=rfl
 generalize lval LB (u.drop j)=X at *
 generalize lval LB v=V at *
 generalize u.getD (j+m) 0=u2 at *
 generalize u.getD (j+(m+1)) 0=u1 at *
 generalize u.getD (j+(m+2)) 0=u0 at *
 generalize v.getD m 0=y2 at *
 generalize v.getD (m+1) 0=y1 at *
 clear hun hvn hu hv
 rw[hLB]at *
 clear hLB
 obtain⟨top,htop⟩:∃ t,u0*1000000000+u1=t:=⟨_,rfl⟩
 rw[htop]at hE
 obtain⟨f1,f2,f3,f4⟩:=hE.first (by decide)
 have s1:=hE.half
 have s2:=hE.v1lt
 have s3:=hE.v20
 have s4:=hE.v21
 have s5:=hE.u20
 have s6:=hE.u21
 have s7:=hE.top0
 have s8:=hE.top1
 have s9:=hE.q0
 have HE:=LH hE
 clear hE
 have hw1:=Go.IntWalk.i64_in ((j:Int)+((m:Int)+2)) (by omega)
 have hw2:=Go.IntWalk.i64_in ((j:Int)+((m:Int)+2) - 1) (by omega)
 have hw3:=Go.IntWalk.i64_in (u0*1000000000) (by omega)
 have hw4:=Go.IntWalk.i64_in (u0*1000000000+u1) (by omega)
 have hw5:=Go.IntWalk.i64_in ((m:Int)+2 - 1) (by omega)
 have hw6:top.tdiv y1=top / y1:=Int.tdiv_eq_ediv_of_nonneg s7
 have hw7:top.tmod y1=top % y1:=Int.tmod_eq_emod_of_nonneg s7
 have hw8:=Go.IntWalk.i64_in (top / y1) (by omega)
 have hw9:=Go.IntWalk.i64_in (top % y1) (by omega)
 have hy0:(y1 == 0)=false:=by rw[beq_eq_false_iff_ne];omega
 go_enter Tryz.func271,Tryz.ntmps271
 go_wp2
 go_quiet (fail)
 go_wp2
 go_quiet (fail)
 clear hw3 hw4 hw6 hw7 hw8 hw9 htop
 have HS:=LH HE.out.start
 go_wp2
 go_loopw [9,10] (fun qv rv wr=>∃ q r:Int,qv=.int .i64 q∧rv=.int .i64 r∧Hid (EstInv X V y1 top q r)∧0≤r∧r<1000000000∧0≤q∧q≤1000000001∧Q w wr) (fun qv _ _=>(intOf qv).toNat)
 case atStart=>exact⟨_,_,rfl,rfl,HS,by omega,by omega,by omega,by omega,below_drewN (below_drewN (Below.refl _ _) _) _⟩
 case round =>
  obtain⟨q,r,rfl,rfl,HI,hr0,hr1,hq0,hq1,hQ⟩:=hrel
  have d0:=za hQ c0
  have e0:=za hQ k0
  have e1:=za hQ k1
  clear c0 c1 c2 k0 k1
  have hd2:decide (r<1000000000)=true:=by simpa using hr1
  have hw10:=Go.IntWalk.i64_in (r*1000000000) (by omega)
  have hw11:=Go.IntWalk.i64_in (r*1000000000+u2) (by omega)
  have hw12:=Go.IntWalk.i64_in ((m:Int)+2 - 2) (by omega)
  have hw13:=Go.IntWalk.i64_in ((j:Int)+((m:Int)+2) - 2) (by omega)
  have hm0:(0:Int)≤(m:Int):=by omega
  have hm2:(m:Int)<(m:Int)+2:=by omega
  have h2a:(2:Int)≤(j:Int)+((m:Int)+2):=by omega
  have h2b:(0:Int)≤(j:Int)+((m:Int)+2) - 2:=by omega
  have h2c:(0:Int)≤(j:Int)+(m:Int):=by omega
  have h2d:(j:Int)+((m:Int)+2) - 2<(un:Int):=by omega
  have h2e:((j:Int)+((m:Int)+2) - 2).toNat=j+m:=by omega
  have hwm:=Go.IntWalk.i64_in (m:Int) (by omega)
  by_cases hqB:1000000000≤q
  ·have hd1:decide (1000000000≤q)=true:=by simpa using hqB
   have hd3:True:=trivial
   have HC:Hid (1000000000≤q∨r*1000000000+u2<q*y2):=LH (.inl hqB)
   have hn:=LH (HE.out.next q r HI.out HC.out)
   have hq':=hn.out.ge
   have hx1:=Go.IntWalk.i64_in (q - 1) (by omega)
   have hx2:=Go.IntWalk.i64_in (r+y1) (by omega)
   have hq0:0≤q - 1:=by omega
   by_cases hbr:1000000000≤r+y1
   ·go_wp2
    go_quiet (fail)
    clear hd1 hd2 hd3 hw1 hw2 hw10 hw11 hw12 hw13
    go_wp2
    go_quiet (fail)
    clear hw5
    go_wp2
    go_ret
    exact⟨q - 1,rfl,hn.out.ge,hq0,by omega,below_drewN hQ _⟩
   ·have hbr2:r+y1<1000000000:=by omega
    go_wp2
    go_quiet (fail)
    clear hd1 hd2 hd3 hw1 hw2 hw10 hw11 hw12 hw13
    go_wp2
    go_quiet (fail)
    clear hw5
    go_wp2
    go_roundw
    case rel=>((repeat apply Exists.intro);exact⟨⟨q - 1,r+y1,rfl,rfl,hn,by omega,hbr2,hq0,by omega,below_drewN hQ _⟩,rfl⟩)
    case measure=>simp[intOf];omega
  ·have hd1:decide (1000000000≤q)=false:=by simpa using hqB
   have hqy:=ziE (B:=1000000000) hq0 (by omega) s3 s4
   have hw14:=Go.IntWalk.i64_in (q*y2) (by omega)
   by_cases hgt:r*1000000000+u2<q*y2
   ·have hd3:decide (r*1000000000+u2<q*y2)=true:=by simpa using hgt
    have HC:Hid (1000000000≤q∨r*1000000000+u2<q*y2):=LH (.inr hgt)
    clear hgt hqB
    have hn:=LH (HE.out.next q r HI.out HC.out)
    have hq':=hn.out.ge
    have hx1:=Go.IntWalk.i64_in (q - 1) (by omega)
    have hx2:=Go.IntWalk.i64_in (r+y1) (by omega)
    have hq0:0≤q - 1:=by omega
    by_cases hbr:1000000000≤r+y1
    ·go_wp2
     go_quiet (fail)
     clear hd1 hd2 hd3 hw1 hw2 hw10 hw11 hw12 hw13
     go_wp2
     go_quiet (fail)
     clear hw5
     go_wp2
     go_ret
     exact⟨q - 1,rfl,hn.out.ge,hq0,by omega,below_drewN hQ _⟩
    ·have hbr2:r+y1<1000000000:=by omega
     go_wp2
     go_quiet (fail)
     clear hd1 hd2 hd3 hw1 hw2 hw10 hw11 hw12 hw13
     go_wp2
     go_quiet (fail)
     clear hw5
     go_wp2
     go_roundw
     case rel=>((repeat apply Exists.intro);exact⟨⟨q - 1,r+y1,rfl,rfl,hn,by omega,hbr2,hq0,by omega,below_drewN hQ _⟩,rfl⟩)
     case measure=>simp[intOf];omega
   ·have hd3:decide (r*1000000000+u2<q*y2)=false:=by simpa using hgt
    have hge:=HI.out.ge
    have hge2:=LH hge
    clear hgt hge hqB hqy
    go_wp2
    go_quiet (fail)
    clear hd1 hd2 hd3 hw1 hw2 hw5 hw10 hw11 hw12 hw13 hw14
    go_wp2
    go_ret
    exact⟨q,rfl,hge2.out,hq0,by omega,below_drewN hQ _⟩
end
section
open Go.RowKit Go Kp
def KC(W W':World):Prop:=W.heap.size≤W'.heap.size∧∀ (k:Nat) (cs:Array Value) (t:TypeId) (f:Nat × Nat),W.heap[k]? = some (.cells cs t f)→W'.heap[k]? = some (.cells cs t f)
theorem KC.of{W W':World}{row:Option Nat}{B:Nat}(hg:W.grownBy W' row)(hr:∀ r,row=some r→B≤r∧∃ o:Obj,W.heap[r]? = some o∧o.isCells=false):KC W W' :=
 ⟨hg.size,fun k cs t f h=>by
  refine(hg.block k (Array.getElem?_eq_some_iff.1 h).1 (fun e=>?_)).trans h
  obtain⟨_,o,ho,hc⟩:=hr k e.symm
  rw[h]at ho
  cases ho
  cases hc⟩
theorem KC.put{W:World}{D:Nat}{o:Obj}(o':Obj)(h:W.heap[D]? = some o)(hc:o.isCells=false):KC W (W.putObj D o') :=
 KC.of (B:=0) (grownBy_putObj' W D o') (fun r e=>by cases e;exact⟨Nat.zero_le _,_,h,hc⟩)
theorem KC.alloc(W:World)(o:Obj):KC W (W.alloc o):=KC.of (B:=0) (World.grownBy_alloc W o none) (fun r e=>by cases e)
theorem KC.trans{A B C:World}(h:KC A B)(k:KC B C):KC A C:=⟨Nat.le_trans h.1 k.1,fun i cs t f hi=>k.2 i cs t f (h.2 i cs t f hi)⟩
theorem KC.q{W W':World}(h:Q W W'):KC W W':=⟨h.size,fun k _ _ _ hk=>(h.block k (Array.getElem?_eq_some_iff.1 hk).1).trans hk⟩
theorem zu{W W':World}{b:Nat}{t:TypeId}{v:Value}(h:Boxed W b t v)(k:KC W W'):Boxed W' b t v:=k.2 _ _ _ _ h
theorem Blk.kc{W W':World}{b:Nat}{cs:List Value}{t:TypeId}(h:Blk W b cs t)(k:KC W W'):Blk W' b cs t:=k.2 _ _ _ _ h
theorem zJ{W W':World}{base size n:Nat}{e:TypeId}{v:Value}{xs:List Value}(h:W.ownsRow base e size v n xs)(k:KC W W'):W'.ownsRow base e size v n xs:=by
 refine⟨h.1,h.2.elim Or.inl ?_⟩
 rintro⟨g,cap,cur,hv,hg,hc,r⟩
 exact Or.inr ⟨g,cap,cur,hv,hg,k.2 _ _ _ _ hc,r⟩
def zk9{α:Type}(B:Nat)(I:α→World→Prop):Prop:=∀ s W W',I s W→KC W W'→Below B W W'→I s W'
theorem zaQ{B D:Nat}{W:World}{o:Obj}(hD:B≤D)(h:W.heap[D]? = some o)(o':Obj):Below B W (W.putObj D o') :=
 (Below.refl B W).grown (grownBy_putObj' W D o') (Nat.le_trans hD (Nat.le_of_lt (Array.getElem?_eq_some_iff.1 h).1)) (fun k e=>by cases e;exact hD)
def zI(bs:List Nat)(W W':World):Prop:=∀ k∈bs,k<W.heap.size→W'.heap[k]? = W.heap[k]?
theorem zI.refl(bs:List Nat)(W:World):zI bs W W:=fun _ _ _=>rfl
theorem zI.trans{bs:List Nat}{A B C:World}(h:zI bs A B)(k:zI bs B C):zI bs A C:=fun i hi hlt=>by
 have h1:=h i hi hlt
 refine(k i hi ?_).trans h1
 obtain⟨o,ho⟩:∃ o,A.heap[i]? = some o:=⟨_,Array.getElem?_eq_getElem hlt⟩
 rw[ho]at h1
 exact(Array.getElem?_eq_some_iff.1 h1).1
theorem zI.cell{bs:List Nat}{W W':World}(h:zI bs W W'){b o:Nat}(hb:b∈bs){v:Value}(hc:W.cell? ⟨b,o,none⟩=some v):W'.cell? ⟨b,o,none⟩=some v:=by
 have hlt:=World.block_lt_of_cell? W _ hc
 have:=h b hb hlt
 simp only[World.cell?]at hc ⊢
 rw[this];exact hc
theorem zI.put{bs:List Nat}{D:Nat}(hD:∀ k∈bs,k<D)(W:World)(o:Obj):zI bs W (W.putObj D o):=fun k hk _=>World.putObj_heap_other (by have:=hD k hk;omega)
theorem zI.q{bs:List Nat}{W W':World}(h:Q W W'):zI bs W W':=fun k _ hlt=>h.block k hlt
theorem zI.set{bs:List Nat}(W:World){g:Nat}(hg:∀ k∈bs,k≠g)(i:Nat)(v:Value):zI bs W (W.setCell ⟨g,i,none⟩ v):=fun k hk _=>by
 have:¬ g=k:=fun e=>hg k hk e.symm
 simp[World.setCell,Array.getElem?_modify,this]
theorem zI.grown{bs:List Nat}{W W':World}{g:Nat}(h:W.grownBy W' (some g))(hg:∀ k∈bs,k≠g):zI bs W W':=fun k hk hlt=>h.block k hlt (fun e=>hg k hk (by injection e))
def zi8{α:Type}(m:Nat)(P:Program)(gf:Nat)(lb:Array Value)(encs:α→Array Value)(bs:List Nat)(Pc:List α→World→Prop)(nx:List α→α→Prop)(S Sp:List α→Prop)(w:World):Prop :=
 ∀ (l:Nat) (J Jx:List α→World→Prop) (W:World),Below w.heap.size w W→(∀ pre W,J pre W→Pc pre W) →
  (∀ pre x W1,J pre W1→nx pre x→YieldAt Fence.wide (m - 1) P l (encs x) W1 fun e W' =>
   (e=.returned (.bool true)∧J (pre++[x]) W'∧zI bs W1 W')∨(e=.returned (.bool false)∧Jx (pre++[x]) W')) →
  J [] W →
  CallsIn Fence.wide m P gf (#[.func (.yield l) #[] #[]]++lb) W fun e W'=>(∃ v,e=.returned v)∧((∃ xs,S xs∧J xs W')∨(∃ pre,Sp pre∧Jx pre W'))
section
variable {α:Type} {P:Program} {g:Operand} {ps:Array Tmp} {assign body:Code} {R:Exit→Act→World→Prop} {a:Act} {w:World} {m gf:Nat} {lb:Array Value} {bs:List Nat}
def roundEnd(B:Nat)(bs:List Nat)(I:List α→World→Prop)(Ix:Code→List α→World→Prop)(xs:List α)(W:World):Exit→Act→World→Prop
 | .normal,_,W'=>KeepsFrom B W W'∧zI bs W W'∧I xs W'
 | .ret,_,W'=>KeepsFrom B W W'∧Ix .ret xs W'
 | .exit id,_,W'=>KeepsFrom B W W'∧Ix (.exit id) xs W'
 | .goto t,_,W'=>KeepsFrom B W W'∧Ix (.goto t) xs W'
 | .panic _,_,_=>False
 | .outgrown,_,_=>False
theorem zaX(hm:1≤m)(hg:a.eval g=.func (.func gf) #[] lb)(eg:∀ args w,(callFunc gf args).run P w=.ok (.enter gf args) w)
  {encs:α→Array Value}{Pc:List α→World→Prop}{nx:List α→α→Prop}{S Sp:List α→Prop}(hseq:zi8 (m - 1) P gf lb encs bs Pc nx S Sp w)(hbs:∀ k∈bs,k<w.heap.size)(hps:∀ x,(encs x).size=ps.size)
  (I:List α→World→Prop)(Ix:Code→List α→World→Prop)(hPc:∀ pre W,I pre W→Pc pre W)(hI:zk9 w.heap.size I)(hIx:∀ c,zk9 w.heap.size (Ix c))(h0:I [] w)(a₁:α→Act)
  (hassign:∀ (l:Nat) (x:α) (W:World) (K:Act→World→Prop),K (a₁ x) W →
   assign.wpIn (Fence.wide.inRound l) (m - 1 - 1) P (Exit.then K (fun _ _ _=>False)) { tmps:=(ps.zip (encs x)).foldl (fun t (p,v)=>t.setIfInBounds p v) a.tmps,defers:=[] } W)
  (hbody:∀ (l:Nat) (pre:List α) (x:α) (W:World),I pre W→nx pre x→body.wpIn (Fence.wide.inRound l) (m - 1 - 1) P (roundEnd w.heap.size bs I Ix (pre++[x]) W) (a₁ x) W)
  (hdone:∀ (D:Nat) (xs:List α) (W:World),w.heap.size≤D→S xs→I xs W→W.heap[D]? = some (.deferred (some []))→R .normal { a with defers:={ target:=.collected D,args:=#[] }::a.defers } W)
  (hstop:∀ (D:Nat) (c:Code) (pre:List α) (W:World),w.heap.size≤D→Sp pre→Ix c pre W→W.heap[D]? = some (.deferred (some []))→c.wpIn Fence.wide m P R { a with defers:={ target:=.collected D,args:=#[] }::a.defers } W) :
  (Code.rangeFunc g ps assign body).wpIn Fence.wide m P R a w:=by
 refine wpIn_rangeFunc fun fn hfn=>?_
 obtain⟨D,hD⟩:∃ D,w.heap.size=D:=⟨_,rfl⟩
 let rec0:LoopState→Option Code→Loop:=fun st pe=>{ state:=st,pending:=pe,fn,tmps:=a.tmps,params:=ps,assign,body,defers:=D }
 let W1:=(w.alloc (.deferred (some []))).alloc (.loop (rec0 .ready none))
 have hsz:W1.heap.size=D+2:=by simp[W1,hD]
 have kD:W1.heap[D]? = some (.deferred (some [])):=by
  rw[← hD];exact(Below.heap_alloc _ _ _ (by simp)).trans (World.alloc_heap_new w _)
 have kL:W1.heap[D+1]? = some (.loop (rec0 .ready none)):=by
  rw[← hD];have:=World.alloc_heap_new (w.alloc (.deferred (some []))) (.loop (rec0 .ready none));rwa[World.size_alloc]at this
 have hb1:Below w.heap.size w W1:=((Below.refl _ w).alloc (Nat.le_refl _) _).alloc (by simp) _
 have hI1:I [] W1:=hI _ _ _ h0 ((KC.alloc _ _).trans (KC.alloc _ _)) hb1
 rw[hD]at hI hIx
 have put:∀ {I':List α→World→Prop} {s:List α} {W:World} {o:Obj} (o':Obj),zk9 D I'→I' s W→W.heap[D+1]? = some o→o.isCells=false→I' s (W.putObj (D+1) o') :=
  fun o' hS h hk hc=>hS _ _ _ h (KC.put o' hk hc) (zaQ (by omega) hk o')
 have same:∀ {W:World} {o:Obj} (o':Obj),W.heap[D+1]? = some o→(W.putObj (D+1) o').heap[D+1]? = some o':=fun o' hk=>World.putObj_heap_same (Array.getElem?_eq_some_iff.1 hk).1
 have keepD:∀ {W:World} {o:Obj} (o':Obj),W.heap[D]? = some o→(W.putObj (D+1) o').heap[D]? = some o:=fun o' hk=>(World.putObj_heap_other (by omega)).trans hk
 refine⟨D+1,[{ target:=.collected D,args:=#[] }],W1,{ target:=.fn (.func gf) lb,args:=#[.func (.yield (D+1)) #[] #[]] },W1,gf,#[.func (.yield (D+1)) #[] #[]]++lb,W1,?_,?_,fun _ _=>trivial,?_,fun _=>hm,?_⟩
 ·have:=run_enterLoop_outer (P:=P) (w:=w) fn a.tmps ps assign body
  rw[hD]at this
  exact this
 ·simp only[resolve,hg]
  simp[go_sem]
 ·simp[invoke,go_sem,eg]
 refine(hseq (D+1) (fun pre W=>I pre W∧W.heap[D+1]? = some (.loop (rec0 .ready none))∧W.heap[D]? = some (.deferred (some [])))
  (fun pre W=>∃ c,Ix c pre W∧W.heap[D+1]? = some (.loop (rec0 .done (some c)))∧W.heap[D]? = some (.deferred (some []))) W1 hb1 (fun pre W h=>hPc pre W h.1) ?_ ⟨hI1,kL,kD⟩).mono ?_
 ·rintro pre x W ⟨hi,hl,hk⟩ hnx
  have hy:=run_yield (P:=P) (args:=encs x) hl (hps x)
  refine⟨fn,_,assign,body,hy,roundIn_of_wpIn hfn (hassign _ x W _ ⟨_,run_beginRound hl rfl,?_⟩)⟩
  have hl2:=same (.loop { rec0 .ready none with state:=.busy }) hl
  have hk2:=keepD (.loop { rec0 .ready none with state:=.busy }) hk
  have hbs':∀ k∈bs,k<D+1:=fun k hk=>by have:=hbs k hk;omega
  have hw2:zI bs W (W.putObj (D+1) (.loop { rec0 .ready none with state:=.busy })):=zI.put hbs' _ _
  refine wpIn_mono (hbody _ pre x _ (put _ hI hi hl rfl) hnx) ?_
  have fin:∀ (jump:Option Code) (W3:World),KeepsFrom w.heap.size (W.putObj (D+1) (.loop { rec0 .ready none with state:=.busy })) W3 →
    (Instr.endRound (D+1) jump).run P W3=.ok (.bool jump.isNone) (W3.putObj (D+1) (.loop (rec0 (if jump.isNone then .ready else .done) jump))) ∧
    W3.heap[D+1]? = some (.loop { rec0 .ready none with state:=.busy })∧W3.heap[D]? = some (.deferred (some [])):=fun jump W3 hk3=>by
   have hl3:=hk3.same _ _ (by omega) hl2 rfl
   exact⟨run_endRound (P:=P) jump hl3,hl3,hk3.same _ _ (by omega) hk2 rfl⟩
  rintro e a3 W3 hp
  cases e with
  | normal =>
   obtain⟨hk3,hb3,hi3⟩:=hp
   obtain⟨hr,hl3,hd3⟩:=fin none W3 hk3
   exact⟨_,_,hr,.inl ⟨rfl,⟨put _ hI hi3 hl3 rfl,same _ hl3,keepD _ hd3⟩,(hw2.trans hb3).trans (zI.put hbs' _ _)⟩⟩
  | ret =>
   obtain⟨hr,hl3,hd3⟩:=fin (some .ret) W3 hp.1
   exact⟨_,_,hr,.inr ⟨rfl,.ret,put _ (hIx _) hp.2 hl3 rfl,same _ hl3,keepD _ hd3⟩⟩
  | exit id =>
   obtain⟨hr,hl3,hd3⟩:=fin (some (.exit id)) W3 hp.1
   exact⟨_,_,hr,.inr ⟨rfl,.exit id,put _ (hIx _) hp.2 hl3 rfl,same _ hl3,keepD _ hd3⟩⟩
  | goto t =>
   obtain⟨hr,hl3,hd3⟩:=fin (some (.goto t)) W3 hp.1
   exact⟨_,_,hr,.inr ⟨rfl,.goto t,put _ (hIx _) hp.2 hl3 rfl,same _ hl3,keepD _ hd3⟩⟩
  | panic ch=>exact hp.elim
  | outgrown=>exact hp.elim
 ·rintro e W2 ⟨⟨v,rfl⟩,(⟨xs,hS,hi,hl,hk⟩|⟨pre,hSp,c,hi,hl,hk⟩)⟩
  ·exact⟨none,_,run_endLoop (P:=P) hl (by simp[rec0]),hdone D xs _ (by omega) hS (put _ hI hi hl rfl) (keepD _ hk)⟩
  ·exact⟨some c,_,run_endLoop (P:=P) hl (by simp[rec0]),hstop D c pre _ (by omega) hSp (put _ (hIx c) hi hl rfl) (keepD _ hk)⟩
end
end
section
open Go.RowKit Kp
def zp5(zs:List Int)(pre:List (Plc zs))(x:Plc zs):Prop:=Down zs pre.length pre∧x.1=zs.length - 1 - pre.length∧pre.length<zs.length
theorem zmm(F:Fence)(n:Nat)(h7:F.fn 307)(hro:F.round=none)(hn:1≤n)(l Bs b off cap:Nat)(ao:Option Addr)(zs:List Int)(hreach:zs.length≤1000000)(hao:0<zs.length→ao=some ⟨b,off,none⟩)(J Jx:List (Plc zs)→World→Prop)
  (hY:∀ pre x W,J pre W→zp5 zs pre x→YieldAt F (n - 1) Tryz.prog l (zlG zs x) W fun e W' =>
   (e=.returned (.bool true)∧J (pre++[x]) W'∧zI [Bs,b] W W')∨(e=.returned (.bool false)∧Jx (pre++[x]) W'))
  (W:World) (hBs:W.cell? ⟨Bs,0,none⟩=some (.slice ao zs.length cap)) (hc:∀ j,j<zs.length→W.cell? ⟨b,off+j,none⟩=some (.int .i64 (zs.getD j 0))) (h0:J [] W) :
  CallsIn F n Tryz.prog 307 #[.func (.yield l) #[] #[],.pointer (some ⟨Bs,0,none⟩)] W fun e W'=>(∃ v,e=.returned v) ∧
   ((∃ ys,Down zs zs.length ys∧J ys W')∨(∃ pre,(∃ k,k≤zs.length∧Down zs k pre)∧Jx pre W')):=by
 refine callsIn_of_wp Tryz.func307 rfl h7 ?_ hro
 simp only[Tryz.ntmps307,List.size_toArray,List.length_cons,List.length_nil,Nat.reduceAdd,Nat.reduceSub,Array.replicate_succ,Array.replicate_zero,List.push_toArray,List.append_toArray,List.nil_append,List.cons_append]
 gi_wp2
 gi_loopw [3] (fun i wr=>∃ k:Nat,k≤zs.length∧i=.int .i64 ((zs.length:Int) - 1 - k)∧(∃ pre,Down zs k pre∧J pre wr)∧zI [Bs,b] W wr)
  (fun i _=>(intOf i+1).toNat)
 case atStart=>exact⟨0,Nat.zero_le _,by simp,⟨[],rfl,h0⟩,zI.refl _ _⟩
 case round =>
  obtain⟨k,hk,rfl,⟨pre,hpre,hJs⟩,hnx⟩:=hrel
  have hBs2:=hnx.cell (by simp) hBs
  by_cases hlt:k<zs.length
  ·obtain rfl:=hao (by omega)
   obtain⟨m,hm⟩:∃ m:Nat,zs.length - 1 - k=m:=⟨_,rfl⟩
   have hmi:(zs.length:Int) - 1 - k=(m:Int):=by omega
   have hcx:=hnx.cell (by simp) (hc m (by omega))
   have hml:(m:Int)<(zs.length:Int):=by omega
   have hm0:(0:Int)≤(m:Int):=by omega
   have hYk:=hY pre ⟨m,by omega⟩ wr hJs ⟨by rw[hpre.len];exact hpre,by rw[hpre.len];exact hm.symm,by rw[hpre.len];exact hlt⟩
   have hnext:=hpre.next ⟨m,by omega⟩ hm.symm
   unfold zlG at hYk
   simp only at hYk
   obtain⟨fn,tmps,assign,body,hy,hR⟩:=hYk
   rw[hmi]
   generalize hzm:zs.getD m 0=x at *
   gi_wp2
   refine hR.mono ?_
   rintro e W3 (⟨rfl,hJ3,hk3⟩|⟨rfl,hJx3⟩)
   ·gi_wp2
    go_roundw
    case rel=>exact⟨k+1,by omega,by go_num,⟨_,hnext,hJ3⟩,hnx.trans hk3⟩
    case measure=>(simp[intOf])
   ·gi_wp2
    refine bodyPost_ret (results_none rfl _ _ _) rfl ?_
    exact⟨⟨_,rfl⟩,.inr ⟨_,⟨k+1,by omega,hnext⟩,hJx3⟩⟩
  ·obtain rfl:k=zs.length:=by omega
   have hend:(zs.length:Int) - 1 - (zs.length:Nat) = -1:=by omega
   rw[hend]
   gi_wp2
   go_end0
   exact⟨⟨_,rfl⟩,.inl ⟨_,hpre,hJs⟩⟩
theorem zgB(Bs b off cap:Nat)(ao:Option Addr)(zs:List Int)(hlen:zs.length≤1000000)(w:World)(hao:0<zs.length→ao=some ⟨b,off,none⟩)(m:Nat)(hm:1≤m)
  (hBs:w.cell? ⟨Bs,0,none⟩=some (.slice ao zs.length cap))(hc:∀ j,j<zs.length→w.cell? ⟨b,off+j,none⟩=some (.int .i64 (zs.getD j 0))) :
  zi8 m Tryz.prog 307 #[.pointer (some ⟨Bs,0,none⟩)] (zlG zs) [Bs,b] (fun _ _=>True) (zp5 zs) (fun ys=>Down zs zs.length ys) (fun pre=>∃ k,k≤zs.length∧Down zs k pre) w:=fun l J Jx W hW _ hY h0=>by
 refine(zmm Fence.wide m trivial rfl hm l Bs b off cap ao zs hlen hao J Jx hY W (za hW hBs) (fun j hj=>za hW (hc j hj)) h0).mono ?_
 rintro e W'⟨hv,⟨ys,hys,hJ⟩|⟨pre,hp,hJx⟩⟩
 ·exact⟨hv,.inl ⟨_,hys,hJ⟩⟩
 ·exact⟨hv,.inr ⟨pre,hp,hJx⟩⟩
def zsC(zs:List Int)(x:Plc zs):Array Value:=#[.int .i64 (x.1:Nat),.int .i64 (nth zs x.1)]
theorem zfl(Bs b off cap:Nat)(ao:Option Addr)(zs:List Int)(hlen:zs.length≤1000000)(w:World)(hao:0<zs.length→ao=some ⟨b,off,none⟩)(m:Nat)(hm:1≤m)
  (hBs:w.cell? ⟨Bs,0,none⟩=some (.slice ao zs.length cap))(hc:∀ j,j<zs.length→w.cell? ⟨b,off+j,none⟩=some (.int .i64 (zs.getD j 0))) :
  zi8 m Tryz.prog 307 #[.pointer (some ⟨Bs,0,none⟩)] (zsC zs) [Bs,b] (fun _ _=>True) (zp5 zs) (fun ys=>Down zs zs.length ys) (fun pre=>∃ k,k≤zs.length∧Down zs k pre) w :=
 zgB Bs b off cap ao zs hlen w hao m hm hBs hc
abbrev PlN(N:Nat):={ i:Nat // i<N }
def zhO{N:Nat}(k:Nat)(pre:List (PlN N)):Prop:=pre.map (·.1)=zhA (fun j=>N - 1 - j) k
theorem zhO.len{N k:Nat}{pre:List (PlN N)}(h:zhO k pre):pre.length=k:=by
 have:=congrArg List.length h
 rw[List.length_map,zeu]at this;exact this
theorem zhO.next{N k:Nat}{pre:List (PlN N)}(h:zhO k pre)(x:PlN N)(hx:x.1=N - 1 - k):zhO (k+1) (pre++[x]):=by
 unfold zhO at h ⊢
 rw[zgH,List.map_append,h];simp[hx]
def zp4{N:Nat}(pre:List (PlN N))(x:PlN N):Prop:=zhO pre.length pre∧x.1=N - 1 - pre.length∧pre.length<N
theorem zjy(F:Fence)(n:Nat)(h7:F.fn 307)(hro:F.round=none)(hn:1≤n)(l Bs b off cap:Nat)(ao:Option Addr)(N:Nat)(hreach:N≤1000000)(hao:0<N→ao=some ⟨b,off,none⟩)(J Jx:List (PlN N)→World→Prop)
  (hP:∀ pre W,J pre W→pre.length<N→W.cell? ⟨b,off+(N - 1 - pre.length),none⟩=some (.int .i64 0)) (hY:∀ pre x W,J pre W→zp4 pre x→YieldAt F (n - 1) Tryz.prog l #[.int .i64 (x.1:Nat),.int .i64 0] W fun e W' =>
   (e=.returned (.bool true)∧J (pre++[x]) W'∧zI [Bs] W W')∨(e=.returned (.bool false)∧Jx (pre++[x]) W'))
  (W:World) (hBs:W.cell? ⟨Bs,0,none⟩=some (.slice ao N cap)) (h0:J [] W) :
  CallsIn F n Tryz.prog 307 #[.func (.yield l) #[] #[],.pointer (some ⟨Bs,0,none⟩)] W fun e W'=>(∃ v,e=.returned v) ∧
   ((∃ ys,zhO N ys∧J ys W')∨(∃ pre,(∃ k,k≤N∧zhO k pre)∧Jx pre W')):=by
 refine callsIn_of_wp Tryz.func307 rfl h7 ?_ hro
 simp only[Tryz.ntmps307,List.size_toArray,List.length_cons,List.length_nil,Nat.reduceAdd,Nat.reduceSub,Array.replicate_succ,Array.replicate_zero,List.push_toArray,List.append_toArray,List.nil_append,List.cons_append]
 gi_wp2
 gi_loopw [3] (fun i wr=>∃ k:Nat,k≤N∧i=.int .i64 ((N:Int) - 1 - k)∧(∃ pre,zhO k pre∧J pre wr)∧zI [Bs] W wr)
  (fun i _=>(intOf i+1).toNat)
 case atStart=>exact⟨0,Nat.zero_le _,by simp,⟨[],rfl,h0⟩,zI.refl _ _⟩
 case round =>
  obtain⟨k,hk,rfl,⟨pre,hpre,hJs⟩,hnx⟩:=hrel
  have hBs2:=hnx.cell (by simp) hBs
  by_cases hlt:k<N
  ·obtain rfl:=hao (by omega)
   obtain⟨m,hm⟩:∃ m:Nat,N - 1 - k=m:=⟨_,rfl⟩
   have hmi:(N:Int) - 1 - k=(m:Int):=by omega
   have hcx:=hP pre wr hJs (by rw[hpre.len];exact hlt)
   rw[hpre.len,hm]at hcx
   have hml:(m:Int)<(N:Int):=by omega
   have hm0:(0:Int)≤(m:Int):=by omega
   have hYk:=hY pre ⟨m,by omega⟩ wr hJs ⟨by rw[hpre.len];exact hpre,by rw[hpre.len];exact hm.symm,by rw[hpre.len];exact hlt⟩
   have hnext:=hpre.next ⟨m,by omega⟩ hm.symm
   obtain⟨fn,tmps,assign,body,hy,hR⟩:=hYk
   rw[hmi]
   gi_wp2
   refine hR.mono ?_
   rintro e W3 (⟨rfl,hJ3,hk3⟩|⟨rfl,hJx3⟩)
   ·gi_wp2
    go_roundw
    case rel=>exact⟨k+1,by omega,by go_num,⟨_,hnext,hJ3⟩,hnx.trans hk3⟩
    case measure=>(simp[intOf])
   ·gi_wp2
    refine bodyPost_ret (results_none rfl _ _ _) rfl ?_
    exact⟨⟨_,rfl⟩,.inr ⟨_,⟨k+1,by omega,hnext⟩,hJx3⟩⟩
  ·obtain rfl:k=N:=by omega
   have hend:(k:Int) - 1 - (k:Nat) = -1:=by omega
   rw[hend]
   gi_wp2
   go_end0
   exact⟨⟨_,rfl⟩,.inl ⟨_,hpre,hJs⟩⟩
theorem zk6(Bs b cap N:Nat)(hlen:N≤1000000)(w:World)(m:Nat)(hm:1≤m)(hBs:w.cell? ⟨Bs,0,none⟩=some (.slice (some ⟨b,0,none⟩) N cap)) :
  zi8 m Tryz.prog 307 #[.pointer (some ⟨Bs,0,none⟩)] (fun x:PlN N=>#[.int .i64 (x.1:Nat),.int .i64 0]) [Bs] (fun pre W=>pre.length<N→W.cell? ⟨b,N - 1 - pre.length,none⟩=some (.int .i64 0)) zp4 (fun ys=>zhO N ys) (fun pre=>∃ k,k≤N∧zhO k pre) w:=fun l J Jx W hW hP hY h0=>by
 refine(zjy Fence.wide m trivial rfl hm l Bs b 0 cap _ N hlen (fun _=>rfl) J Jx (fun pre W h1 h2=>by rw[Nat.zero_add];exact hP pre W h1 h2) hY W (za hW hBs) h0).mono ?_
 rintro e W'⟨hv,⟨ys,hys,hJ⟩|⟨pre,hp,hJx⟩⟩
 ·exact⟨hv,.inl ⟨_,hys,hJ⟩⟩
 ·exact⟨hv,.inr ⟨pre,hp,hJx⟩⟩
end
section
open Go.RowKit Go Kp
theorem zaH{P:Program}{l:List Oper}{R:Exit→Act→World→Prop}{md:Region.Mode}{n i:Nat}{oi:Oper}{f:Nat}{ls:Array Bool}{a:Act}{w:World}(val:World→Value)(o:Obj)(hi:l[i]? = some oi)(hin:decide (i<n)=true)
  (hr:Region.ready md l.toArray ls=[i])(hw:Region.wanted oi (yielded l.toArray a.tmps)=true)
  (hx:∀ w',Q w w'→(execOp a.eval oi).run P w'=.ok (.value (val w')) (w'.alloc o))
  (h:∀ w',Q w w'→zl P md l R n f (ls.setIfInBounds i true) (a.put oi.dst (val w')) (w'.alloc o)):zl P md l R n (f+1) ls a w :=
 zad hi hin hr hw fun w' hq K hK=>by
  unfold Oper.wp
  rw[hx w' hq]
  exact hK _ _ ((Below.refl _ _).alloc (Nat.le_refl _) _) (h w' hq)
def zfF(ops:Array Oper):Bool:=ops.all fun o=>match o.op with | .defer _=>false | _=>true
theorem zlN{ops:Array Oper}(h:zfF ops=true){i:Nat}{o:Oper}(hi:ops[i]? = some o)(c:Call):o.op≠.defer c:=by
 intro e
 unfold zfF at h
 rw[Array.all_eq_true]at h
 obtain⟨hlt,rfl⟩:=Array.getElem?_eq_some_iff.1 hi
 have:=h i hlt
 rw[e]at this
 cases this
def zbC(K:Act→World→Prop):Exit→Act→World→Prop
 | .normal,a,w=>K a w
 | _,_,_=>False
theorem zgu(K:Act→World→Prop):¬ LetsOut (zbC K):=fun⟨_,_,h⟩=>h
theorem ziW{P:Program}{c:Code}{R:Exit→Act→World→Prop}{a:Act}{w:World}(h:c.wp P (zbC fun a w=>R .normal a w) a w):c.wp P R a w :=
 wp_mono h fun e a w he=>by
  cases e with
  | normal=>exact he
  | _=>exact he.elim
section
variable {P:Program} {ops:Array Oper} {K:Act→World→Prop} {R:Exit→Act→World→Prop} {m l:Nat}
theorem zpN{row:String}{args:Array Value}{w:World}{S:Value→World→Prop}(h:Rows P row args w S):RowsIn (Fence.wide.inRound l) m P row args w S:=fun c cs _=>by
 obtain⟨v,w',hs,st⟩:=h c cs
 exact⟨v,w',hs,stepsIn_wide.2 st⟩
theorem zoe(hnd:zfF ops=true){i:Nat}{N:Act→World→Prop}{a:Act}{w:World}(h:wpOp P ops (zbC K) i N a w):wpOpIn (Fence.wide.inRound l) m P ops R i N a w:=by
 unfold wpOp at h
 unfold wpOpIn
 split
 ·next he=>simp only[he]at h;exact h
 ·next o ho =>
  simp only[ho]at h
  split
  ·next hw =>
   rw[if_pos hw]at h
   rcases h with h | ⟨_,h⟩
   ·refine⟨fun _ _=>trivial,?_⟩
    rw[show (Fence.wide.inRound l).round=some l from rfl,Oper.semAt_some l a.eval o (zlN hnd ho)]
    unfold Oper.wp at h
    generalize (execOp a.eval o).run P w=r at h ⊢
    match r,h with
    | .ok (.value v) w',h=>exact h
    | .ok .skip w',h=>exact h
    | .ok (.defer d) w',h=>exact h
    | .ok (.enter f args) w',h =>
     refine⟨fun hd=>(by cases hd),CallsIn.inRound l (callsIn_wide.2 (Calls.mono h fun e w'' he=>?_))⟩
     match e,he with
     | .returned v,he=>exact he
     | .panicked c,he=>exact he.elim
     | .outgrown,he=>exact absurd he (zgu K)
    | .ok (.row row args) w',h=>exact⟨fun hd=>(by cases hd),zpN h⟩
    | .halt x w',h =>
     cases x <;> first | exact h.elim | exact False.elim h
   ·exact absurd h (zgu K)
  ·next hw =>
   rw[if_neg hw]at h
   exact⟨fun _ _=>trivial,h⟩
theorem zdV(hnd:zfF ops=true)(hR:∀ a w,K a w→R .normal a w){md:Region.Mode}:∀ (f:Nat) (ls:Array Bool) (a:Act) (w:World),wpAny P md ops (zbC K) f ls a w→wpAnyIn (Fence.wide.inRound l) m P md ops R f ls a w
 | 0,_,_,_,h=>⟨h.1,hR _ _ h.2⟩
 | f+1,_,_,_,h=>⟨fun h0=>hR _ _ (h.1 h0),fun i hi=>wpOpIn_mono (fun a w=>zdV hnd hR f _ a w) (zoe hnd (h.2 i hi))⟩
theorem zaG{l0:List Oper}(n:Nat){id:Nat}{a:Act}{w:World}(hm:P.follows .mixedOrders=true)(hB:zeb .any l0.toArray n=true)(hn:decide (n≤l0.length)=true)(hnd:zfF l0.toArray=true)
  (h:zl P .any l0 (zbC fun a w=>R .normal a w) n n (Array.replicate l0.toArray.size false) a w.drew):(Code.region id l0.toArray true).wpIn (Fence.wide.inRound l) m P R a w:=by
 have hn':n≤l0.length:=by simpa using hn
 have inv0:HeadInv .any l0.toArray n (Array.replicate l0.toArray.size false) :=
  ⟨by simp,fun j oj _ hl=>(by rw[getD_replicate_false]at hl;cases hl),fun t _ ht=>getD_in (by simpa using ht) (getD_replicate_false _ _)⟩
 refine wpIn_region_any hm (zdV hnd (fun _ _ h=>h) _ _ _ _ ?_)
 have:=Walks.any hn' (h hB inv0)
 rwa[show n+(l0.toArray.size - n)=l0.toArray.size by simp;omega]at this
end
structure Rel where
 r:World→World→Prop
 refl:∀ w,r w w
 trans:∀ {a b c:World},r a b→r b c→r a c
namespace RE
section
variable {ρ:Rel} {P:Program} {l:List Oper} {R:Exit→Act→World→Prop} {md:Region.Mode} {n:Nat}
def Walks(ρ:Rel)(P:Program)(md:Region.Mode)(l:List Oper)(R:Exit→Act→World→Prop)(n:Nat):Nat→Array Bool→Act→World→Prop
 | 0,ls,a,w=>Region.seqB md l.toArray (l.toArray.size - n) n ls=true∧∀ w',ρ.r w w'→wpList P l.toArray R (l.drop n) a w'
 | f+1,ls,a,w=>Region.ready md l.toArray ls≠[] ∧
  ∀ i∈Region.ready md l.toArray ls,i<n∧∀ w',ρ.r w w'→wpOp P l.toArray R i (fun a' w''=>ρ.r w' w''∧Walks ρ P md l R n f (ls.setIfInBounds i true) a' w'') a w'
theorem Walks.later:∀ {f:Nat} {ls:Array Bool} {a:Act} {w w':World},Walks ρ P md l R n f ls a w→ρ.r w w'→Walks ρ P md l R n f ls a w'
 | 0,_,_,_,_,h,hq=>⟨h.1,fun _ h1=>h.2 _ (ρ.trans hq h1)⟩
 | _+1,_,_,_,_,h,hq=>⟨h.1,fun i hi=>⟨(h.2 i hi).1,fun _ h1=>(h.2 i hi).2 _ (ρ.trans hq h1)⟩⟩
theorem Walks.any(hn:n≤l.length):∀ {f:Nat} {ls:Array Bool} {a:Act} {w:World},Walks ρ P md l R n f ls a w→wpAny P md l.toArray R (f+(l.toArray.size - n)) ls a w
 | 0,ls,a,w,h=>by
  rw[Nat.zero_add]
  have hd:(l.drop n).length=l.toArray.size - n:=by simp
  have:=wpAny_of_seq (md:=md) (Q':=R) (l.drop n) n ls a w (fun j=>by simp[List.getElem?_drop]) (by rw[hd];exact h.1) (h.2 w (ρ.refl w))
  rwa[hd]at this
 | f+1,ls,a,w,h=>by
  rw[show f+1+(l.toArray.size - n)=(f+(l.toArray.size - n))+1 by omega]
  exact⟨fun e=>absurd e h.1,fun i hi=>wpOp_mono (fun _ _ h'=>Walks.any hn h'.2) ((h.2 i hi).2 w (ρ.refl w))⟩
def Does(ρ:Rel)(P:Program)(ops:Array Oper)(o:Oper)(v:Value)(a:Act)(w:World):Prop :=
 (Region.wanted o (yielded ops a.tmps)=true∧∀ w',ρ.r w w'→(execOp a.eval o).run P w'=.ok (.value v) w') ∨
 (Region.wanted o (yielded ops a.tmps)=true∧∃ f args,(∀ w',ρ.r w w'→(execOp a.eval o).run P w'=.ok (.enter f args) w')∧∀ w',ρ.r w w'→Calls P f args w' fun e w''=>e=.returned v∧ρ.r w' w'') ∨
 (Region.wanted o (yielded ops a.tmps)=false∧v=undef)
theorem Does.alike{ops:Array Oper}{o:Oper}{v:Value}{a a':Act}{w w':World}(h:Does ρ P ops o v a w)(ha:Alike ops o a a')(hq:ρ.r w w'):Does ρ P ops o v a' w':=by
 unfold Does
 rw[ha.1,ha.2]
 rcases h with⟨h1,h2⟩|⟨h1,f,args,h2,h3⟩ | h
 ·exact .inl ⟨h1,fun w2 h=>h2 w2 (ρ.trans hq h)⟩
 ·exact .inr (.inl ⟨h1,f,args,fun w2 h=>h2 w2 (ρ.trans hq h),fun w2 h=>h3 w2 (ρ.trans hq h)⟩)
 ·exact .inr (.inr h)
theorem Does.wpOp{ops:Array Oper}{i:Nat}{o:Oper}{v:Value}{a:Act}{w w':World}(h:Does ρ P ops o v a w)(hi:ops[i]? = some o)(hq:ρ.r w w'){K:Act→World→Prop}
  (hK:∀ w'',ρ.r w' w''→K (a.put o.dst v) w''):wpOp P ops R i K a w':=by
 unfold Go.wpOp
 simp only[hi]
 rcases h with⟨h1,h2⟩|⟨h1,f,args,h2,h3⟩|⟨h1,rfl⟩
 ·rw[if_pos h1]
  left
  unfold Oper.wp
  rw[h2 w' hq]
  exact hK w' (ρ.refl w')
 ·rw[if_pos h1]
  left
  unfold Oper.wp
  rw[h2 w' hq]
  refine(h3 w' hq).mono fun e w'' he=>?_
  obtain⟨rfl,hq'⟩:=he
  exact hK w'' hq'
 ·rw[if_neg (by simp[h1])]
  exact hK w' (ρ.refl w')
theorem zcX{i:Nat}{oi:Oper}{v:Value}(hi:l.toArray[i]? = some oi)(hB:zeb md l.toArray n=true)(hin:i<n)
  (hR:∀ c a w,R (.panic c) (a.put oi.dst v) w→R (.panic c) a w) :
  ∀ (f:Nat) (ls:Array Bool) (a:Act) (w:World),HeadInv md l.toArray n ls →
   (∀ j oj,l.toArray[j]? = some oj→j≠i→ls.getD j true=false→(∀ e∈oj.after,Region.binds md e=true→e.on≠i)→oi.apart l.toArray oj=true) →
   i∈Region.ready md l.toArray ls→Does ρ P l.toArray oi v a w →
   Walks ρ P md l R n f (ls.setIfInBounds i true) (a.put oi.dst v) w→Walks ρ P md l R n (f+1) ls a w:=by
 intro f
 induction f with
 | zero =>
  intro ls a w inv _ hr hd H
  refine⟨fun h=>(by rw[h]at hr;cases hr),fun j hj=>⟨zbQ hB inv hin hr j hj,fun w' hq=>?_⟩⟩
  by_cases hji:j=i
  ·subst hji
   exact hd.wpOp hi hq fun w'' hq'=>⟨hq',Walks.later (f:=0) H (ρ.trans hq hq')⟩
  ·have h1:=zbQ hB inv hin hr j hj
   have h2:=seqB_ready H.1 j (ready_mono hj hji)
   omega
 | succ f ih =>
  intro ls a w inv hf hr hd H
  refine⟨fun h=>(by rw[h]at hr;cases hr),fun j hj=>?_⟩
  have hjn:=zbQ hB inv hin hr j hj
  refine⟨hjn,fun w' hq=>?_⟩
  by_cases hji:j=i
  ·subst hji
   exact hd.wpOp hi hq fun w'' hq'=>⟨hq',H.later (ρ.trans hq hq')⟩
  ·have h1:=(H.2 j (ready_mono hj hji)).2 w' hq
   obtain⟨hjun,oj,hoj,hall⟩:=mem_ready.1 hj
   have hno:∀ e∈oj.after,Region.binds md e=true→e.on≠i:=fun e he hb heq=>by
    have h1:=hall e he hb
    rw[heq,getD_both (mem_ready.1 hr).1]at h1
    cases h1
   have h2:=zeY hoj (hf j oj hoj hji hjun hno) (fun cs b=>zcE hB i oi cs b hi) (fun cs b=>zcE hB j oj cs b hoj) hR h1
   have hf':∀ k ok,l.toArray[k]? = some ok→k≠i→(ls.setIfInBounds j true).getD k true=false →
     (∀ e∈ok.after,Region.binds md e=true→e.on≠i)→oi.apart l.toArray ok=true:=fun k ok hk hki hun hn=>by
    by_cases hjk:j=k
    ·subst hjk;exact hf j ok hk hki hjun hn
    ·rw[getD_set_ne true hjk]at hun
     exact hf k ok hk hki hun hn
   refine wpOp_mono (fun a' w'' h3=>⟨h3.2.1,ih (ls.setIfInBounds j true) a' w'' (inv.set hj hjn) hf' (ready_mono hr (Ne.symm hji)) (hd.alike h3.1 (ρ.trans hq h3.2.1)) ?_⟩) h2
   rw[Array.setIfInBounds_comm _ _ hji]
   exact h3.2.2
def zl(ρ:Rel)(P:Program)(md:Region.Mode)(l:List Oper)(R:Exit→Act→World→Prop)(n f:Nat)(ls:Array Bool)(a:Act)(w:World):Prop :=
 zeb md l.toArray n=true→HeadInv md l.toArray n ls→Walks ρ P md l R n f ls a w
theorem zn(n:Nat){id:Nat}{a:Act}{w:World}(hm:P.follows .mixedOrders=true)(hB:zeb .any l.toArray n=true)(hn:decide (n≤l.length)=true)
  (h:zl ρ P .any l R n n (Array.replicate l.toArray.size false) a w.drew):(Code.region id l.toArray true).wp P R a w:=by
 have hn':n≤l.length:=by simpa using hn
 have inv0:HeadInv .any l.toArray n (Array.replicate l.toArray.size false) :=
  ⟨by simp,fun j oj _ hl=>(by rw[getD_replicate_false]at hl;cases hl),fun t _ ht=>getD_in (by simpa using ht) (getD_replicate_false _ _)⟩
 refine wp_region_any hm ?_
 have:=Walks.any hn' (h hB inv0)
 rwa[show n+(l.toArray.size - n)=l.toArray.size by simp;omega]at this
theorem zT{i:Nat}{oi:Oper}{v:Value}{f:Nat}{ls:Array Bool}{a:Act}{w:World}(hi:l[i]? = some oi)(hin:decide (i<n)=true)
  (hf:Region.free md l.toArray ls i=true)(hr:(Region.ready md l.toArray ls).contains i=true)
  (hR:∀ c a w,R (.panic c) (a.put oi.dst v) w→R (.panic c) a w)(hd:Does ρ P l.toArray oi v a w)
  (h:zl ρ P md l R n f (ls.setIfInBounds i true) (a.put oi.dst v) w):zl ρ P md l R n (f+1) ls a w:=fun hB inv=>by
 have hr':i∈Region.ready md l.toArray ls:=by simpa using hr
 have hin':i<n:=by simpa using hin
 exact zcX (zbV hi) hB hin' hR f ls a w inv (Region.free_spec (zbV hi) hf) hr' hd (h hB (inv.set hr' hin'))
theorem zS{i:Nat}{oi:Oper}{v:Value}{f:Nat}{ls:Array Bool}{a:Act}{w:World}(hi:l[i]? = some oi)(hin:decide (i<n)=true)
  (hf:Region.free md l.toArray ls i=true)(hr:(Region.ready md l.toArray ls).contains i=true)
  (hR:∀ c a w,R (.panic c) (a.put oi.dst v) w→R (.panic c) a w)(hw:Region.wanted oi (yielded l.toArray a.tmps)=true)
  (hx:∀ w',ρ.r w w'→(execOp a.eval oi).run P w'=.ok (.value v) w')
  (h:zl ρ P md l R n f (ls.setIfInBounds i true) (a.put oi.dst v) w):zl ρ P md l R n (f+1) ls a w :=
 zT hi hin hf hr hR (.inl ⟨hw,hx⟩) h
theorem zbl{i:Nat}{oi:Oper}{f:Nat}{ls:Array Bool}{a:Act}{w:World}(hi:l[i]? = some oi)(hin:decide (i<n)=true)
  (hf:Region.free md l.toArray ls i=true)(hr:(Region.ready md l.toArray ls).contains i=true)
  (hR:∀ c a w,R (.panic c) (a.put oi.dst undef) w→R (.panic c) a w)(hw:Region.wanted oi (yielded l.toArray a.tmps)=false)
  (h:zl ρ P md l R n f (ls.setIfInBounds i true) (a.put oi.dst undef) w):zl ρ P md l R n (f+1) ls a w :=
 zT hi hin hf hr hR (.inr (.inr ⟨hw,rfl⟩)) h
theorem svp(i:Nat){oi:Oper}{v:Value}{f:Nat}{ls:Array Bool}{a a':Act}{w:World}
  (h:zl ρ P md l R n f (ls.setIfInBounds i true) a' w)(hi:l[i]? = some oi:=by exact rfl)(hin:decide (i<n)=true:=by exact rfl)
  (hf:Region.free md l.toArray ls i=true:=by kernel_rfl)(hr:(Region.ready md l.toArray ls).contains i=true:=by kernel_rfl)
  (hw:Region.wanted oi (yielded l.toArray a.tmps)=true:=by rfl)
  (hx:∀ w',ρ.r w w'→(execOp a.eval oi).run P w'=.ok (.value v) w':=by intro w' hq;go_simp;try with_reducible rfl)
  (hR:∀ c a w,R (.panic c) (a.put oi.dst v) w→R (.panic c) a w:=by exact fun _ _ _ h=>h)
  (ha:a.put oi.dst v=a':=by simp only[Act.put,zs1,zs2,zs3];exact rfl):zl ρ P md l R n (f+1) ls a w :=
 zS hi hin hf hr hR hw hx (ha ▸ h)
theorem svq(i:Nat){oi:Oper}{v:Value}{f:Nat}{ls:Array Bool}{a a':Act}{w:World}(hi:l[i]? = some oi)
  (hx:∀ w',ρ.r w w'→(execOp a.eval oi).run P w'=.ok (.value v) w')
  (h:zl ρ P md l R n f (ls.setIfInBounds i true) a' w)(hin:decide (i<n)=true:=by exact rfl)
  (hf:Region.free md l.toArray ls i=true:=by kernel_rfl)(hr:(Region.ready md l.toArray ls).contains i=true:=by kernel_rfl)
  (hw:Region.wanted oi (yielded l.toArray a.tmps)=true:=by rfl)
  (hR:∀ c a w,R (.panic c) (a.put oi.dst v) w→R (.panic c) a w:=by exact fun _ _ _ h=>h)
  (ha:a.put oi.dst v=a':=by simp only[Act.put,zs1,zs2,zs3];exact rfl):zl ρ P md l R n (f+1) ls a w :=
 zS hi hin hf hr hR hw hx (ha ▸ h)
theorem svi(i:Nat){oi:Oper}{f:Nat}{ls:Array Bool}{a a':Act}{w:World}
  (h:zl ρ P md l R n f (ls.setIfInBounds i true) a' w)(hi:l[i]? = some oi:=by exact rfl)(hin:decide (i<n)=true:=by exact rfl)
  (hf:Region.free md l.toArray ls i=true:=by kernel_rfl)(hr:(Region.ready md l.toArray ls).contains i=true:=by kernel_rfl)
  (hw:Region.wanted oi (yielded l.toArray a.tmps)=false:=by rfl)
  (hR:∀ c a w,R (.panic c) (a.put oi.dst undef) w→R (.panic c) a w:=by exact fun _ _ _ h=>h)
  (ha:a.put oi.dst undef=a':=by simp only[Act.put,zs1,zs2,zs3];exact rfl):zl ρ P md l R n (f+1) ls a w :=
 zbl hi hin hf hr hR hw (ha ▸ h)
theorem zk{i:Nat}{oi:Oper}{v:Value}{n f:Nat}{ls:Array Bool}{a:Act}{w:World}{g:FuncId}{args:Array Value}(hi:l[i]? = some oi)(hin:decide (i<n)=true)
  (hf:Region.free md l.toArray ls i=true)(hr:(Region.ready md l.toArray ls).contains i=true)
  (hR:∀ c a w,R (.panic c) (a.put oi.dst v) w→R (.panic c) a w)(hw:Region.wanted oi (yielded l.toArray a.tmps)=true)
  (hx:∀ w',ρ.r w w'→(execOp a.eval oi).run P w'=.ok (.enter g args) w')
  (hc:∀ w',ρ.r w w'→Calls P g args w' fun e w''=>e=.returned v∧ρ.r w' w'')
  (h:zl ρ P md l R n f (ls.setIfInBounds i true) (a.put oi.dst v) w):zl ρ P md l R n (f+1) ls a w :=
 zT hi hin hf hr hR (.inr (.inl ⟨hw,g,args,hx,hc⟩)) h
theorem zad{i:Nat}{oi:Oper}{f:Nat}{ls:Array Bool}{a:Act}{w:World}(hi:l[i]? = some oi)(hin:decide (i<n)=true)
  (hr:Region.ready md l.toArray ls=[i])(hw:Region.wanted oi (yielded l.toArray a.tmps)=true)
  (h:∀ w',ρ.r w w'→∀ K:Act→World→Prop,(∀ v w'',ρ.r w' w''→zl ρ P md l R n f (ls.setIfInBounds i true) (a.put oi.dst v) w''→K (a.put oi.dst v) w'')→Oper.wp P oi a w' K R):zl ρ P md l R n (f+1) ls a w:=fun hB inv=>by
 have hr':i∈Region.ready md l.toArray ls:=by rw[hr];simp
 have hin':i<n:=by simpa using hin
 refine⟨fun h=>(by rw[h]at hr;cases hr),fun j hj=>?_⟩
 rw[hr]at hj
 obtain rfl:j=i:=by simpa using hj
 refine⟨hin',fun w' hq=>?_⟩
 unfold wpOp
 simp only[zbV hi]
 rw[if_pos hw]
 exact .inl (h w' hq _ fun v w'' hq' hS=>⟨hq',hS hB (inv.set hr' hin')⟩)
theorem zaI{i:Nat}{oi:Oper}{f:Nat}{ls:Array Bool}{a:Act}{w:World}(o:Obj)(hi:l[i]? = some oi)(hin:decide (i<n)=true)
  (hr:Region.ready md l.toArray ls=[i])(hw:Region.wanted oi (yielded l.toArray a.tmps)=true)
  (hx:∀ w',ρ.r w w'→(execOp a.eval oi).run P w'=.ok (.value (.pointer (some ⟨w'.heap.size,0,none⟩))) (w'.alloc o))
  (hal:∀ w',ρ.r w' (w'.alloc o))(h:∀ w',ρ.r w w'→zl ρ P md l R n f (ls.setIfInBounds i true) (a.put oi.dst (.pointer (some ⟨w'.heap.size,0,none⟩))) (w'.alloc o)):zl ρ P md l R n (f+1) ls a w :=
 zad hi hin hr hw fun w' hq K hK=>by
  unfold Oper.wp
  rw[hx w' hq]
  exact hK _ _ (hal w') (h w' hq)
theorem zaa{i:Nat}{oi:Oper}{n f:Nat}{ls:Array Bool}{a:Act}{w:World}{g:FuncId}{args:Array Value}(hi:l[i]? = some oi)(hin:decide (i<n)=true)
  (hr:Region.ready md l.toArray ls=[i])(hw:Region.wanted oi (yielded l.toArray a.tmps)=true)
  (hx:∀ w',ρ.r w w'→(execOp a.eval oi).run P w'=.ok (.enter g args) w')
  (hc:∀ w',ρ.r w w'→Calls P g args w' fun e w''=>∃ v,e=.returned v∧ρ.r w' w''∧zl ρ P md l R n f (ls.setIfInBounds i true) (a.put oi.dst v) w''):zl ρ P md l R n (f+1) ls a w :=
 zad hi hin hr hw fun w' hq K hK=>by
  unfold Oper.wp
  rw[hx w' hq]
  refine(hc w' hq).mono fun e w'' he=>?_
  obtain⟨v,rfl,h1,h2⟩:=he
  exact hK v w'' h1 h2
theorem zh{ls:Array Bool}{a:Act}{w:World}(hB:Region.seqB md l.toArray (l.toArray.size - n) n ls=true)(h:∀ w',ρ.r w w'→wpList P l.toArray R (l.drop n) a w'):zl ρ P md l R n 0 ls a w :=
 fun _ _=>⟨hB,h⟩
theorem zaT{i:Nat}{oi:Oper}{f:Nat}{ls:Array Bool}{a:Act}{w:World}(x:World→World)(hi:l[i]? = some oi)(hin:decide (i<n)=true)
  (hr:Region.ready md l.toArray ls=[i])(hw:Region.wanted oi (yielded l.toArray a.tmps)=true)
  (hx:∀ w',ρ.r w w'→(execOp a.eval oi).run P w'=.ok .skip (x w'))(hρ:∀ w',ρ.r w' (x w'))
  (h:∀ w',ρ.r w w'→zl ρ P md l R n f (ls.setIfInBounds i true) (a.put oi.dst undef) (x w')):zl ρ P md l R n (f+1) ls a w :=
 zad hi hin hr hw fun w' hq K hK=>by
  unfold Oper.wp
  rw[hx w' hq]
  exact hK _ _ (hρ w') (h w' hq)
theorem zaG{m k:Nat}{l0:List Oper}(n:Nat){id:Nat}{a:Act}{w:World}(hm:P.follows .mixedOrders=true)(hB:zeb .any l0.toArray n=true)(hn:decide (n≤l0.length)=true)(hnd:zfF l0.toArray=true)
  (h:zl ρ P .any l0 (zbC fun a w=>R .normal a w) n n (Array.replicate l0.toArray.size false) a w.drew):(Code.region id l0.toArray true).wpIn (Fence.wide.inRound k) m P R a w:=by
 have hn':n≤l0.length:=by simpa using hn
 have inv0:HeadInv .any l0.toArray n (Array.replicate l0.toArray.size false) :=
  ⟨by simp,fun j oj _ hl=>(by rw[getD_replicate_false]at hl;cases hl),fun t _ ht=>getD_in (by simpa using ht) (getD_replicate_false _ _)⟩
 refine wpIn_region_any hm (zdV hnd (fun _ _ h=>h) _ _ _ _ ?_)
 have:=Walks.any hn' (h hB inv0)
 rwa[show n+(l0.toArray.size - n)=l0.toArray.size by simp;omega]at this
end
end RE
end
section
open Go.RowKit Go.Shelf Kp
attribute [local go_sem] Oper.semAt_some
theorem zkB{W:World}{base n:Nat}{e:TypeId}{v:Value}{xs:List Value}{b:Nat}{t:TypeId}{u:Value}(h:W.ownsRow base e 1 v n xs)(hb:Boxed W b t u)(hte:t≠e)(x:Value):(W.setCell ⟨b,0,none⟩ x).ownsRow base e 1 v n xs:=by
 have hne:=hb.not_row hte h
 refine⟨h.1,h.2.elim Or.inl ?_⟩
 rintro⟨g,cap,cur,rfl,hg,hc,r⟩
 refine Or.inr ⟨g,cap,cur,rfl,hg,?_,r⟩
 have:b≠g:=fun e=>hne (by subst e;rfl)
 simpa[World.setCell,Array.getElem?_modify,this]using hc
theorem zbq{W:World}{b g:Nat}{t:TypeId}{v:Value}(h:Boxed W b t v)(hne:b≠g)(i:Nat)(u:Value):Boxed (W.setCell ⟨g,i,none⟩ u) b t v:=by
 unfold Boxed at *
 have:¬ g=b:=fun e=>hne e.symm
 simpa[World.setCell,Array.getElem?_modify,this]using h
def StR(g i:Nat)(v:Value)(w w':World):Prop:=w.grownBy w' (some g)∧∀ cs t f,w.heap[g]? = some (.cells cs t f)→w'.heap[g]? = some (.cells cs t f)∨w'.heap[g]? = some (.cells (cs.setIfInBounds i v) t f)
def zok(g i:Nat)(v:Value):Rel where
 r:=StR g i v
 refl:=fun w=>⟨World.grownBy.refl _ _,fun _ _ _ h=>.inl h⟩
 trans:=fun {a b c} h k=>⟨h.1.trans k.1,fun cs t f hg=>by
  rcases h.2 cs t f hg with h1 | h1
  ·exact k.2 cs t f h1
  ·rcases k.2 _ t f h1 with h2 | h2
   ·exact .inr h2
   ·rw[Array.setIfInBounds_setIfInBounds]at h2;exact .inr h2⟩
theorem heap_setCell(w:World)(g i:Nat)(v:Value){cs:Array Value}{t:TypeId}{f:Nat × Nat}(h:w.heap[g]? = some (.cells cs t f)):(w.setCell ⟨g,i,none⟩ v).heap[g]? = some (.cells (cs.setIfInBounds i v) t f):=by
 simp[World.setCell,Array.getElem?_modify,h]
theorem zpz(g i:Nat)(v:Value)(w:World):(zok g i v).r w (w.setCell ⟨g,i,none⟩ v):=⟨grownBy_set (World.grownBy.refl _ _) i v,fun _ _ _ hg=>.inr (heap_setCell w g i v hg)⟩
theorem zpx{g i:Nat}{v:Value}{w w':World}(h:(zok g i v).r w w'){p:Addr}{u:Value}(hc:w.cell? p=some u)(hne:p.block≠g):w'.cell? p=some u :=
 (h.1.cell_far p (World.block_lt_of_cell? w _ hc) (fun e=>hne (by injection e))).trans hc
theorem ztq{g i:Nat}{v:Value}{w w':World}(h:(zok g i v).r w w'){u:Value}(hc:w.cell? ⟨g,i,none⟩=some u)(hf:w.frozen? ⟨g,i,none⟩=false){cs:Array Value}{t:TypeId}{f:Nat × Nat}(hb:w.heap[g]? = some (.cells cs t f)) :
  (∃ u,w'.cell? ⟨g,i,none⟩=some u)∧w'.frozen? ⟨g,i,none⟩=false:=by
 have hc':cs[i]? = some u:=by simpa[World.cell?,hb]using hc
 obtain⟨hlt,-⟩:=Array.getElem?_eq_some_iff.1 hc'
 have hf':=hf
 simp only[World.frozen?,hb]at hf'
 rcases h.2 cs t f hb with h1 | h1
 ·exact⟨⟨u,by simp[World.cell?,h1,hc']⟩,by simpa[World.frozen?,h1]using hf'⟩
 ·exact⟨⟨v,by simp[World.cell?,h1,hlt]⟩,by simpa[World.frozen?,h1]using hf'⟩
theorem zoQ{W W3:World}{base g n cap i:Nat}{e:TypeId}{xs:List Value}{v:Value}(h:W.ownsRow base e 1 (.slice (some ⟨g,0,none⟩) n cap) n xs)
  (h3:∀ cs t f,W.heap[g]? = some (.cells cs t f)→W3.heap[g]? = some (.cells (cs.setIfInBounds i v) t f)):W3.ownsRow base e 1 (.slice (some ⟨g,0,none⟩) n cap) n (xs.set i v):=by
 refine⟨by rw[List.length_set];exact h.1,?_⟩
 rcases h.2 with⟨e1,_⟩|⟨g',cap',cur,e1,hg,hc,h1,h2,h4,h5⟩
 ·cases e1
 ·injection e1 with e2 e3 e4
  injection e2 with e5
  injection e5 with e6
  subst e6 e4
  exact .inr ⟨g,cap,_,rfl,hg,h3 _ _ _ hc,h1,h2,by simpa using h4,by rw[Array.toList_setIfInBounds,List.take_set,h5]⟩
theorem zX{W:World}{base g n cap b:Nat}{e:TypeId}{xs:List Value}(h:W.ownsRow base e 1 (.slice (some ⟨g,0,none⟩) n cap) n xs)(hne:b≠g)(i:Nat)(u:Value):(W.setCell ⟨b,i,none⟩ u).ownsRow base e 1 (.slice (some ⟨g,0,none⟩) n cap) n xs:=by
 refine⟨h.1,h.2.elim Or.inl ?_⟩
 rintro⟨g',cap',cur,e1,hg,hc,r⟩
 injection e1 with e2 e3 e4
 injection e2 with e5
 injection e5 with e6
 subst e6 e4
 exact .inr ⟨g,cap,cur,rfl,hg,by simpa[World.setCell,Array.getElem?_modify,hne]using hc,r⟩
theorem zkD{W:World}{base g n cap:Nat}{e:TypeId}{xs:List Value}(h:W.ownsRow base e 1 (.slice (some ⟨g,0,none⟩) n cap) n xs):∃ cs,W.heap[g]? = some (.cells cs e (0,0)):=by
 rcases h.2 with⟨e1,_⟩|⟨g',cap',cur,e1,hg,hc,_⟩
 ·cases e1
 ·injection e1 with e2
  injection e2 with e5
  injection e5 with e6
  subst e6
  exact⟨cur,hc⟩
theorem zq9{W w' w3:World}{g i:Nat}{v:Value}(h:(zok g i v).r W w')(h3:(zok g i v).r (w'.setCell ⟨g,i,none⟩ v) w3){cs:Array Value}{t:TypeId}{f:Nat × Nat}(hb:W.heap[g]? = some (.cells cs t f)) :
  w3.heap[g]? = some (.cells (cs.setIfInBounds i v) t f):=by
 have h1:(w'.setCell ⟨g,i,none⟩ v).heap[g]? = some (.cells (cs.setIfInBounds i v) t f):=by
  rcases h.2 cs t f hb with e | e
  ·exact heap_setCell _ _ _ _ e
  ·rw[heap_setCell _ _ _ _ e,Array.setIfInBounds_setIfInBounds]
 rcases h3.2 _ _ _ h1 with e | e
 ·exact e
 ·rw[Array.setIfInBounds_setIfInBounds]at e;exact e
theorem results_cell_tmp(fn:Func)(m k:Nat)(hf:fn.results=#[.cell m 29,.tmp k])(tmps:Array Value)(W:World)(b:Nat)(v u:Value)(hp:tmps.getD m undef=.pointer (some ⟨b,0,none⟩))(hc:W.cell? ⟨b,0,none⟩=some v)(hk:tmps.getD k undef=u) :
  (results fn tmps).run Tryz.prog W=.ok (.tuple #[v,u]) W:=by
 simp only[Array.getD_eq_getD_getElem?]at hp hk
 simp[results,hf,go_sem,hp,hc,hk]
theorem zjr(a:List Int)(d:Int)(da:Dig LB a)(hd0:0<d)(hd1:d<LB)(ha:a.length≤300000)(v1:Value)(w:World)(i1:zO w v1 a) :
  CallsIn Fence.wide 9 Tryz.prog 270 #[v1,.int .i64 d] w fun e w'=>∃ q r,e=.returned (.tuple #[q,r])∧zO w' q (limbs LB (lval LB a / d))∧zO w' r (limbs LB (lval LB a % d))∧Q w w':=by
 have I1:=LH i1
 obtain⟨a1,c1,rfl,hcap1,-⟩:=i1
 obtain⟨i0,hi,hz0,hz1,hz2⟩:=info_parts zdz
 refine callsIn_of_wp_marks Tryz.func270 rfl trivial ?_ rfl
 simp only[Tryz.ntmps270,List.size_toArray,List.length_cons,List.length_nil,Nat.reduceAdd,Nat.reduceSub,Array.replicate_succ,Array.replicate_zero,List.push_toArray,List.append_toArray,List.nil_append,List.cons_append]
 obtain⟨n,hn⟩:∃ n,a.length=n:=⟨_,rfl⟩
 rw[hn]at I1 hcap1 ha ⊢
 have HN:=LH hn
 clear hn
 obtain⟨w0,hw0⟩:∃ w0,(w.alloc (.cells #[.int .i64 d] 3)).alloc (.cells #[.slice none 0 0] 29)=w0:=⟨_,rfl⟩
 have hs0:w0.heap.size=w.heap.size+2:=by rw[← hw0];simp
 have hq0:Q w w0:=by rw[← hw0];exact((Below.refl _ w).alloc (Nat.le_refl _) _).alloc (by simp) _
 obtain⟨W5,hmk,hown,hgr⟩:=run_make_full (P:=Tryz.prog) w0 w0.heap.size 29 3 i0 _ 1 Tryz.underlying29 hi hz0 hz1 .i64 .i64 n (by rw[hz2];omega) (by unfold maxLen;omega) (Nat.le_refl _)
 have hg5:w0.heap.size<W5.heap.size:=(hown.lt w0.heap.size rfl).2
 have hq5:Q w W5:=hq0.grown hgr (by omega) (fun k hk=>by cases hk)
 rw[show (Value.int .i64 0).cells=#[Value.int .i64 0]from rfl,Nat.mul_one,toList_madeCells_one,zea]at hown
 have bD0:Boxed w0 w.heap.size 3 (.int .i64 d):=by rw[← hw0];exact(Boxed.new w _ _).alloc _
 have bQ0:Boxed w0 (w.heap.size+1) 29 (.slice none 0 0):=by
  have:=Boxed.new (w.alloc (.cells #[.int .i64 d] 3)) 29 (.slice none 0 0)
  rw[World.size_alloc,hw0]at this;exact this
 have bD5:=bD0.kept hgr (by simp)
 have bQ5:=bQ0.kept hgr (by simp)
 have hc5:=bQ5.cell
 have hf5:=bQ5.frozen
 rw[hs0]at hmk hown hg5
 obtain⟨W6,hW6⟩:∃ W6,W5.setCell ⟨w.heap.size+1,0,none⟩ (.slice (some ⟨w.heap.size+2,0,none⟩) n n)=W6:=⟨_,rfl⟩
 have bD6:Boxed W6 w.heap.size 3 (.int .i64 d):=by rw[← hW6];exact bD5.other (by omega) _
 have bQ6:Boxed W6 (w.heap.size+1) 29 (.slice (some ⟨w.heap.size+2,0,none⟩) n n):=by rw[← hW6];exact bQ5.set _
 have hO6:=zkB hown bQ5 (by decide) (.slice (some ⟨w.heap.size+2,0,none⟩) n n)
 have hq6:Q w W6:=by rw[← hW6];exact hq5.setCell (p:=⟨w.heap.size+1,0,none⟩) (by simp) _
 have hs6:W6.heap.size=W5.heap.size:=by rw[← hW6];simp[World.setCell]
 rw[hW6]at hO6
 obtain⟨R,hR⟩:∃ R,W5.heap.size=R:=⟨_,rfl⟩
 rw[hR]at hs6 hg5
 obtain⟨W8,hW8⟩:∃ W8,(W6.alloc (.cells #[.int .i64 0] 3)).alloc (.cells #[.slice a1 n c1] 29)=W8:=⟨_,rfl⟩
 have bD8:Boxed W8 w.heap.size 3 (.int .i64 d):=by rw[← hW8];exact(bD6.alloc _).alloc _
 have bQ8:Boxed W8 (w.heap.size+1) 29 (.slice (some ⟨w.heap.size+2,0,none⟩) n n):=by rw[← hW8];exact(bQ6.alloc _).alloc _
 have bR8:Boxed W8 R 3 (.int .i64 0):=by
  have:=(Boxed.new W6 3 (.int .i64 0)).alloc (.cells #[.slice a1 n c1] 29)
  rw[hs6,hW8]at this;exact this
 have bS8:Boxed W8 (R+1) 29 (.slice a1 n c1):=by
  have:=Boxed.new (W6.alloc (.cells #[.int .i64 0] 3)) 29 (.slice a1 n c1)
  rw[World.size_alloc,hs6,hW8]at this;exact this
 have hO8:=(hO6.alloc (.cells #[.int .i64 0] 3)).alloc (.cells #[.slice a1 n c1] 29)
 rw[hW8]at hO8
 have hq8:Q w W8:=by rw[← hW8];exact(hq6.alloc hq6.size _).alloc (by simp;have:=hq6.size;omega) _
 have hs8:W8.heap.size=R+2:=by rw[← hW8];simp[hs6]
 clear bD0 bQ0 bD5 bQ6 bD6 hO6 hown hgr
 gi_wp2_with (refine⟨trivial,(zc9 Fence.wide 8 trivial rfl _ _ ⟨_,_,_,rfl⟩).mono ?_⟩;rintro e w1 ⟨rfl,rfl⟩)
 clear hW8 hmk hq5 bQ5 hc5 hf5 hW6 hq6 hs6 hR hw0 hq0
 have hAx:∃ bA oA,(∀ j,j<a.length→W8.cell? ⟨bA,oA+j,none⟩=some (.int .i64 (a.getD j 0)))∧(0<a.length→a1=some ⟨bA,oA,none⟩)∧bA<W8.heap.size∧bA≠R∧bA≠w.heap.size+1∧bA≠w.heap.size+2:=by
  by_cases h0:0<n
  ·obtain⟨b,o,e,hA⟩:=I1.out.addr HN.out h0
   have:=hA.1
   have:=hq8.size
   exact⟨b,o,fun j hj=>za hq8 (hA.2 j hj),fun _=>e,by omega,by omega,by omega,by omega⟩
  ·exact⟨R+1,0,fun j hj=>absurd hj (by have:=HN.out;omega),fun h=>absurd h (by have:=HN.out;omega),by omega,by omega,by omega,by omega⟩
 obtain⟨bA,oA,hcA,haA,hbA,hbAR,hb1,hb2⟩:=hAx
 have hS0:Hid (ShortInv LB a d n (List.replicate n 0) 0):=LH (by rw[← HN.out];exact ShortInv.start LB (by decide) a d hd0)
 have HcA:=LH hcA
 refine zaX (m:=9) (gf:=307) (lb:=#[.pointer (some ⟨R+1,0,none⟩)]) (by omega) rfl (enters_of Tryz.func307 (by kernel_rfl) rfl)
  (zgB (R+1) bA oA c1 a1 a (by have:=HN.out;omega) W8 haA 8 (by omega) (by rw[HN.out];exact bS8.cell) hcA) (by simp;omega) (fun _=>rfl)
  (fun pre W=>Boxed W w.heap.size 3 (.int .i64 d)∧Boxed W (w.heap.size+1) 29 (.slice (some ⟨w.heap.size+2,0,none⟩) n n)∧(∃ q r,Boxed W R 3 (.int .i64 r)∧W.ownsRow (w.heap.size+2) 3 1 (.slice (some ⟨w.heap.size+2,0,none⟩) n n) n (zaz q)∧Hid (ShortInv LB a d (n - pre.length) q r))∧Q w W)
  (fun _ _ _=>False) (fun _ _ _=>trivial)
  (fun pre W W' h k hb=>⟨zu h.1 k,zu h.2.1 k,by
   obtain⟨q,r,h1,h2,h3⟩:=h.2.2.1
   exact⟨q,r,zu h1 k,zJ h2 k,h3⟩,Below.trans h.2.2.2 (hb.mono (by omega))⟩)
  (fun _ _ _ _ h _ _=>h)
  ⟨bD8,bQ8,⟨_,_,bR8,hO8,hS0⟩,hq8⟩
  (fun x=>{ tmps:=#[.slice a1 n c1,.int .i64 d,undef,.pointer (some ⟨w.heap.size,0,none⟩),.pointer (some ⟨w.heap.size+1,0,none⟩),.slice none 0 0,.pointer (some ⟨R,0,none⟩),.int .i64 (x.1:Nat),.int .i64 (a.getD x.1 0),.slice a1 n c1,.int .i64 n,.slice (some ⟨w.heap.size+2,0,none⟩) n n,.slice a1 n c1,.func (.func 307) #[] #[.pointer (some ⟨R+1,0,none⟩)],.int .i64 (x.1:Nat),.int .i64 (a.getD x.1 0),undef,undef,undef,undef,undef,undef,undef,undef,undef,undef,undef,undef,undef,undef,undef,undef,undef,undef],defers:=[] }) ?assign ?body ?done ?stop
 case assign =>
  intro l x W K hK
  unfold zlG
  gi_wp2
  exact hK
 case body =>
  rintro l pre x W⟨hbD,hbQ,⟨q,r,hbR,hrow,hS⟩,hQ⟩ ⟨hdn,hx,hpl⟩
  obtain⟨i,hi⟩:=x
  simp only at hx
  have hil:=HN.out
  rw[hil]at hi hx hpl
  have hcD:=hbD.cell
  have hcQ:=hbQ.cell
  have hcR:=hbR.cell
  have hfR:=hbR.frozen
  rw[show n - pre.length=i+1 by omega]at hS
  have hbd:=hS.out.bound (by decide) da (by omega)
  have hst:=LH (hS.out.step (by decide) da hd0 (by omega))
  have hr0:=hS.out.r0
  have hli:n - (pre.length+1)=i:=by omega
  have HLI:=LH hli
  clear hli
  have hr1:=hS.out.r1
  have hLB:LB=1000000000:=rfl
  rw[hLB]at hbd hst hd1
  have hpb2:(1000000000:Int)*1000000000=1000000000000000000:=by decide
  rw[hpb2]at hbd
  generalize a.getD i 0=x at *
  have hx0:=hbd.1
  have hx1:=hbd.2
  have hw1:=Go.IntWalk.i64_in (r*1000000000) (by omega)
  have hw2:=Go.IntWalk.i64_in (x+r*1000000000) (by omega)
  have hi0:(0:Int)≤(i:Int):=by omega
  have hin:(i:Int)<(n:Int):=by omega
  have hmix:Tryz.prog.follows .mixedOrders=true:=by kernel_rfl
  have hql:q.length=n:=by rw[hS.out.len];exact HN.out
  have hce:=hrow.cellAt i (by omega)
  rw[zbx q i (by omega)]at hce
  have hfe:=hrow.frozenAt i
  have dce:W.drew.cell? ⟨w.heap.size+2,i,none⟩=some (.int .i64 (q.getD i 0)):=hce
  have dfe:W.drew.frozen? ⟨w.heap.size+2,i,none⟩=false:=hfe
  have dcD:W.drew.cell? ⟨w.heap.size,0,none⟩=some (.int .i64 d):=hcD
  have dcQ:W.drew.cell? ⟨w.heap.size+1,0,none⟩=some (.slice (some ⟨w.heap.size+2,0,none⟩) n n):=hcQ
  have dcR:W.drew.cell? ⟨R,0,none⟩=some (.int .i64 r):=hcR
  have dfR:W.drew.frozen? ⟨R,0,none⟩=false:=hfR
  clear hS hdn hx hpl hil hcA haA HcA
  have dcDn:w.heap.size≠w.heap.size+2:=by omega
  gi_wp2
  clear hw1 hw2
  generalize hN:x+r*1000000000=N at *
  have hNb:N / d≤N:=Int.ediv_le_self _ hx0
  have hNc:0≤N / d:=Int.ediv_nonneg hx0 (by omega)
  have hNd:0≤N % d:=Int.emod_nonneg _ (by omega)
  have hNe:N % d<d:=Int.emod_lt_of_pos _ hd0
  have hN1:N.tdiv d=N / d:=Int.tdiv_eq_ediv_of_nonneg hx0
  have hN2:N.tmod d=N % d:=Int.tmod_eq_emod_of_nonneg hx0
  have hN3:=Go.IntWalk.i64_in (N / d) (by omega)
  have hN4:=Go.IntWalk.i64_in (N % d) (by omega)
  have hdz:¬ d=0:=by omega
  clear hN
  refine RE.zaG (ρ:=zok (w.heap.size+2) i (.int .i64 (N / d))) 10 hmix (by kernel_rfl) rfl (by kernel_rfl) ?_
  refine RE.svq 0 rfl (by intro w' hq;have hc0:=zpx hq dcQ (by first | (simp;done)|(simp;omega));go_simp;try with_reducible rfl) ?_
  refine RE.svp 1 ?_
  refine RE.svp 2 ?_
  refine RE.svq 3 rfl (by intro w' hq;have hc0:=zpx hq dcD (by first | (simp;done)|(simp;omega));go_simp;try with_reducible rfl) ?_
  refine RE.svp 4 ?_
  refine RE.svp 8 ?_
  refine RE.svp 5 ?_
  refine RE.svq 6 rfl (by intro w' hq;have hc0:=zpx hq dcD (by first | (simp;done)|(simp;omega));go_simp;try with_reducible rfl) ?_
  refine RE.svp 7 ?_
  obtain⟨cs,hcs⟩:=zkD hrow
  have hcs':W.drew.heap[w.heap.size+2]? = some (.cells cs 3 (0,0)):=hcs
  refine RE.zaT (i:=9) (fun w'=>w'.setCell ⟨w.heap.size+2,i,none⟩ (.int .i64 (N / d))) rfl rfl (by kernel_rfl) (by rfl) (fun w' hq=>?_) (fun w'=>zpz _ _ _ w') (fun w' hqA=>?_)
  ·obtain⟨⟨u,hu⟩,hfu⟩:=ztq hq dce dfe hcs'
   go_simp
  simp only[Act.put]
  refine RE.zh (by kernel_rfl) (fun w3 hqB=>?_)
  simp only[List.drop_succ_cons,List.drop_zero]
  have hblk:=zq9 hqA hqB hcs'
  have hg3:W.grownBy w3 (some (w.heap.size+2)):=(zas (Below.refl _ W).drew _).trans (hqA.1.trans ((zpz _ _ _ w').1.trans hqB.1))
  have hrow3:=zoQ (W3:=w3) hrow (v:=.int .i64 (N / d)) (i:=i) (fun cs' t f h=>by rw[hcs]at h;cases h;exact hblk)
  rw[zcD]at hrow3
  have hbD3:=hbD.kept hg3 (by simp)
  have hbQ3:=hbQ.kept hg3 (by simp)
  have hbR3:=hbR.kept hg3 (by simp;omega)
  have hcR3:=hbR3.cell
  have hfR3:=hbR3.frozen
  have hQ3:Q w w3:=hQ.grown hg3 hQ.size (fun k e=>by cases e;omega)
  clear hN1 hN2 hN3 hN4 hcD hcQ hcR hfR dce dfe dcD dcQ dcR dfR hce hfe hcs hcs' hblk
  go_wp2
  change Exit.inBlock 1 _ Exit.normal _ _
  gi_wp2
  refine⟨(KeepsFrom.of_grownBy hg3 (fun j e=>by cases e;omega)).trans ((KeepsOthers.setCell _ _ _).from _),(zI.grown hg3 (by simp;omega)).trans (zI.set _ (by simp;omega) _ _),
   hbD3.other (by omega) _,hbQ3.other (by omega) _,⟨_,_,hbR3.set _,zX hrow3 (by omega) _ _,LH ?_⟩,hQ3.setCell (p:=⟨R,0,none⟩) (by simp;omega) _⟩
  rw[List.length_append,List.length_singleton,HLI.out]
  exact hst.out
 case done =>
  rintro D ys W hD hys⟨hbD,hbQ,⟨q,r,hbR,hrow,hS⟩,hQ⟩ hK
  rw[hys.len,HN.out,Nat.sub_self]at hS
  have hcQ:=hbQ.cell
  have hfQ:=hbQ.frozen
  have hcR:=hbR.cell
  have hr0:=hS.out.r0
  obtain⟨e1,e2,e3⟩:=hS.out.done (by decide) (by omega)
  have HE1:=LH e1
  have HE3:=LH e3
  have hql:q.length=n:=by rw[hS.out.len];exact HN.out
  have HSQ:Hid (zO W (.slice (some ⟨w.heap.size+2,0,none⟩) q.length n) q):=LH (by
   have:=zbn (v:=.slice (some ⟨w.heap.size+2,0,none⟩) n n) (l:=q) (by rw[hql];exact hrow)
   rw[hql];exact this)
  have HT1:Hid (∀ w',Q W w'→Calls Tryz.prog 201 #[.slice (some ⟨w.heap.size+2,0,none⟩) n n] w' fun e w''=>e=.returned (.slice (some ⟨w.heap.size+2,0,none⟩) (zaJ q).length n)∧Q w' w''):=LH (fun w' hq=>by
   have:=za8 q (by omega) (some ⟨w.heap.size+2,0,none⟩) n w' (HSQ.out.keep hq)
   rw[hql]at this
   exact this.mono fun e w2 h=>⟨h.1,by rw[h.2];exact Q.refl _⟩)
  have dcQ:W.drew.cell? ⟨w.heap.size+1,0,none⟩=some (.slice (some ⟨w.heap.size+2,0,none⟩) n n):=hcQ
  have dcR:W.drew.cell? ⟨R,0,none⟩=some (.int .i64 r):=hcR
  clear e1 e2 e3 hql
  gi_wp2_with fail
  refine wpIn_wide.2 (ziW ?_)
  refine zn 5 (by kernel_rfl) (by kernel_rfl) rfl ?_
  refine svq 0 rfl (by intro w' hq;have hc0:=za hq dcQ;go_simp;try with_reducible rfl) ?_
  refine zk (i:=1) (v:=_) rfl rfl (by kernel_rfl) (by kernel_rfl) (fun _ _ _ h=>h) (by rfl) ?_ (fun w' hq=>HT1.out w' (Below.trans (Below.drew (Q.refl W)) hq)) ?_
  ·(intro w' hq;go_simp;try with_reducible rfl)
  simp only[Act.put,zs1,zs2,zs3]
  refine svq 2 rfl (by intro w' hq;have hc0:=za hq dcR;go_simp;try with_reducible rfl) ?_
  refine zaH (i:=3) (fun w'=>.slice (some ⟨w'.heap.size,0,none⟩) 1 1) (.cells #[.int .i64 r] 3) rfl rfl (by kernel_rfl) (by rfl) (fun w' hq=>?_) (fun w1 hq1=>?_)
  ·go_simp
  simp only[Act.put,zs1,zs2,zs3]
  have hB1:Boxed (w1.alloc (.cells #[.int .i64 r] 3)) w1.heap.size 3 (.int .i64 r):=Boxed.new w1 _ _
  have hT2:∀ w',Q (w1.alloc (.cells #[.int .i64 r] 3)) w'→Calls Tryz.prog 201 #[.slice (some ⟨w1.heap.size,0,none⟩) 1 1] w' fun e w''=>e=.returned (.slice (some ⟨w1.heap.size,0,none⟩) (zaJ [r]).length 1)∧Q w' w'':=fun w' hq=>by
   have hB2:=zu hB1 (KC.q hq)
   have hs:zO w' (.slice (some ⟨w1.heap.size,0,none⟩) [r].length 1) [r]:=⟨_,_,rfl,Nat.le_refl _,fun _=>⟨_,0,rfl,hB2.lt,fun i hi=>by
    obtain rfl:i=0:=by simp at hi;omega
    simpa using hB2.cell⟩⟩
   exact(za8 [r] (by simp) (some ⟨w1.heap.size,0,none⟩) 1 w' hs).mono fun e w2 h=>⟨h.1,by rw[h.2];exact Q.refl _⟩
  have HT2:=LH hT2
  clear hT2
  refine zk (i:=4) (v:=_) rfl rfl (by kernel_rfl) (by kernel_rfl) (fun _ _ _ h=>h) (by rfl) ?_ (fun w' hq=>HT2.out w' hq) ?_
  ·(intro w' hq;go_simp;try with_reducible rfl)
  simp only[Act.put,zs1,zs2,zs3]
  refine zh (by kernel_rfl) (fun w3 hq3=>?_)
  simp only[List.drop_succ_cons,List.drop_zero]
  have hq13:Q W w3:=Q.trans (Q.trans (Below.trans (Below.drew (Q.refl W)) hq1) ((Below.refl _ w1).alloc (Nat.le_refl _) _)) hq3
  have kc3:=KC.q hq13
  have hbQ3:=zu hbQ kc3
  have hB13:=zu hB1 (KC.q hq3)
  have hK3:w3.heap[D]? = some (.deferred (some [])):=(hq13.block D (Array.getElem?_eq_some_iff.1 hK).1).trans hK
  have hlt:=zaW q
  have hrT:=zcA hrow (m:=(zaJ q).length) (by have:=hS.out.len;have:=HN.out;omega)
  rw[zdT,hlt.2,HE1.out]at hrT
  have hr3:=zJ hrT kc3
  rw[HE1.out,HE3.out]
  have hrl:(zaJ [r]).length≤1:=(zaW [r]).1
  have hrt:=(zaW [r]).2
  rw[HE3.out]at hrl hrt
  have hne1:w1.heap.size≠w.heap.size+1:=by
   have:=hbQ.lt
   have:=hq1.size
   have h2:W.drew.heap.size=W.heap.size:=rfl
   omega
  have hcQ3:=hbQ3.cell
  have hfQ3:=hbQ3.frozen
  generalize hlq:(limbs LB (lval LB a / d))=lq at *
  generalize hlr:(limbs LB (lval LB a % d))=lr at *
  have HLQ:=LH hlq
  have HLR:=LH hlr
  clear hlq hlr
  have hbS:=hbQ3.set (.slice (some ⟨w.heap.size+2,0,none⟩) lq.length n)
  have hcS:=hbS.cell
  have hrS:=zX hr3 (b:=w.heap.size+1) (by omega) 0 (.slice (some ⟨w.heap.size+2,0,none⟩) lq.length n)
  have hBS:=hB13.other hne1 (.slice (some ⟨w.heap.size+2,0,none⟩) lq.length n)
  have hKS:=(KeepsOthers.setCell w3 ⟨w.heap.size+1,0,none⟩ (.slice (some ⟨w.heap.size+2,0,none⟩) lq.length n)).same D _ hK3 rfl
  have hQS:Q w (w3.setCell ⟨w.heap.size+1,0,none⟩ (.slice (some ⟨w.heap.size+2,0,none⟩) lq.length n)):=(Q.trans hQ hq13).setCell (p:=⟨w.heap.size+1,0,none⟩) (by simp) _
  clear hcQ hfQ hcR HT1 HT2 hbQ3 hr3 hrT
  go_wp2
  simp only[zbC]
  generalize w3.setCell ⟨w.heap.size+1,0,none⟩ (.slice (some ⟨w.heap.size+2,0,none⟩) lq.length n)=W9 at *
  gi_wp2
  have kc:=KC.put (.deferred none) hKS rfl
  refine⟨by simp,.inl ⟨_,_,rfl,run_takeDeferred hKS,?_⟩⟩
  refine⟨_,results_cell_tmp _ 4 5 rfl _ _ (w.heap.size+1) _ _ rfl (zu hbS kc).cell rfl,_,_,rfl,by rw[HLQ.out];exact zbn (zJ hrS kc),?_,Below.trans hQS (zaQ (by omega) hKS _)⟩
  rw[HLR.out]
  have hBf:=zu hBS kc
  have hs:zO (W9.putObj D (.deferred none)) (.slice (some ⟨w1.heap.size,0,none⟩) [r].length 1) [r]:=⟨_,_,rfl,Nat.le_refl _,fun _=>⟨_,0,rfl,hBf.lt,fun i hi=>by
   obtain rfl:i=0:=by simp at hi;omega
   simpa using hBf.cell⟩⟩
  have:=hs.take (m:=lr.length) hrl
  rw[hrt]at this
  exact this
 case stop =>
  rintro D c pre W _ _ h _
  exact h.elim
theorem zc7(a:List Int)(d:Int)(da:Dig LB a)(hd0:0<d)(hd1:d<LB)(ha:a.length≤300000)(v1:Value)(w:World)(i1:zO w v1 a) :
  Calls Tryz.prog 270 #[v1,.int .i64 d] w fun e w'=>∃ q r,e=.returned (.tuple #[q,r])∧zO w' q (limbs LB (lval LB a / d))∧zO w' r (limbs LB (lval LB a % d))∧Q w w' :=
 callsIn_wide.1 (zjr a d da hd0 hd1 ha v1 w i1)
theorem ziT{w:World}{B g g' n cap:Nat}{l:List Int}(h:w.ownsRow B 3 1 (.slice (some ⟨g',0,none⟩) n cap) n (zaz l))(hn:l.length=n)(hne:g'≠g):zdp g w (.slice (some ⟨g',0,none⟩) n cap) l:=by
 subst hn
 obtain⟨a,c,e,hcap,hc⟩:=zbn h
 injection e with e1 e2 e3
 subst e1 e3
 refine⟨_,cap,rfl,hcap,fun h0=>?_⟩
 obtain⟨b,o,e,hA⟩:=hc h0
 injection e with e
 injection e with e1 e2
 subst e1 e2
 exact⟨_,_,rfl,hne,hA⟩
theorem zb8{w w':World}{B g n cap:Nat}{e:TypeId}{row:Nat}{xs:List Value}(h:w.ownsRow B e 1 (.slice (some ⟨g,0,none⟩) n cap) n xs)(hg:w.grownBy w' (some row))(hne:g≠row):w'.ownsRow B e 1 (.slice (some ⟨g,0,none⟩) n cap) n xs:=by
 refine⟨h.1,h.2.elim Or.inl ?_⟩
 rintro⟨g',cap',cur,e1,hg',hc,r⟩
 injection e1 with e2 e3 e4
 injection e2 with e5
 injection e5 with e6
 subst e6 e4
 exact .inr ⟨g,cap,cur,rfl,hg',(hg.block g (Array.getElem?_eq_some_iff.1 hc).1 (fun e=>hne (by injection e))).trans hc,r⟩
theorem zdh{w:World}{B B' g n cap:Nat}{e:TypeId}{xs:List Value}(h:w.ownsRow B e 1 (.slice (some ⟨g,0,none⟩) n cap) n xs)(hB:B'≤g):w.ownsRow B' e 1 (.slice (some ⟨g,0,none⟩) n cap) n xs:=by
 refine⟨h.1,h.2.elim Or.inl ?_⟩
 rintro⟨g',cap',cur,e1,hg',hc,r⟩
 injection e1 with e2 e3 e4
 injection e2 with e5
 injection e5 with e6
 subst e6 e4
 exact .inr ⟨g,cap,cur,rfl,hB,hc,r⟩
theorem zO.beside1{w:World}{v:Value}{l:List Int}{g:Nat}{a:Option Addr}{n c:Nat}(h:zO w v l)(hB:Boxed w g 29 (.slice a n c))(x:Value):zO (w.setCell ⟨g,0,none⟩ x) v l:=by
 obtain⟨a1,cap,rfl,hcap,hc⟩:=h
 refine⟨a1,cap,rfl,hcap,fun h0=>?_⟩
 obtain⟨b,o,rfl,hb,hi⟩:=hc h0
 have hne:b≠g:=fun e=>by
  subst e
  have h1:=hi 0 h0
  have h2:w.heap[b]? = some (.cells #[.slice a n c] 29 (0,0)):=hB
  simp only[World.cell?,h2]at h1
  match o,h1 with
  | 0,h1=>simp at h1
  | k+1,h1=>simp at h1
 refine⟨b,o,rfl,by simpa[World.setCell]using hb,fun i hi'=>?_⟩
 rw[World.cell?_setCell_far _ _ _ _ (Ne.symm hne)]
 exact hi i hi'
theorem zO.put{W:World}{D:Nat}{v:Value}{l:List Int}{x:Option (List Deferred)}(h:zO W v l)(hD:W.heap[D]? = some (.deferred x))(o:Obj):zO (W.putObj D o) v l:=by
 obtain⟨a1,cap,rfl,hcap,hc⟩:=h
 refine⟨a1,cap,rfl,hcap,fun h0=>?_⟩
 obtain⟨b,o1,rfl,hb,hi⟩:=hc h0
 have hne:b≠D:=fun e=>by
  subst e
  have h1:=hi 0 h0
  simp[World.cell?,hD]at h1
 have hs:(W.putObj D o).heap[b]? = W.heap[b]?:=World.putObj_heap_other hne
 refine⟨b,o1,rfl,?_,fun i hi'=>?_⟩
 ·have:=Array.getElem?_eq_getElem hb
  rw[← hs]at this
  exact(Array.getElem?_eq_some_iff.1 this).1
 ·have h1:=hi i hi'
  simp only[World.cell?]at h1 ⊢
  rw[hs];exact h1
theorem zni(x y:Int)(hx:0≤x)(hy:0≤y)(hlt:x<y)(lx:(limbs LB x).length≤100000)(ly:(limbs LB y).length≤100000)(v1 v2:Value)(w:World)(i1:zO w v1 (limbs LB x))(i2:zO w v2 (limbs LB y)) :
  Calls Tryz.prog 208 #[v1,v2] w fun e w'=>∃ q r,e=.returned (.tuple #[q,r])∧zO w' q (limbs LB (x / y))∧zO w' r (limbs LB (x % y))∧Q w w':=by
 have I1:=LH i1
 have HC:=LH (fun W (h:Q w W)=>zbB x y hx hy lx ly v1 v2 W (i1.keep h) (i2.keep h))
 have HE:Hid (limbs LB (x / y)=[]∧x % y=x):=LH ⟨by rw[Int.ediv_eq_zero_of_lt hx hlt,zaL (Int.le_refl _)],Int.emod_eq_of_lt hx hlt⟩
 clear i1 i2
 have hq0:Q w (w.alloc (.cells #[.slice none 0 0] 29)):=(Below.refl _ w).alloc (Nat.le_refl _) _
 have hb0:=Boxed.new w 29 (.slice none 0 0)
 go_enter Tryz.func208,Tryz.ntmps208
 go_wp2_with fail
 refine(HC.out _ hq0).mono ?_
 rintro e w1⟨z,rfl,hz,hq1⟩
 have hz0:z<0:=hz.1.2 hlt
 have hb1:=zu hb0 (KC.q hq1)
 have hc1:=hb1.cell
 have hf1:=hb1.frozen
 have hbS:=hb1.set (.slice none 0 0)
 have hqS:Q w (w1.setCell ⟨w.heap.size,0,none⟩ (.slice none 0 0)):=(Q.trans hq0 hq1).setCell (p:=⟨w.heap.size,0,none⟩) (by simp) _
 have hK:Hid (zO (w1.setCell ⟨w.heap.size,0,none⟩ (.slice none 0 0)) v1 (limbs LB x)):=LH (I1.out.keep hqS)
 clear hz
 go_wp2
 exact bodyPost_ret (results_cell_tmp _ 4 5 rfl _ _ w.heap.size _ _ rfl hbS.cell rfl) rfl ⟨_,_,rfl,by rw[HE.out.1];exact⟨none,0,rfl,Nat.le_refl _,fun h=>absurd h (Nat.not_lt_zero _)⟩,by rw[HE.out.2];exact hK.out,hqS⟩
theorem zpa(x y:Int)(hy:0<y)(hlt:y≤x)(hy1:y<LB)(lx:(limbs LB x).length≤100000)(v1 v2:Value)(w:World)(i1:zO w v1 (limbs LB x))(i2:zO w v2 (limbs LB y)) :
  Calls Tryz.prog 208 #[v1,v2] w fun e w'=>∃ q r,e=.returned (.tuple #[q,r])∧zO w' q (limbs LB (x / y))∧zO w' r (limbs LB (x % y))∧Q w w':=by
 have hx:0≤x:=by omega
 have hly:limbs LB y=[y]:=by
  rw[zbz (by decide) hy,Int.emod_eq_of_lt (by omega) hy1,Int.ediv_eq_zero_of_lt (by omega) hy1,zaL (Int.le_refl _)]
 have HC:=LH (fun W (h:Q w W)=>zbB x y hx (by omega) lx (by rw[hly];simp) v1 v2 W (i1.keep h) (i2.keep h))
 have HS:=LH (fun W (h:Q w W)=>zc7 (limbs LB x) y (zQ (by decide) x) hy hy1 (by omega) v1 W (i1.keep h))
 rw[zG (by decide) x hx]at HS
 rw[hly]at i2
 obtain⟨b,o,cap,rfl,-,-,hA⟩:∃ b o cap,v2=.slice (some ⟨b,o,none⟩) 1 cap∧True∧True∧zjb w b o [y]:=by
  obtain⟨a,cap,rfl,hcap,hc⟩:=i2
  obtain⟨b,o,rfl,hA⟩:=hc (by simp)
  exact⟨b,o,cap,rfl,trivial,trivial,hA⟩
 have hcy:w.cell? ⟨b,o,none⟩=some (.int .i64 y):=by simpa using hA.2 0 (by simp)
 clear i1 hly hA
 have hq0:Q w (w.alloc (.cells #[.slice none 0 0] 29)):=(Below.refl _ w).alloc (Nat.le_refl _) _
 have hb0:=Boxed.new w 29 (.slice none 0 0)
 go_enter Tryz.func208,Tryz.ntmps208
 go_wp2_with fail
 refine(HC.out _ hq0).mono ?_
 rintro e w1⟨z,rfl,hz,hq1⟩
 have hz0:0≤z:=by
  have:=hz.1
  by_cases h:z<0
  ·have:=this.1 h;omega
  ·omega
 have hb1:=zu hb0 (KC.q hq1)
 have hqq:=Q.trans hq0 hq1
 have hcy1:=za hqq hcy
 clear hz
 go_wp2_with fail
 refine(HS.out _ hqq).mono ?_
 rintro e w2⟨q,r,rfl,hq,hr,hq2⟩
 have HQ0:=LH hq
 obtain⟨aq,cq,rfl,-,-⟩:=hq
 generalize hlq:(limbs LB (x / y)).length=nq at *
 have hq:=HQ0.out
 clear hlq
 have hb2:=zu hb1 (KC.q hq2)
 have hc2:=hb2.cell
 have hf2:=hb2.frozen
 have hbS:=hb2.set (.slice aq nq cq)
 have hcS:=hbS.cell
 have hqS:Q w (w2.setCell ⟨w.heap.size,0,none⟩ (.slice aq nq cq)):=(Q.trans hqq hq2).setCell (p:=⟨w.heap.size,0,none⟩) (by simp) _
 have hQ':Hid (zO (w2.setCell ⟨w.heap.size,0,none⟩ (.slice aq nq cq)) (.slice aq nq cq) (limbs LB (x / y))∧zO (w2.setCell ⟨w.heap.size,0,none⟩ (.slice aq nq cq)) r (limbs LB (x % y))):=LH ⟨hq.beside1 hb2 _,hr.beside1 hb2 _⟩
 clear hq hr
 go_wp2
 exact bodyPost_ret (results_cell_tmp _ 4 5 rfl _ _ w.heap.size _ _ rfl hcS rfl) rfl ⟨_,_,rfl,hQ'.out.1,hQ'.out.2,hqS⟩
theorem zrn(U:List Int)(k:Nat):zaz (U++List.replicate k 0)++[.int .i64 0]=zaz (U++List.replicate (k+1) 0):=by
 rw[List.replicate_succ',← List.append_assoc,zhb]
theorem zgq(w:World)(f:Int):zO (w.alloc (.cells #[.int .i64 f] 3)) (.slice (some ⟨w.heap.size,0,none⟩) 1 1) [f] :=
 ⟨_,_,rfl,Nat.le_refl _,fun _=>⟨_,0,rfl,by simp,fun i hi=>by
  obtain rfl:i=0:=by simp at hi;omega
  simp⟩⟩
theorem zjq(x y:Int)(m:Nat)(hy:0<y)(hlt:y≤x)(hly:(limbs LB y).length=m+2)(lx:(limbs LB x).length≤100000)(ly:(limbs LB y).length≤100000)(v1 v2:Value)(w:World)(i1:zO w v1 (limbs LB x))(i2:zO w v2 (limbs LB y)) :
  CallsIn Fence.wide 9 Tryz.prog 208 #[v1,v2] w fun e w'=>∃ q r,e=.returned (.tuple #[q,r])∧zO w' q (limbs LB (x / y))∧zO w' r (limbs LB (x % y))∧Q w w':=by
 have hx:0≤x:=by omega
 obtain⟨i0,hi,hz0,hz1,hz2⟩:=info_parts zdz
 have HC:=LH (fun W (h:Q w W)=>zbB x y hx (by omega) lx ly v1 v2 W (i1.keep h) (i2.keep h))
 obtain⟨f,hf⟩:∃ f,LB / ((limbs LB y).getD (m+1) 0+1)=f:=⟨_,rfl⟩
 obtain⟨nf0,nf1,nf2,nf3,nf4⟩:=zlL (B:=LB) (by decide) (by decide) hy hly hf.symm
 have hLB:LB=1000000000:=rfl
 have dF:Dig LB [f]:=Dig.one (by omega) nf1
 have hvF:lval LB [f]=f:=by simp[lval]
 have HTA:Hid (∀ W v,Q w W→zO W v [f]→Calls Tryz.prog 147 #[v1,v] W fun e w'=>∃ v',e=.returned v'∧w'.ownsRow W.heap.size 3 1 v' (limbs LB (x*f)).length (zaz (limbs LB (x*f)))∧Q W w'):=LH (fun W v hW hF=>by
  have:=zcn (limbs LB x) [f] (zQ (by decide) x) dF lx (by simp) v1 v W (i1.keep hW) hF
  rw[zG (by decide) x hx,hvF]at this
  exact this)
 have HTB:Hid (∀ W v,Q w W→zO W v [f]→Calls Tryz.prog 147 #[v2,v] W fun e w'=>∃ v',e=.returned v'∧w'.ownsRow W.heap.size 3 1 v' (limbs LB (y*f)).length (zaz (limbs LB (y*f)))∧Q W w'):=LH (fun W v hW hF=>by
  have:=zcn (limbs LB y) [f] (zQ (by decide) y) dF ly (by simp) v2 v W (i2.keep hW) hF
  rw[zG (by decide) y (by omega),hvF]at this
  exact this)
 have hgt:=(zQ (B:=LB) (by decide) y).get (by decide) (m+1)
 obtain⟨b2,o2,cap2,rfl,hA2⟩:∃ b o cap,v2=.slice (some ⟨b,o,none⟩) (m+2) cap∧zjb w b o (limbs LB y):=by
  obtain⟨a,cap,rfl,hcap,hc⟩:=i2
  obtain⟨b,o,rfl,hA⟩:=hc (by omega)
  exact⟨b,o,cap,by rw[hly],hA⟩
 have hct:=hA2.2 (m+1) (by omega)
 obtain⟨a1,cap1,la,rfl,hla⟩:∃ a cap la,v1=.slice a la cap∧(limbs LB x).length=la:=by
  obtain⟨a,cap,rfl,hcap,hc⟩:=i1
  exact⟨a,cap,_,rfl,rfl⟩
 rw[hla]at lx
 rw[hly]at ly
 have hlab:m+2≤la:=by
  by_cases h:la<m+2
  ·have:=zeM (B:=LB) (by decide) hx (x:=x) (y:=y) (by omega)
   omega
  ·omega
 have hlf:(limbs LB (x*f)).length≤la+1:=by
  refine zbZ (by decide) _ _ ?_
  have h1:x<LB ^ la:=zbA (by decide) x hx la (by omega)
  have h2:x*f<LB ^ la*LB:=by
   have h3:x*f≤x*(LB - 1):=Int.mul_le_mul_of_nonneg_left (by omega) hx
   have h4:x*(LB - 1)≤LB ^ la*(LB - 1):=Int.mul_le_mul_of_nonneg_right (by omega) (by omega)
   have h5:LB ^ la*(LB - 1)=LB ^ la*LB - LB ^ la:=by rw[Int.mul_sub,Int.mul_one]
   omega
  rw[Int.pow_succ];exact h2
 have hxf:0≤x*f:=Int.mul_nonneg hx (by omega)
 have hyf:0<y*f:=Int.mul_pos hy (by omega)
 obtain⟨hs1,hs2,hs3⟩:=zpM x y f (by omega) hy
 have HS1:=LH hs1
 have HS2:=LH hs2
 have dU:=zQ (B:=LB) (by decide) (x*f)
 have dV:=zQ (B:=LB) (by decide) (y*f)
 have vU:=LH (zG (B:=LB) (by decide) (x*f) hxf)
 have vV:=LH (zG (B:=LB) (by decide) (y*f) (by omega))
 have HF:=LH hf
 have HV:=LH nf2
 have HV3:=LH nf3
 have HV4:=LH nf4
 clear i1 i2 hA2 hs1 hs2 hs3 hf nf2 nf3 nf4 hvF hla hly
 generalize (limbs LB y).getD (m+1) 0=t at *
 generalize hUl:limbs LB (x*f)=U at *
 generalize hVl:limbs LB (y*f)=V at *
 clear hUl hVl
 have ht1:LB / (t+1)=f:=HF.out
 have hw1:=Go.IntWalk.i64_in (t+1) (by omega)
 have ht0:¬ t+1=0:=by omega
 have ht2:(t+1 == 0)=false:=by rw[beq_eq_false_iff_ne];omega
 rw[hLB]at ht1 nf1
 refine callsIn_of_wp_marks Tryz.func208 rfl trivial ?_ rfl
 simp only[Tryz.ntmps208,List.size_toArray,List.length_cons,List.length_nil,Nat.reduceAdd,Nat.reduceSub,Array.replicate_succ,Array.replicate_zero,List.push_toArray,List.append_toArray,List.nil_append,List.cons_append]
 have hq0:Q w (w.alloc (.cells #[.slice none 0 0] 29)):=(Below.refl _ w).alloc (Nat.le_refl _) _
 have hb0:=Boxed.new w 29 (.slice none 0 0)
 refine wpIn_wide.2 ?_
 go_wp2_with fail
 refine(HC.out _ hq0).mono ?_
 rintro e w1⟨z,rfl,hz,hq1⟩
 have hz0:0≤z:=by
  have:=hz.1
  by_cases h:z<0
  ·have:=this.1 h;omega
  ·omega
 have hqq:=Q.trans hq0 hq1
 have hb1:=zu hb0 (KC.q hq1)
 have hct1:=za hqq hct
 clear hz hct
 go_wp2_with fail
 have hU0:0<U.length:=by
  cases hU:U with
  | nil=>have h:=vU.out;rw[hU]at h;have:0<x*f:=Int.mul_pos (by omega) (by omega);simp[lval]at h;omega
  | cons a l=>simp
 have hV0:V.length=m+2:=HV.out
 rw[ht1]
 clear ht1 hw1 ht0 ht2 hct1 hgt
 have hq2:Q w (w1.alloc (.cells #[.int .i64 f] 3)):=hqq.alloc hqq.size _
 refine(HTA.out _ _ hq2 (zgq w1 f)).mono ?_
 rintro e w2⟨v37,rfl,ho37,hq2'⟩
 have hqw2:=Q.trans hq2 hq2'
 have hb2':=zu (hb1.alloc (.cells #[.int .i64 f] 3)) (KC.q hq2')
 obtain⟨g1,cp1,rfl,hg1,hg1l⟩:=ho37.form hU0
 have hs1:=hqq.size
 have hs2:=hq2'.size
 rw[World.size_alloc]at hg1 hs2 ho37
 go_wp2_with (at_builtin;refine wpList_append_lies _ rfl (.tmp 37) (.tmp 38) 29 rfl (w1.heap.size+1) 3 i0 _ 1 8 Tryz.underlying29 hi ‹_› hz1 hz2 rfl (by decide) _ U.length (zaz U) rfl (ho37.alloc _) ⟨w2.heap.size,0,none⟩ 1 1 [.int .i64 0] rfl rfl (cell_one_new _ _ _) (by simp[Value.oneCell']) (by omega) (by unfold maxLen;omega) (by omega) (by simp;omega) _ rfl ?_)
 intro g2 cp2 w3 hown hgrow hat hg2l
 replace hgrow:(w2.alloc (.cells #[.int .i64 0] 3)).grownBy w3 (some g1):=hgrow
 replace hat:g1=g2∨g2=w2.heap.size+1:=hat.imp (fun e=>Option.some.inj e) id
 have hqw3:Q w w3:=(hqw2.alloc hqw2.size (.cells #[.int .i64 0] 3)).grown hgrow (by simp;omega) (fun k e=>by cases e;omega)
 have hb3:Boxed w3 w.heap.size 29 (.slice none 0 0):=(hb2'.alloc (.cells #[.int .i64 0] 3)).kept hgrow (fun e=>by have:=Option.some.inj e;omega)
 have hg2:w1.heap.size+1≤g2:=by
  omega
 have hs3:=hqw3.size
 have hg2s:g2<w3.heap.size:=hg2l
 rw[show (zaz U++[Value.int .i64 0])=zaz (U++List.replicate 1 0)from(zhb U 0).symm]at hown
 clear ho37 hgrow hat hb2' hb1 hb0 hq0 hq1 hq2 hq2' hg1 hg1l
 go_wp2_with fail
 have hq3a:Q w (w3.alloc (.cells #[.int .i64 f] 3)):=hqw3.alloc hqw3.size _
 refine(HTB.out _ _ hq3a (zgq w3 f)).mono ?_
 rintro e w4⟨v43,rfl,ho43,hq4⟩
 have hqw4:=Q.trans hq3a hq4
 have hkc4:KC w3 w4:=(KC.alloc w3 _).trans (KC.q hq4)
 have hb4:=zu hb3 hkc4
 have hu4:=zJ hown hkc4
 obtain⟨gv,cv,rfl,hgv,hgvl⟩:=ho43.form (by omega)
 rw[World.size_alloc]at hgv ho43
 have hs4:=hq4.size
 rw[World.size_alloc]at hs4
 rw[hV0]at ho43
 rw[hV0]
 have hv4:=zdh ho43 (B':=w.heap.size) (by omega)
 have hu4':=zdh hu4 (B':=w.heap.size) (by omega)
 have hguv:g2≠gv:=by omega
 clear hq3a hq4 hqw3 hqw2 hb3 hown ho43 hu4 hkc4 HTA HTB HC
 go_wp2_with fail
 obtain⟨Ub,hUb⟩:∃ Ub,w4.heap.size=Ub:=⟨_,rfl⟩
 obtain⟨W5,hW5⟩:∃ W5,(w4.alloc (.cells #[.slice (some ⟨g2,0,none⟩) (U.length+1) cp2] 29)).alloc (.cells #[.slice (some ⟨gv,0,none⟩) (m+2) cv] 29)=W5:=⟨_,rfl⟩
 have bU5:Boxed W5 Ub 29 (.slice (some ⟨g2,0,none⟩) (U.length+1) cp2):=by
  have:=(Boxed.new w4 29 (.slice (some ⟨g2,0,none⟩) (U.length+1) cp2)).alloc (.cells #[.slice (some ⟨gv,0,none⟩) (m+2) cv] 29)
  rw[hUb,hW5]at this;exact this
 have bV5:Boxed W5 (Ub+1) 29 (.slice (some ⟨gv,0,none⟩) (m+2) cv):=by
  have:=Boxed.new (w4.alloc (.cells #[.slice (some ⟨g2,0,none⟩) (U.length+1) cp2] 29)) 29 (.slice (some ⟨gv,0,none⟩) (m+2) cv)
  rw[World.size_alloc,hUb,hW5]at this;exact this
 have kc5:KC w4 W5:=by rw[← hW5];exact(KC.alloc _ _).trans (KC.alloc _ _)
 have hq5:Q w W5:=by rw[← hW5];exact(hqw4.alloc hqw4.size _).alloc (by simp;have:=hqw4.size;omega) _
 have hb5:=zu hb4 kc5
 have hu5:=LH (zJ hu4' kc5)
 have hv5:=LH (zJ hv4 kc5)
 have hs5:W5.heap.size=Ub+2:=by rw[← hW5];simp[hUb]
 have hgu0:w.heap.size<g2:=by omega
 have hgv0:w.heap.size<gv:=by omega
 have hg2Ub:g2<Ub:=by omega
 have hgvUb:gv<Ub:=by omega
 rw[hW5,hUb]
 clear hW5 kc5 hb4 hu4' hv4 hqw4 hqq hUb hs4 hgv hgvl hg2l hg2 hg2s hs1 hs2
 go_loopw [44] (fun _ wr=>∃ (k gu cu:Nat),1≤k∧(k=1∨U.length+k≤la+1)∧Boxed wr Ub 29 (.slice (some ⟨gu,0,none⟩) (U.length+k) cu)∧Boxed wr (Ub+1) 29 (.slice (some ⟨gv,0,none⟩) (m+2) cv)∧Boxed wr w.heap.size 29 (.slice none 0 0) ∧
  Hid (wr.ownsRow w.heap.size 3 1 (.slice (some ⟨gu,0,none⟩) (U.length+k) cu) (U.length+k) (zaz (U++List.replicate k 0)))∧Hid (wr.ownsRow w.heap.size 3 1 (.slice (some ⟨gv,0,none⟩) (m+2) cv) (m+2) (zaz V))∧(w.heap.size<gu∧gu≠gv∧gu≠Ub∧gu≠Ub+1)∧Q w wr) (fun _ wr=>match wr.cell? ⟨Ub,0,none⟩with | some (.slice _ n _)=>la+2 - n | _=>0)
 case atStart=>exact⟨1,g2,cp2,Nat.le_refl _,.inl rfl,bU5,bV5,hb5,hu5,hv5,⟨hgu0,hguv,by omega,by omega⟩,hq5⟩
 case round =>
  clear bU5 bV5 hb5 hu5 hv5 hq5 hgu0 hguv hg2Ub
  obtain⟨k,gu,cu,hk1,hk2,bU,bV,bN,hu,hv,⟨hg0,hg1,hg2,hg3⟩,hQ⟩:=hrel
  have hcU:=bU.cell
  have hfU:=bU.frozen
  by_cases hlt:U.length+k<la+1
  ·have hlt2:(U.length:Int)+(k:Int)<(la:Int)+1:=by omega
   have hws:=hQ.size
   have hUlt:=bU.lt
   have ho:=hu.out
   go_wp2_with (at_builtin;refine wpList_append_lies _ rfl (.tmp 50) (.tmp 51) 29 rfl w.heap.size 3 i0 _ 1 8 Tryz.underlying29 hi ‹_› hz1 hz2 rfl (by decide) _ (U.length+k) (zaz (U++List.replicate k 0)) rfl (ho.alloc _) ⟨wr.heap.size,0,none⟩ 1 1 [.int .i64 0] rfl rfl (cell_one_new _ _ _) (by simp[Value.oneCell']) (by omega) (by unfold maxLen;omega) (by omega) (by simp;omega) _ rfl ?_)
   intro g' c' w6 hown hgrow hat hlt6
   replace hgrow:(wr.alloc (.cells #[.int .i64 0] 3)).grownBy w6 (some gu):=hgrow
   replace hat:gu=g'∨g'=wr.heap.size+1:=hat.imp (fun e=>Option.some.inj e) id
   have bU6:=(bU.alloc (.cells #[.int .i64 0] 3)).kept hgrow (fun e=>by have:=Option.some.inj e;omega)
   have bV6:=(bV.alloc (.cells #[.int .i64 0] 3)).kept hgrow (fun e=>by have:=Option.some.inj e;omega)
   have bN6:=(bN.alloc (.cells #[.int .i64 0] 3)).kept hgrow (fun e=>by have:=Option.some.inj e;omega)
   have hv6:=zb8 (hv.out.alloc (.cells #[.int .i64 0] 3)) hgrow (Ne.symm hg1)
   have hq6:Q w w6:=(hQ.alloc hws (.cells #[.int .i64 0] 3)).grown hgrow (by simp;omega) (fun k e=>by cases e;omega)
   rw[zrn]at hown
   have hcU6:=bU6.cell
   have hfU6:=bU6.frozen
   have bU7:=bU6.set (.slice (some ⟨g',0,none⟩) (U.length+k+1) c')
   have hcU7:=bU7.cell
   have bVlt:=bV.lt
   have hUg:Ub≠g':=by omega
   have hu7:=LH (zX hown hUg 0 (.slice (some ⟨g',0,none⟩) (U.length+k+1) c'))
   have hv7:=LH (zX hv6 (b:=Ub) (by omega) 0 (.slice (some ⟨g',0,none⟩) (U.length+k+1) c'))
   have hws2:w.heap.size<Ub:=by omega
   have bV7:=bV6.other (B':=Ub) (by omega) (.slice (some ⟨g',0,none⟩) (U.length+k+1) c')
   have bN7:=bN6.other (B':=Ub) (by omega) (.slice (some ⟨g',0,none⟩) (U.length+k+1) c')
   have hq7:Q w (w6.setCell ⟨Ub,0,none⟩ (.slice (some ⟨g',0,none⟩) (U.length+k+1) c')):=hq6.setCell (p:=⟨Ub,0,none⟩) (by simp;omega) _
   clear hown hgrow ho hu hv hv6 bU6 bV6 bN6
   go_wp2
   go_roundw
   case rel=>exact⟨k+1,g',c',by omega,.inr (by omega),bU7,bV7,bN7,hu7,hv7,⟨by omega,by omega,by omega,by omega⟩,hq7⟩
   case measure=>rw[hcU,hcU7];simp;omega
  ·obtain⟨lu,hlu⟩:∃ lu,U.length+k=lu:=⟨_,rfl⟩
   rw[hlu]at bU hu hlt hcU
   obtain⟨N,hN⟩:∃ N,lu=N+(m+2):=⟨lu - (m+2),by omega⟩
   have hsub:(lu:Int) - ((m:Int)+2)=(N:Int):=by omega
   have hN0:0<N:=by omega
   have hlul:lu≤200002:=by omega
   have hNl:N≤200000:=by omega
   have HLU:=LH hlu
   have HNN:=LH hN
   have hlt3:¬ ((lu:Int)<(la:Int)+1):=by omega
   have hlt4:decide ((lu:Int)<(la:Int)+1)=false:=by simpa using hlt3
   have hlul2:m+2≤lu:=by omega
   clear hlu hN hlt hk2
   have hcV:=bV.cell
   have hcN:=bN.cell
   have hfN:=bN.frozen
   obtain⟨W8,hmk,hown,hgr⟩:=run_make_full (P:=Tryz.prog) wr wr.heap.size 29 3 i0 _ 1 Tryz.underlying29 hi ‹_› hz1 .i64 .i64 N (by rw[hz2];omega) (by unfold maxLen;omega) (Nat.le_refl _)
   rw[show (Value.int .i64 0).cells=#[Value.int .i64 0]from rfl,Nat.mul_one,toList_madeCells_one,zea]at hown
   obtain⟨gq,hgq⟩:∃ gq,wr.heap.size=gq:=⟨_,rfl⟩
   have bN8:=bN.kept hgr (by simp)
   have bU8:=bU.kept hgr (by simp)
   have bV8:=bV.kept hgr (by simp)
   have hcN8:=bN8.cell
   have hfN8:=bN8.frozen
   have hgql:=(hown.lt wr.heap.size rfl).2
   rw[hgq]at hmk hown hgql
   go_wp2_with fail
   refine(callsIn_wide.1 (zc9 Fence.wide 8 trivial rfl _ _ ⟨_,_,_,rfl⟩)).mono ?_
   rintro e w9⟨rfl,rfl⟩
   have hN':=HNN.out
   have hL':=HLU.out
   have hUb1:Ub<W8.heap.size:=bU8.lt
   have hVb1:Ub+1<W8.heap.size:=bV8.lt
   have hws:=hQ.size
   have hgqU:Ub+1<gq:=by rw[← hgq];exact bV.lt
   have hgugq:gu<gq:=by rw[← hgq];exact(hu.out.lt gu rfl).2
   have hgvgq:gv<gq:=by omega
   have kcA:KC wr W8:=KC.of (B:=0) hgr (fun r e=>by cases e)
   obtain⟨W9,hW9⟩:∃ W9,W8.setCell ⟨w.heap.size,0,none⟩ (.slice (some ⟨gq,0,none⟩) N N)=W9:=⟨_,rfl⟩
   have hS9:W9.heap.size=W8.heap.size:=by rw[← hW9];simp[World.setCell]
   have bN9:Boxed W9 w.heap.size 29 (.slice (some ⟨gq,0,none⟩) N N):=by rw[← hW9];exact bN8.set _
   have bU9:Boxed W9 Ub 29 (.slice (some ⟨gu,0,none⟩) lu cu):=by rw[← hW9];exact bU8.other (by omega) _
   have bV9:Boxed W9 (Ub+1) 29 (.slice (some ⟨gv,0,none⟩) (m+2) cv):=by rw[← hW9];exact bV8.other (by omega) _
   have hu9:=zX (zJ hu.out kcA) (b:=w.heap.size) (by omega) 0 (.slice (some ⟨gq,0,none⟩) N N)
   have hv9:=zX (zJ hv.out kcA) (b:=w.heap.size) (by omega) 0 (.slice (some ⟨gq,0,none⟩) N N)
   have hq9:=zX (zdh hown (B':=w.heap.size) (by omega)) (b:=w.heap.size) (by omega) 0 (.slice (some ⟨gq,0,none⟩) N N)
   have hQ9:Q w W9:=by rw[← hW9];exact(hQ.grown hgr hws (fun k hk=>by cases hk)).setCell (p:=⟨w.heap.size,0,none⟩) (by simp) _
   rw[hW9]at hu9 hv9 hq9 ⊢
   obtain⟨Sb,hSb⟩:∃ Sb,W8.heap.size=Sb:=⟨_,rfl⟩
   rw[hSb]at hS9 hUb1 hVb1 hgql
   obtain⟨W10,hW10⟩:∃ W10,W9.alloc (.cells #[.slice (some ⟨gq,0,none⟩) N N] 29)=W10:=⟨_,rfl⟩
   have kcB:KC W9 W10:=by rw[← hW10];exact KC.alloc _ _
   have bS10:Boxed W10 Sb 29 (.slice (some ⟨gq,0,none⟩) N N):=by
    have:=Boxed.new W9 29 (.slice (some ⟨gq,0,none⟩) N N)
    rw[hS9,hW10]at this;exact this
   have hQ10:Q w W10:=by rw[← hW10];exact hQ9.alloc hQ9.size _
   have hS10:W10.heap.size=Sb+1:=by rw[← hW10];simp[hS9]
   have bN10:=zu bN9 kcB
   have bU10:=zu bU9 kcB
   have bV10:=zu bV9 kcB
   have hu10:=zJ hu9 kcB
   have hv10:=zJ hv9 kcB
   have hq10:=zJ hq9 kcB
   have hD0:Hid (DivInv LB (x*f) (y*f) (N - ([]:List (PlN N)).length) (U++List.replicate k 0) (List.replicate N 0) (m+2)):=LH (by
    have hp:=zoP (B:=LB) (by decide) dU (k:=k) (m:=N) (n:=m+1) hk1 (by omega)
    have h4:=HV4.out
    have:=DivInv.start (B:=LB) (by decide) (u:=U++List.replicate k 0) (dU.append (zhW (by decide) k)) (n:=m+2) (m:=N) (by simp;omega) (V:=y*f) (by omega)
    rw[zoO,vU.out]at this
    exact this)
   rw[hS9,hW10]
   clear hW10 hW9 kcA kcB bN9 bU9 bV9 hu9 hv9 hq9 hQ9 hS9 bN8 bU8 bV8 bN bU bV hcU hfU hcV hcN hfN hcN8 hfN8 hu hv hown hgr hmk hQ hsub hlt4 hSb hgq hlt3
   go_wp2_with fail
   refine(wpIn_wide (n:=9)).1 ?_
   refine zaX (m:=9) (gf:=307) (lb:=#[.pointer (some ⟨Sb,0,none⟩)]) (by omega) rfl (enters_of Tryz.func307 (by kernel_rfl) rfl)
    (zk6 Sb gq N N (by omega) W10 8 (by omega) bS10.cell) (by simp;omega) (fun _=>rfl)
    (fun pre W=>Boxed W w.heap.size 29 (.slice (some ⟨gq,0,none⟩) N N)∧Boxed W Ub 29 (.slice (some ⟨gu,0,none⟩) lu cu)∧Boxed W (Ub+1) 29 (.slice (some ⟨gv,0,none⟩) (m+2) cv) ∧
     W.ownsRow w.heap.size 3 1 (.slice (some ⟨gv,0,none⟩) (m+2) cv) (m+2) (zaz V) ∧
     (∃ u qs,W.ownsRow w.heap.size 3 1 (.slice (some ⟨gu,0,none⟩) lu cu) lu (zaz u)∧W.ownsRow w.heap.size 3 1 (.slice (some ⟨gq,0,none⟩) N N) N (zaz qs)∧Hid (DivInv LB (x*f) (y*f) (N - pre.length) u qs (m+2)))∧Q w W)
    (fun _ _ _=>False)
    (fun pre W h hlt=>by
     obtain⟨u,qs,h1,h2,h3⟩:=h.2.2.2.2.1
     have hlq:qs.length=N:=by have:=h3.out.len;have:=h1.1;have:=h2.1;simp[zaz]at *;omega
     have hc:=h2.cellAt (N - 1 - pre.length) (by omega)
     rw[zbx qs _ (by omega),h3.out.low _ (by omega)]at hc
     exact hc)
    (fun pre W W' h k hb=>⟨zu h.1 k,zu h.2.1 k,zu h.2.2.1 k,zJ h.2.2.2.1 k,by
     obtain⟨u,qs,h1,h2,h3⟩:=h.2.2.2.2.1
     exact⟨u,qs,zJ h1 k,zJ h2 k,h3⟩,Below.trans h.2.2.2.2.2 (hb.mono hQ10.size)⟩)
    (fun _ _ _ _ h _ _=>h)
    ⟨bN10,bU10,bV10,hv10,⟨_,_,hu10,hq10,hD0⟩,hQ10⟩
    ?a1 ?assign ?body ?done ?stop
   case assign =>
    intro l x W K hK
    gi_wp2
    exact hK
   case stop =>
    rintro D c pre W _ _ h _
    exact h.elim
   case body =>
    rintro l pre xx W⟨hbN,hbU,hbV,hrv,⟨u,qs,hru,hrq,hD⟩,hQ⟩ ⟨hdn,hxj,hpl⟩
    obtain⟨j,hj⟩:=xx
    simp only at hxj
    have hLB:LB=1000000000:=rfl
    rw[show N - pre.length=j+1 by omega]at hD
    have hlq:qs.length=N:=by have:=hrq.1;simpa[zaz]using this
    have hun:u.length=lu:=by have:=hD.out.len;omega
    have hdg:=hD.out.dig
    obtain⟨hX0,hX1⟩:=hD.out.window (by decide) (j:=j) (by omega)
    have hst:=LH (fun u'=>hD.out.step (u':=u') (by decide) hyf (j:=j) (by omega))
    have hli:N - (pre.length+1)=j:=by omega
    have HLI:=LH hli
    rw[← vV.out]at hX1 hst
    have hIU:=zbn (v:=.slice (some ⟨gu,0,none⟩) lu cu) (l:=u) (by rw[hun];exact hru)
    have hIV:=zbn (v:=.slice (some ⟨gv,0,none⟩) (m+2) cv) (l:=V) (by rw[hV0];exact hrv)
    have HEst:=LH (zhJ j m lu cu cv u V hun hV0 hdg dV (by omega) (by omega) hX1 HV3.out _ _ W hIU hIV)
    have HTake:Hid (∀ (q:Int) (wr:World),0≤q→q≤1000000001→wr.ownsRow w.heap.size 3 1 (.slice (some ⟨gu,0,none⟩) lu cu) lu (zaz u)→wr.ownsRow w.heap.size 3 1 (.slice (some ⟨gv,0,none⟩) (m+2) cv) (m+2) (zaz V) →
      Calls Tryz.prog 272 #[.slice (some ⟨gu,0,none⟩) lu cu,.slice (some ⟨gv,0,none⟩) (m+2) cv,.int .i64 j,.int .i64 q] wr fun e w'=>∃ u' c,e=.returned (.bool (decide (0<c)))∧TakeInv LB u V j q (V.length+1) u' c ∧
       w'.ownsRow w.heap.size 3 1 (.slice (some ⟨gu,0,none⟩) lu cu) lu (zaz u')∧wr.grownBy w' (some gu)):=LH (fun q wr h0 h1 hu hv=>zl6 w.heap.size gu cu j lu u V q hun hdg dV (by omega) (by omega) h0 h1 _ wr hu (ziT hv hV0 (Ne.symm hg1)))
    have HRest:Hid (∀ (q:Int) (wr:World) (u':List Int) (c:Int),TakeInv LB u V j q (V.length+1) u' c→0≤q→q≤1000000001→wr.ownsRow w.heap.size 3 1 (.slice (some ⟨gu,0,none⟩) lu cu) lu (zaz u')→wr.ownsRow w.heap.size 3 1 (.slice (some ⟨gv,0,none⟩) (m+2) cv) (m+2) (zaz V) →
      Calls Tryz.prog 273 #[.slice (some ⟨gu,0,none⟩) lu cu,.slice (some ⟨gv,0,none⟩) (m+2) cv,.int .i64 j,.int .i64 q] wr fun e w'=>e=.returned (.slice (some ⟨gu,0,none⟩) lu cu) ∧
       w'.ownsRow w.heap.size 3 1 (.slice (some ⟨gu,0,none⟩) lu cu) lu (zaz u)∧wr.grownBy w' (some gu)):=LH (fun q wr u' c hT h0 h1 hu hv=>by
     refine(ziQ w.heap.size gu cu j lu u' V q (by rw[hT.len];exact hun) hT.dig dV (by omega) (by omega) h0 h1 _ wr hu (ziT hv hV0 (Ne.symm hg1))).mono ?_
     rintro e w'⟨u2,c2,rfl,hB,h2,h3⟩
     rw[BackInv.undone (by decide) hdg dV (by omega) hT hB hX1]at h2
     exact⟨rfl,h2,h3⟩)
    have HEnd:Hid (∀ (q:Int) (u':List Int) (c:Int),TakeInv LB u V j q (V.length+1) u' c→lval LB (u.drop j) / lval LB V≤q→(0<c→lval LB (u.drop j) / lval LB V≤q - 1)∧(¬ 0<c→DivInv LB (x*f) (y*f) j u' (qs.set j q) (m+2))):=LH (fun q u' c hT hq=>by
     have hVp:0<lval LB V:=by rw[vV.out];exact hyf
     by_cases hle:q*lval LB V≤lval LB (u.drop j)
     ·obtain⟨e1,e2,e3⟩:=hT.enough (by decide) hdg dV (by omega) (by omega) hX1 hle
      have hq2:q≤lval LB (u.drop j) / lval LB V:=(Int.le_ediv_iff_mul_le hVp).2 hle
      obtain rfl:q=lval LB (u.drop j) / lval LB V:=by omega
      have h9:=hst.out u' hT.len hT.dig e2 e3
      rw[vV.out]at h9 ⊢
      exact⟨fun h=>by omega,fun _=>h9⟩
     ·have h1:=hT.tooMuch (by decide) hdg (by omega) (by omega) (by omega)
      have h2:lval LB (u.drop j) / lval LB V<q:=Int.ediv_lt_of_lt_mul hVp (by omega)
      exact⟨fun _=>by omega,fun h=>absurd h1 h⟩)
    generalize lval LB (u.drop j) / lval LB V=qt at *
    clear hst hX0 hX1 hIU hIV hdg hdn hxj hD hun hlq hN' hL' hli
    have hcU:=hbU.cell
    have hcV:=hbV.cell
    gi_wp2_with fail
    refine⟨trivial,?_⟩
    with_reducible refine CallsIn.mono (CallsIn.inRound l (callsIn_wide.2 HEst.out)) ?_
    rintro e w1⟨q0,rfl,hqa,hqb,hqc,hqw⟩
    rw[show LB=1000000000 from rfl]at hqc
    have kc1:=KC.q hqw
    have bN1:=zu hbN kc1
    have bU1:=zu hbU kc1
    have bV1:=zu hbV kc1
    have rv1:=zJ hrv kc1
    have ru1:=zJ hru kc1
    have rq1:=zJ hrq kc1
    have kf1:KeepsFrom W10.heap.size W w1:=(KeepsOthers.of_grownBy (zas hqw none) (fun j o e=>by cases e)).from _
    have kb1:zI [Sb] W w1:=zI.q hqw
    have hQ1:=Q.trans hQ hqw
    clear hcU hcV
    gi_wp2_with fail
    gi_loopw [10] (fun qv wr=>∃ q:Int,qv=.int .i64 q∧qt≤q∧0≤q∧q≤1000000001∧Boxed wr w.heap.size 29 (.slice (some ⟨gq,0,none⟩) N N)∧Boxed wr Ub 29 (.slice (some ⟨gu,0,none⟩) lu cu)∧Boxed wr (Ub+1) 29 (.slice (some ⟨gv,0,none⟩) (m+2) cv) ∧
     wr.ownsRow w.heap.size 3 1 (.slice (some ⟨gv,0,none⟩) (m+2) cv) (m+2) (zaz V)∧wr.ownsRow w.heap.size 3 1 (.slice (some ⟨gu,0,none⟩) lu cu) lu (zaz u)∧wr.ownsRow w.heap.size 3 1 (.slice (some ⟨gq,0,none⟩) N N) N (zaz qs)∧(KeepsFrom W10.heap.size W wr∧zI [Sb] W wr∧Q w wr)) (fun qv _=>(intOf qv).toNat)
    case atStart=>exact⟨q0,rfl,hqa,hqb,by omega,bN1,bU1,bV1,rv1,ru1,rq1,kf1,kb1,hQ1⟩
    case round =>
     clear bN1 bU1 bV1 rv1 ru1 rq1 kf1 kb1 hQ1 hqa hqb hqc hqw
     obtain⟨q,rfl,hqa,hqb,hqc,hbN,hbU,hbV,hrv,hru,hrq,hkf,hkb,hQr⟩:=hrel
     have hcU:=hbU.cell
     have hcV:=hbV.cell
     have HT:=LH (HTake.out q wr hqb hqc hru hrv)
     gi_wp2_with fail
     refine⟨trivial,?_⟩
     with_reducible refine CallsIn.mono (CallsIn.inRound l (callsIn_wide.2 HT.out)) ?_
     rintro e w2⟨u',c,rfl,hTk,hru2,hg2'⟩
     have hE:=HEnd.out q u' c hTk hqa
     have HTk:=LH hTk
     have HE:=LH hE
     clear hTk hE hcU hcV HT
     have bN2:=hbN.kept hg2' (fun e=>by have:=Option.some.inj e;omega)
     have bU2:=hbU.kept hg2' (fun e=>by have:=Option.some.inj e;omega)
     have bV2:=hbV.kept hg2' (fun e=>by have:=Option.some.inj e;omega)
     have rv2:=zb8 hrv hg2' (Ne.symm hg1)
     have rq2:=zb8 hrq hg2' (by omega)
     have kf2:KeepsFrom W10.heap.size W w2:=hkf.trans (KeepsFrom.of_grownBy hg2' (fun j e=>by have:=Option.some.inj e;omega))
     have kb2:zI [Sb] W w2:=hkb.trans (zI.grown hg2' (by simp;omega))
     have hQ2:Q w w2:=hQr.grown hg2' hQr.size (fun k e=>by have:=Option.some.inj e;omega)
     by_cases hc0:0<c
     ·have hq1:=HE.out.1 hc0
      have hcq:=HTk.out.c1
      have hd:decide (0<c)=true:=by simpa using hc0
      have HR:=LH (HRest.out q w2 u' c HTk.out hqb hqc hru2 rv2)
      have hcU:=bU2.cell
      have hcV:=bV2.cell
      clear HE HTk hru2
      gi_wp2_with fail
      refine⟨trivial,?_⟩
      with_reducible refine CallsIn.mono (CallsIn.inRound l (callsIn_wide.2 HR.out)) ?_
      rintro e w3⟨rfl,hru3,hg3'⟩
      have bN3:=bN2.kept hg3' (fun e=>by have:=Option.some.inj e;omega)
      have bU3:=bU2.kept hg3' (fun e=>by have:=Option.some.inj e;omega)
      have bV3:=bV2.kept hg3' (fun e=>by have:=Option.some.inj e;omega)
      have rv3:=zb8 rv2 hg3' (Ne.symm hg1)
      have rq3:=zb8 rq2 hg3' (by omega)
      have kf3:KeepsFrom W10.heap.size W w3:=kf2.trans (KeepsFrom.of_grownBy hg3' (fun j e=>by have:=Option.some.inj e;omega))
      have kb3:zI [Sb] W w3:=kb2.trans (zI.grown hg3' (by simp;omega))
      have hQ3:Q w w3:=hQ2.grown hg3' hQ2.size (fun k e=>by have:=Option.some.inj e;omega)
      have hcU3:=bU3.cell
      have hfU3:=bU3.frozen
      have hwU:w.heap.size<Ub:=by omega
      have bU4:=bU3.set (.slice (some ⟨gu,0,none⟩) lu cu)
      have bN4:=bN3.other (B':=Ub) (by omega) (.slice (some ⟨gu,0,none⟩) lu cu)
      have bV4:=bV3.other (B':=Ub) (by omega) (.slice (some ⟨gu,0,none⟩) lu cu)
      have rv4:=zX rv3 (b:=Ub) (by omega) 0 (.slice (some ⟨gu,0,none⟩) lu cu)
      have ru4:=zX hru3 (b:=Ub) (by omega) 0 (.slice (some ⟨gu,0,none⟩) lu cu)
      have rq4:=zX rq3 (b:=Ub) (by omega) 0 (.slice (some ⟨gu,0,none⟩) lu cu)
      have kf4:KeepsFrom W10.heap.size W (w3.setCell ⟨Ub,0,none⟩ (.slice (some ⟨gu,0,none⟩) lu cu)):=kf3.trans ((KeepsOthers.setCell _ _ _).from _)
      have kb4:zI [Sb] W (w3.setCell ⟨Ub,0,none⟩ (.slice (some ⟨gu,0,none⟩) lu cu)):=kb3.trans (zI.set _ (by simp;omega) _ _)
      have hQ4:Q w (w3.setCell ⟨Ub,0,none⟩ (.slice (some ⟨gu,0,none⟩) lu cu)):=hQ3.setCell (p:=⟨Ub,0,none⟩) (by simp;omega) _
      clear HR hcU hcV bN2 bU2 bV2 rv2 rq2 kf2 kb2 hQ2 bN3 bU3 bV3 rv3 rq3 kf3 kb3 hQ3
      gi_wp2
      go_roundw
      case rel=>exact⟨q - 1,rfl,hq1,by omega,by omega,bN4,bU4,bV4,rv4,ru4,rq4,kf4,kb4,hQ4⟩
      case measure=>simp[intOf];omega
     ·have hD':=LH (HE.out.2 (by omega))
      have hd:decide (0<c)=false:=by simpa using hc0
      have hlq:qs.length=N:=by have:=hrq.1;simpa[zaz]using this
      have hcN:=bN2.cell
      have hce:=rq2.cellAt j (by omega)
      rw[zbx qs j (by omega)]at hce
      have hfe:=rq2.frozenAt j
      have hj0:(0:Int)≤(j:Int):=by omega
      have hjN:(j:Int)<(N:Int):=by omega
      have hrqs:=rq2.stored j (.int .i64 q)
      obtain⟨hr4,-⟩:=hrqs
      rw[zcD]at hr4
      have HR4:=LH hr4
      have bN4:=zbq bN2 (g:=gq) (by omega) j (.int .i64 q)
      have bU4:=zbq bU2 (g:=gq) (by omega) j (.int .i64 q)
      have bV4:=zbq bV2 (g:=gq) (by omega) j (.int .i64 q)
      have rv4:=zX rv2 (b:=gq) (by omega) j (.int .i64 q)
      have ru4:=zX hru2 (b:=gq) (by omega) j (.int .i64 q)
      have kf4:KeepsFrom W10.heap.size W (w2.setCell ⟨gq,j,none⟩ (.int .i64 q)):=kf2.trans ((KeepsOthers.setCell _ _ _).from _)
      have kb4:zI [Sb] W (w2.setCell ⟨gq,j,none⟩ (.int .i64 q)):=kb2.trans (zI.set _ (by simp;omega) _ _)
      have hQ4:Q w (w2.setCell ⟨gq,j,none⟩ (.int .i64 q)):=hQ2.setCell (p:=⟨gq,j,none⟩) (by simp;omega) _
      clear HE HTk hc0 hr4 hlq
      gi_wp2
      refine⟨kf4,kb4,bN4,bU4,bV4,rv4,⟨u',_,ru4,HR4.out,LH ?_⟩,hQ4⟩
      rw[List.length_append,List.length_singleton,HLI.out]
      exact hD'.out
   case done =>
    rintro D ys W hD hys⟨hbN,hbU,hbV,hrv,⟨u,qs,hru,hrq,hDv⟩,hQ⟩ hK
    rw[hys.len,Nat.sub_self]at hDv
    obtain⟨e1,e2⟩:=hDv.out.done (by decide)
    have hlq:qs.length=N:=by have:=hrq.1;simpa[zaz]using this
    have hlu:u.length=lu:=by have:=hru.1;simpa[zaz]using this
    have HTU:Hid (∀ w',Q W w'→Calls Tryz.prog 201 #[.slice (some ⟨gu,0,none⟩) lu cu] w' fun e w''=>e=.returned (.slice (some ⟨gu,0,none⟩) (zaJ u).length cu)∧w''=w'):=LH (fun w' hq=>by
     have hs:=(zbn (v:=.slice (some ⟨gu,0,none⟩) lu cu) (l:=u) (by rw[hlu];exact hru)).keep hq
     have:=za8 u (by omega) (some ⟨gu,0,none⟩) cu w' (by rw[hlu];exact hs)
     rw[hlu]at this
     exact this)
    have HTQ:Hid (∀ w',Q W w'→Calls Tryz.prog 201 #[.slice (some ⟨gq,0,none⟩) N N] w' fun e w''=>e=.returned (.slice (some ⟨gq,0,none⟩) (zaJ qs).length N)∧w''=w'):=LH (fun w' hq=>by
     have hs:=(zbn (v:=.slice (some ⟨gq,0,none⟩) N N) (l:=qs) (by rw[hlq];exact hrq)).keep hq
     have:=za8 qs (by omega) (some ⟨gq,0,none⟩) N w' (by rw[hlq];exact hs)
     rw[hlq]at this
     exact this)
    have hlt:=zaW u
    have hltq:=zaW qs
    have hrT:=zcA hru (m:=(zaJ u).length) (by omega)
    have hrTq:=zcA hrq (m:=(zaJ qs).length) (by omega)
    rw[zdT,hlt.2,e2]at hrT
    rw[zdT,hltq.2,e1,HS1.out]at hrTq
    rw[e2]at HTU
    rw[e1,HS1.out]at HTQ
    have hIR:=zbn hrT
    have hrn:0≤x*f % (y*f):=Int.emod_nonneg _ (by omega)
    have HDS:=LH (zc7 (limbs LB (x*f % (y*f))) f (zQ (by decide) _) (by omega) nf1 (by have:=hlt.1;rw[e2]at this;omega) _ W hIR)
    rw[zG (by decide) _ hrn,HS2.out]at HDS
    have HQQ:=LH (zbn hrTq)
    clear hlt hltq hrT e1 e2 hIR hlq hlu hDv hys hN' hL'
    generalize hlr:(limbs LB (x*f % (y*f))).length=lr at *
    generalize hlq:(limbs LB (x / y)).length=lq at *
    have hcU:=hbU.cell
    have hcN:=hbN.cell
    have HLQ:=LH hlq
    clear hlr hlq
    go_wp2_with fail
    refine(HTU.out _ (Q.refl W)).mono ?_
    rintro e w2⟨rfl,rfl⟩
    go_wp2_with fail
    refine HDS.out.mono ?_
    rintro e w3⟨qv,rv,rfl,hrv3,-,hq3⟩
    have kc3:=KC.q hq3
    have bN3:=zu hbN kc3
    have hcN3:=bN3.cell
    have hfN3:=bN3.frozen
    have hQ3:=Q.trans hQ hq3
    have HRV:=LH hrv3
    have hK3:w3.heap[D]? = some (.deferred (some [])):=(hq3.block D (Array.getElem?_eq_some_iff.1 hK).1).trans hK
    obtain⟨ar,cr,rfl,-,-⟩:=hrv3
    generalize hlrr:(limbs LB (x % y)).length=lrr at *
    clear hlrr hcU hcN HDS HTU
    go_wp2_with fail
    refine(HTQ.out _ hq3).mono ?_
    rintro e w4⟨rfl,rfl⟩
    have bN4:=bN3.set (.slice (some ⟨gq,0,none⟩) lq N)
    have hcN4:=bN4.cell
    have hrS:=zX (zJ hrTq kc3) (b:=w.heap.size) (by omega) 0 (.slice (some ⟨gq,0,none⟩) lq N)
    have hRS:=LH (HRV.out.beside1 bN3 (.slice (some ⟨gq,0,none⟩) lq N))
    have hKS:=(KeepsOthers.setCell w4 ⟨w.heap.size,0,none⟩ (.slice (some ⟨gq,0,none⟩) lq N)).same D _ hK3 rfl
    have hQS:Q w (w4.setCell ⟨w.heap.size,0,none⟩ (.slice (some ⟨gq,0,none⟩) lq N)):=hQ3.setCell (p:=⟨w.heap.size,0,none⟩) (by simp) _
    clear HTQ hbN hbU hbV hrv hru hrq hQ hrTq hK hK3 kc3 bN3 hQ3
    go_wp2
    have kc:=KC.put (.deferred none) hKS rfl
    refine⟨by simp,.inl ⟨_,_,rfl,run_takeDeferred hKS,?_⟩⟩
    refine⟨_,results_cell_tmp _ 4 5 rfl _ _ w.heap.size _ _ rfl (zu bN4 kc).cell rfl,_,_,rfl,?_,hRS.out.put hKS _,Below.trans hQS (zaQ (by omega) hKS _)⟩
    exact zbn (l:=limbs LB (x / y)) (by rw[HLQ.out];exact zJ hrS kc)
theorem zcu(x y:Int)(hx:0≤x)(hy:0<y)(lx:(limbs LB x).length≤100000)(ly:(limbs LB y).length≤100000)(v1 v2:Value)(w:World)(i1:zO w v1 (limbs LB x))(i2:zO w v2 (limbs LB y)) :
  Calls Tryz.prog 208 #[v1,v2] w fun e w'=>∃ q r,e=.returned (.tuple #[q,r])∧zO w' q (limbs LB (x / y))∧zO w' r (limbs LB (x % y))∧Q w w':=by
 by_cases hlt:x<y
 ·exact zni x y hx (by omega) hlt lx ly v1 v2 w i1 i2
 ·by_cases h1:y<LB
  ·exact zpa x y hy (by omega) h1 lx v1 v2 w i1 i2
  ·obtain⟨m,hm⟩:∃ m,(limbs LB y).length=m+2:=by
    by_cases h:(limbs LB y).length≤1
    ·have:=zbA (B:=LB) (by decide) y (by omega) 1 h
     rw[show LB ^ 1=LB by decide]at this;omega
    ·exact⟨(limbs LB y).length - 2,by omega⟩
   exact callsIn_wide.1 (zjq x y m hy (by omega) hm lx ly v1 v2 w i1 i2)
end
section
open Go.RowKit Kp
def zdC(w:World)(mag:Int)(v:Value):Prop:=0≤mag∧(limbs LB mag).length≤50000∧zO w v (limbs LB mag)
def sgn(m:Bool)(mag:Int):Int:=if m then -mag else mag
theorem zO.beside{w:World}{v:Value}{l:List Int}{g:Nat}{m:Bool}{a:Option Addr}{n c:Nat}{t:TypeId}(h:zO w v l)(hB:Blk w g [.bool m,.slice a n c] t)(j:Nat)(u:Value):zO (w.setCell ⟨g,j,none⟩ u) v l:=by
 obtain⟨a1,cap,rfl,hcap,hc⟩:=h
 refine⟨a1,cap,rfl,hcap,fun h0=>?_⟩
 obtain⟨b,o,rfl,hb,hi⟩:=hc h0
 have hne:b≠g:=fun e=>by
  subst e
  have h1:=hi 0 h0
  rw[hB.cell]at h1
  match o,h1 with
  | 0,h1=>simp at h1
  | 1,h1=>simp at h1
  | k+2,h1=>simp at h1
 refine⟨b,o,rfl,by simpa[World.setCell]using hb,fun i hi'=>?_⟩
 rw[World.cell?_setCell_far _ _ _ _ (Ne.symm hne)]
 exact hi i hi'
theorem zkn(tmps:Array Value)(W:World)(b:Nat)(x y:Value)(n:Nat)(fn:Func)(hf:fn.results=#[.cell n 204])(hp:tmps.getD n undef=.pointer (some ⟨b,0,none⟩))
  (c0:W.cell? ⟨b,0,none⟩=some x)(c1:W.cell? ⟨b,1,none⟩=some y) :
  (results fn tmps).run Tryz.prog W=.ok (.agg #[x,y]) W:=by
 simp only[Array.getD_eq_getD_getElem?]at hp
 simp[results,hf,go_sem,hp,c0,c1]
theorem zfJ(m1 m2:Bool)(x y:Int)(v1 v2:Value)(w:World)(h1:zdC w x v1)(h2:zdC w y v2) :
  Calls Tryz.prog 146 #[.agg #[.bool m1,v1],.agg #[.bool m2,v2]] w fun e w'=>∃ m z v,e=.returned (.agg #[.bool m,v])∧sgn m z=sgn m1 x+sgn m2 y∧0≤z∧zO w' v (limbs LB z)∧Q w w':=by
 obtain⟨hx,lx,i1⟩:=h1
 obtain⟨hy,ly,i2⟩:=h2
 have I1:=LH i1
 have I2:=LH i2
 obtain⟨a1,c1,rfl,-,-⟩:=i1
 obtain⟨a2,c2,rfl,-,-⟩:=i2
 by_cases hm:m1=m2
 ·subst hm
  have hb:(m1 == m1)=true:=by simp
  go_enter Tryz.func146,Tryz.ntmps146
  go_wp2_with fail
  obtain⟨W0,hW0⟩:∃ W0,((w.alloc (.cells [.bool m1,.slice a1 (limbs LB x).length c1].toArray 204)).alloc (.cells [.bool m1,.slice a2 (limbs LB y).length c2].toArray 204)).alloc (.cells [.bool false,.slice none 0 0].toArray 204)=W0:=⟨_,rfl⟩
  have hq0:Q w W0:=by rw[← hW0];exact(((Below.refl _ w).alloc (Nat.le_refl _) _).alloc (by simp) _).alloc (by simp;omega) _
  have B1:Blk W0 w.heap.size [.bool m1,.slice a1 (limbs LB x).length c1] 204:=by
   rw[← hW0];exact((Blk.new w _ _).alloc _).alloc _
  have B2:Blk W0 (w.heap.size+1) [.bool m1,.slice a2 (limbs LB y).length c2] 204:=by
   have:=(Blk.new (w.alloc (.cells [.bool m1,.slice a1 (limbs LB x).length c1].toArray 204)) [.bool m1,.slice a2 (limbs LB y).length c2] 204).alloc (.cells [.bool false,.slice none 0 0].toArray 204)
   rw[World.size_alloc,hW0]at this;exact this
  have B3:Blk W0 (w.heap.size+1+1) [.bool false,.slice none 0 0] 204:=by
   have:=Blk.new ((w.alloc (.cells [.bool m1,.slice a1 (limbs LB x).length c1].toArray 204)).alloc (.cells [.bool m1,.slice a2 (limbs LB y).length c2].toArray 204)) [.bool false,.slice none 0 0] 204
   rw[World.size_alloc,World.size_alloc,hW0]at this;exact this
  rw[hW0]
  have d0:=B1.drew.cell 0
  have d1:=B1.drew.cell 1
  have d2:=B2.drew.cell 1
  simp only[zs4,zs5]at d0 d1 d2
  have HC:Hid (∀ W,Q W0 W→Calls Tryz.prog 203 #[.slice a1 (limbs LB x).length c1,.slice a2 (limbs LB y).length c2,.func (.func 204) #[] #[]] W fun e w'=>∃ v',e=.returned v'∧zO w' v' (limbs LB (x+y))∧Q W w'):=LH (fun W hW=>by
   have h:=zeX (limbs LB x) (limbs LB y) (zQ (by decide) x) (zQ (by decide) y) (by omega) (by omega) _ _ W (I1.out.keep (Q.trans hq0 hW)) (I2.out.keep (Q.trans hq0 hW))
   rw[zG (by decide) x hx,zG (by decide) y hy]at h
   exact h)
  clear hW0
  refine zn 8 rfl (by kernel_rfl) rfl ?_
  refine svp 0 ?_
  refine svq 1 rfl (by intro w' hq;have hc0:=za hq d0;go_simp;try with_reducible rfl) ?_
  refine svp 2 ?_
  refine svq 3 rfl (by intro w' hq;have hc0:=za hq d1;go_simp;try with_reducible rfl) ?_
  refine svp 4 ?_
  refine svq 5 rfl (by intro w' hq;have hc0:=za hq d2;go_simp;try with_reducible rfl) ?_
  refine zaa (i:=6) rfl rfl (by kernel_rfl) (by rfl) ?_ (fun w' hq=>(HC.out w' (Below.trans (Below.drew (Q.refl W0)) hq)).mono ?_)
  ·(intro w' hq;go_simp;try with_reducible rfl)
  rintro e w2⟨v',rfl,hs,hq2⟩
  have HS:=LH hs
  obtain⟨a3,c3,rfl,-,-⟩:=hs
  refine⟨_,rfl,hq2,?_⟩
  simp only[Act.put,zs1,zs2,zs3]
  refine svp 7 ?_
  refine zh (by kernel_rfl) (fun w3 hq3=>?_)
  simp only[List.drop_succ_cons,List.drop_zero]
  have hqq:Q W0 w3:=Q.trans (Q.trans (Below.trans (Below.drew (Q.refl W0)) hq) hq2) hq3
  have B3':=B3.keep hqq B3.lt
  have l3:=B3'.lt
  have x0:=B3'.cell
  have f0:=B3'.frozen 0
  have f1:=B3'.frozen 1
  have B4:=(B3'.set 0 (.bool m1)).set 1 (.slice a3 (limbs LB (x+y)).length c3)
  have hqw:Q w ((w3.setCell ⟨w.heap.size+1+1,0,none⟩ (.bool m1)).setCell ⟨w.heap.size+1+1,1,none⟩ (.slice a3 (limbs LB (x+y)).length c3)) :=
   ((Q.trans hq0 hqq).setCell (p:=⟨w.heap.size+1+1,0,none⟩) (by simp;omega) _).setCell (p:=⟨w.heap.size+1+1,1,none⟩) (by simp;omega) _
  go_wp2
  refine bodyPost_ret (zkn _ _ (w.heap.size+1+1) _ _ 4 _ rfl rfl (B4.cell 0) (B4.cell 1)) rfl ⟨m1,x+y,_,rfl,by unfold sgn;cases m1 <;> simp <;> omega,by omega,?_,hqw⟩
  exact((HS.out.keep hq3).beside B3' 0 _).beside (B3'.set 0 (.bool m1)) 1 _
 ·have hb:(m1 == m2)=false:=by rw[beq_eq_false_iff_ne];exact hm
  have HCmp:=LH (fun W (h:Q w W)=>zbB x y hx hy (by omega) (by omega) _ _ W (I1.out.keep h) (I2.out.keep h))
  have H12:=LH (fun W (h:Q w W) (hle:y≤x)=>by
   have h:=zef (limbs LB x) (limbs LB y) (zQ (by decide) x) (zQ (by decide) y) (by omega) (by omega) (by rw[zG (by decide) x hx,zG (by decide) y hy];exact hle) _ _ W (I1.out.keep h) (I2.out.keep h)
   rw[zG (by decide) x hx,zG (by decide) y hy]at h
   exact h)
  have H21:=LH (fun W (h:Q w W) (hle:x≤y)=>by
   have h:=zef (limbs LB y) (limbs LB x) (zQ (by decide) y) (zQ (by decide) x) (by omega) (by omega) (by rw[zG (by decide) x hx,zG (by decide) y hy];exact hle) _ _ W (I2.out.keep h) (I1.out.keep h)
   rw[zG (by decide) x hx,zG (by decide) y hy]at h
   exact h)
  obtain⟨W0,hW0⟩:∃ W0,((w.alloc (.cells [.bool m1,.slice a1 (limbs LB x).length c1].toArray 204)).alloc (.cells [.bool m2,.slice a2 (limbs LB y).length c2].toArray 204)).alloc (.cells [.bool false,.slice none 0 0].toArray 204)=W0:=⟨_,rfl⟩
  have hq0:Q w W0:=by rw[← hW0];exact(((Below.refl _ w).alloc (Nat.le_refl _) _).alloc (by simp) _).alloc (by simp;omega) _
  have B1:Blk W0 w.heap.size [.bool m1,.slice a1 (limbs LB x).length c1] 204:=by
   rw[← hW0];exact((Blk.new w _ _).alloc _).alloc _
  have B2:Blk W0 (w.heap.size+1) [.bool m2,.slice a2 (limbs LB y).length c2] 204:=by
   have:=(Blk.new (w.alloc (.cells [.bool m1,.slice a1 (limbs LB x).length c1].toArray 204)) [.bool m2,.slice a2 (limbs LB y).length c2] 204).alloc (.cells [.bool false,.slice none 0 0].toArray 204)
   rw[World.size_alloc,hW0]at this;exact this
  have B3:Blk W0 (w.heap.size+1+1) [.bool false,.slice none 0 0] 204:=by
   have:=Blk.new ((w.alloc (.cells [.bool m1,.slice a1 (limbs LB x).length c1].toArray 204)).alloc (.cells [.bool m2,.slice a2 (limbs LB y).length c2].toArray 204)) [.bool false,.slice none 0 0] 204
   rw[World.size_alloc,World.size_alloc,hW0]at this;exact this
  have x0:=B1.cell
  have y0:=B2.cell
  go_enter Tryz.func146,Tryz.ntmps146
  go_wp2_with fail
  clear hW0
  refine(HCmp.out W0 hq0).mono ?_
  rintro e w1⟨z,rfl,hz,hq1⟩
  have hq01:=Q.trans hq0 hq1
  have B1':=B1.keep hq1 B1.lt
  have B2':=B2.keep hq1 B2.lt
  have B3':=B3.keep hq1 B3.lt
  clear hq1 B1 B2 B3 HCmp
  by_cases hlt:x<y
  ·have hz0:z<0:=hz.1.2 hlt
   clear hz
   have HC:Hid (∀ W,Q w1 W→Calls Tryz.prog 203 #[.slice a2 (limbs LB y).length c2,.slice a1 (limbs LB x).length c1,.func (.func 206) #[] #[]] W fun e w'=>∃ v',e=.returned v'∧zO w' v' (limbs LB (y - x))∧Q W w'):=LH (fun W hW=>H21.out W (Q.trans hq01 hW) (by omega))
   have d0:=B2'.drew.cell 0
   have d1:=B2'.drew.cell 1
   have d2:=B1'.drew.cell 1
   simp only[zs4,zs5]at d0 d1 d2
   go_wp2_with fail
   refine zn 8 rfl (by kernel_rfl) rfl ?_
   refine svp 0 ?_
   refine svq 1 rfl (by intro w' hq;have hc0:=za hq d0;go_simp;try with_reducible rfl) ?_
   refine svp 2 ?_
   refine svq 3 rfl (by intro w' hq;have hc0:=za hq d1;go_simp;try with_reducible rfl) ?_
   refine svp 4 ?_
   refine svq 5 rfl (by intro w' hq;have hc0:=za hq d2;go_simp;try with_reducible rfl) ?_
   refine zaa (i:=6) rfl rfl (by kernel_rfl) (by rfl) ?_ (fun w' hq=>(HC.out w' (Below.trans (Below.drew (Q.refl w1)) hq)).mono ?_)
   ·(intro w' hq;go_simp;try with_reducible rfl)
   rintro e w2⟨v',rfl,hs,hq2⟩
   have HS:=LH hs
   obtain⟨a3,c3,rfl,-,-⟩:=hs
   generalize hln:(limbs LB (y - x)).length=ln at *
   have HLN:=LH hln
   clear hln
   refine⟨_,rfl,hq2,?_⟩
   simp only[Act.put,zs1,zs2,zs3]
   refine svp 7 ?_
   refine zh (by kernel_rfl) (fun w3 hq3=>?_)
   simp only[List.drop_succ_cons,List.drop_zero]
   have hqq:Q w1 w3:=Q.trans (Q.trans (Below.trans (Below.drew (Q.refl w1)) hq) hq2) hq3
   have B4:=B3'.keep hqq B3'.lt
   have z0:=B4.cell
   have f0:=B4.frozen 0
   have f1:=B4.frozen 1
   have B5:=(B4.set 0 (.bool m2)).set 1 (.slice a3 ln c3)
   have l3:=B4.lt
   have hqw:Q w ((w3.setCell ⟨w.heap.size+1+1,0,none⟩ (.bool m2)).setCell ⟨w.heap.size+1+1,1,none⟩ (.slice a3 ln c3)) :=
    ((Q.trans hq01 hqq).setCell (p:=⟨w.heap.size+1+1,0,none⟩) (by simp;omega) _).setCell (p:=⟨w.heap.size+1+1,1,none⟩) (by simp;omega) _
   have HF:=LH (((HS.out.keep hq3).beside B4 0 (.bool m2)).beside (B4.set 0 (.bool m2)) 1 (.slice a3 ln c3))
   clear d0 d1 d2 HC H12 H21
   go_wp2
   refine bodyPost_ret (zkn _ _ (w.heap.size+1+1) _ _ 4 _ rfl rfl (B5.cell 0) (B5.cell 1)) rfl ⟨m2,y - x,_,rfl,?_,by omega,HF.out,hqw⟩
   unfold sgn;cases m1 <;> cases m2 <;> simp at hm ⊢ <;> omega
  ·have hz0:0≤z:=by
    by_cases h:z<0
    ·exact absurd (hz.1.1 h) hlt
    ·omega
   clear hz
   have HC:Hid (∀ W,Q w1 W→Calls Tryz.prog 203 #[.slice a1 (limbs LB x).length c1,.slice a2 (limbs LB y).length c2,.func (.func 206) #[] #[]] W fun e w'=>∃ v',e=.returned v'∧zO w' v' (limbs LB (x - y))∧Q W w'):=LH (fun W hW=>H12.out W (Q.trans hq01 hW) (by omega))
   have d0:=B1'.drew.cell 0
   have d1:=B1'.drew.cell 1
   have d2:=B2'.drew.cell 1
   simp only[zs4,zs5]at d0 d1 d2
   go_wp2_with fail
   refine zn 8 rfl (by kernel_rfl) rfl ?_
   refine svp 0 ?_
   refine svq 1 rfl (by intro w' hq;have hc0:=za hq d0;go_simp;try with_reducible rfl) ?_
   refine svp 2 ?_
   refine svq 3 rfl (by intro w' hq;have hc0:=za hq d1;go_simp;try with_reducible rfl) ?_
   refine svp 4 ?_
   refine svq 5 rfl (by intro w' hq;have hc0:=za hq d2;go_simp;try with_reducible rfl) ?_
   refine zaa (i:=6) rfl rfl (by kernel_rfl) (by rfl) ?_ (fun w' hq=>(HC.out w' (Below.trans (Below.drew (Q.refl w1)) hq)).mono ?_)
   ·(intro w' hq;go_simp;try with_reducible rfl)
   rintro e w2⟨v',rfl,hs,hq2⟩
   have HS:=LH hs
   obtain⟨a3,c3,rfl,-,-⟩:=hs
   generalize hln:(limbs LB (x - y)).length=ln at *
   have HLN:=LH hln
   clear hln
   refine⟨_,rfl,hq2,?_⟩
   simp only[Act.put,zs1,zs2,zs3]
   refine svp 7 ?_
   refine zh (by kernel_rfl) (fun w3 hq3=>?_)
   simp only[List.drop_succ_cons,List.drop_zero]
   have hqq:Q w1 w3:=Q.trans (Q.trans (Below.trans (Below.drew (Q.refl w1)) hq) hq2) hq3
   have B4:=B3'.keep hqq B3'.lt
   have z0:=B4.cell
   have f0:=B4.frozen 0
   have f1:=B4.frozen 1
   have B5:=(B4.set 0 (.bool m1)).set 1 (.slice a3 ln c3)
   have l3:=B4.lt
   have hqw:Q w ((w3.setCell ⟨w.heap.size+1+1,0,none⟩ (.bool m1)).setCell ⟨w.heap.size+1+1,1,none⟩ (.slice a3 ln c3)) :=
    ((Q.trans hq01 hqq).setCell (p:=⟨w.heap.size+1+1,0,none⟩) (by simp;omega) _).setCell (p:=⟨w.heap.size+1+1,1,none⟩) (by simp;omega) _
   have HF:=LH (((HS.out.keep hq3).beside B4 0 (.bool m1)).beside (B4.set 0 (.bool m1)) 1 (.slice a3 ln c3))
   clear d0 d1 d2 HC H12 H21
   go_wp2
   refine bodyPost_ret (zkn _ _ (w.heap.size+1+1) _ _ 4 _ rfl rfl (B5.cell 0) (B5.cell 1)) rfl ⟨m1,x - y,_,rfl,?_,by omega,HF.out,hqw⟩
   unfold sgn;cases m1 <;> cases m2 <;> simp at hm ⊢ <;> omega
end
end Go.Proofs.YtapnkgdnflofbaaGreatDoor
namespace Kp
open Go Go.Lib
structure ReadInv (s:Str) (k:Nat) (o:List Int):Prop where
 len:o.length=(s.length+8) / 9
 dig:Dig 1000000000 o
 val:lval 1000000000 o=nval (s.drop (s.length - k))
theorem ReadInv.start(s:Str):ReadInv s 0 (List.replicate ((s.length+8) / 9) 0) :=
 ⟨by simp,fun x hx=>by have:=List.eq_of_mem_replicate hx;omega,by rw[zg1,List.drop_of_length_le (by omega)];rfl⟩
theorem znJ(k:Nat):(1000000000:Int) ^ (k / 9)*10 ^ (k % 9)=10 ^ k:=by
 have e:(1000000000:Int)=10 ^ 9:=by decide
 rw[e,← Int.pow_mul,← Int.pow_add,Nat.div_add_mod]
theorem zjl(s:Str)(k:Nat)(hk:k<s.length):nval (s.drop (s.length - (k+1)))=((at0 s (s.length - 1 - k)).toNat - 48)*10 ^ k+nval (s.drop (s.length - k)):=by
 have h:s.length - (k+1)<s.length:=by omega
 rw[List.drop_eq_getElem_cons h,zeI,zcJ s _ (by omega)]
 have e1:s.length - (k+1)+1=s.length - k:=by omega
 have e2:(s.drop (s.length - k)).length=k:=by rw[List.length_drop];omega
 simp only[e1,e2]
 congr 4
 congr 1
 omega
theorem zlI(s:Str)(hd:∀ c∈s,zar c=true)(k:Nat)(hk:k≤s.length):nval (s.drop (s.length - k))<10 ^ k:=by
 have h:=ziy (s.drop (s.length - k)) (fun c hc=>hd c (List.mem_of_mem_drop hc))
 rwa[List.length_drop,show s.length - (s.length - k)=k by omega]at h
theorem ReadInv.limb{s:Str}(hd:∀ c∈s,zar c=true){k:Nat}{o:List Int}(h:ReadInv s k o)(hk:k<s.length) :
  k / 9<o.length∧0≤o.getD (k / 9) 0∧o.getD (k / 9) 0<10 ^ (k % 9):=by
 have hj:k / 9<o.length:=by rw[h.len];omega
 have hb:=h.dig.get (by decide) (k / 9)
 refine⟨hj,hb.1,?_⟩
 have h1:=zdO 1000000000 o (k / 9) (by omega)
 have h2:=zaV 1000000000 o (k / 9) hj
 have h3:=zM (show (0:Int)≤1000000000 by decide) (h.dig.take (k / 9))
 have h4:=zM (show (0:Int)≤1000000000 by decide) (h.dig.drop (k / 9+1))
 have h5:=zlI s hd k (by omega)
 have h6:=h.val
 have h7:=znJ k
 have hp:=zbu (show (0:Int)<1000000000 by decide) (k / 9)
 have h8:(nval (s.drop (s.length - k)):Int)<10 ^ k:=by exact_mod_cast h5
 refine Int.lt_of_mul_lt_mul_left (a:=1000000000 ^ (k / 9)) ?_ (Int.le_of_lt hp)
 rw[h7]
 have h9:(1000000000:Int) ^ (k / 9)*o.getD (k / 9) 0≤1000000000 ^ (k / 9)*lval 1000000000 (o.drop (k / 9)):=Int.mul_le_mul_of_nonneg_left (by omega) (Int.le_of_lt hp)
 omega
theorem ReadInv.step{s:Str}(hd:∀ c∈s,zar c=true){k:Nat}{o:List Int}(h:ReadInv s k o)(hk:k<s.length)(d:Int)(hdd:d=((at0 s (s.length - 1 - k)).toNat:Int) - 48)(h0:0≤d)(h9:d≤9) :
  ReadInv s (k+1) (o.set (k / 9) (o.getD (k / 9) 0+d*10 ^ (k % 9))):=by
 obtain⟨hj,hb0,hb1⟩:=h.limb hd hk
 have hp:(0:Int)<10 ^ (k % 9):=Int.pow_pos (by decide)
 have hp1:(10:Int) ^ (k % 9)≤10 ^ 8:=zbv (by decide) (by omega)
 have hp2:(10:Int) ^ 8=100000000:=by decide
 have hm:d*10 ^ (k % 9)≤9*10 ^ (k % 9):=Int.mul_le_mul_of_nonneg_right h9 (by omega)
 have hm0:0≤d*10 ^ (k % 9):=Int.mul_nonneg h0 (by omega)
 refine⟨by simp[h.len],h.dig.set _ (by omega) (by omega),?_⟩
 rw[ze3 _ _ _ _ hj,h.val,zjl s k hk]
 have h7:=znJ k
 have e:(1000000000:Int) ^ (k / 9)*(o.getD (k / 9) 0+d*10 ^ (k % 9) - o.getD (k / 9) 0)=d*10 ^ k:=by
  rw[← h7];grind
 rw[e]
 have e2:(((at0 s (s.length - 1 - k)).toNat - 48:Nat):Int)=d:=by omega
 push_cast
 rw[e2]
 omega
theorem ReadInv.done{s:Str}{o:List Int}(h:ReadInv s s.length o):zaJ o=limbs 1000000000 (nval s):=by
 rw[zdi (by decide) h.dig,h.val,Nat.sub_self,List.drop_zero]
def zbs(n:Nat):Str:=List.replicate n 48
theorem zbW(n:Nat):(zbs n).length=n:=by simp[zbs]
theorem zjA(n:Nat):∀ c∈zbs n,zar c=true:=fun c hc=>by have:=List.eq_of_mem_replicate hc;subst this;decide
theorem ziw(n:Nat):nval (zbs n)=0:=by
 induction n with
 | zero=>rfl
 | succ n ih=>show nval (48::zbs n)=0;rw[zeI,ih];simp
theorem zjs(v m:Nat)(hv:0<v)(hm:m<1000000000):decDigits (v*1000000000+m)=decDigits v++(zbs (9 - (decDigits m).length)++decDigits m):=by
 have hl:(decDigits m).length≤9:=(zm m 9 (by decide)).2 (by simpa using hm)
 have hn:nval (decDigits v++(zbs (9 - (decDigits m).length)++decDigits m))=v*1000000000+m:=by
  rw[zd7,zd7,ziw,z8,z8,List.length_append,zbW,show 9 - (decDigits m).length+(decDigits m).length=9 by omega]
  simp
 rw[← hn]
 refine zbL _ (by simp[zat]) ?_ ?_
 ·intro c hc
  rcases List.mem_append.1 hc with hc | hc
  ·exact zY v c hc
  ·rcases List.mem_append.1 hc with hc | hc
   ·exact zjA _ c hc
   ·exact zY m c hc
 ·intro hh
  rw[head?_app _ _ (zat v)]at hh
  exact absurd hh (zdB v hv)
theorem zkN{B:Int}(hB:2≤B){l:List Int}(hd:Dig B l)(hl:l.getLast?≠some 0)(j:Nat)(hj:j<l.length):0<lval B (l.drop j):=by
 have h0:=zM (show 0≤B by omega) (hd.drop j)
 by_cases h:lval B (l.drop j)=0
 ·have hu:=zeL hB (l.drop j) (hd.drop j) (by rw[List.getLast?_drop,if_neg (by omega)];exact hl)
  rw[h,zaL (by omega)]at hu
  have:=congrArg List.length hu
  rw[List.length_drop]at this
  simp at this
  omega
 ·omega
def zcM(l:List Int)(j:Nat):Str:=if j<l.length then decDigits (lval 1000000000 (l.drop j)).toNat else []
theorem zfO(l:List Int):zcM l l.length=[]:=by simp[zcM]
theorem zhX{l:List Int}{j:Nat}(hj:j+1=l.length):zcM l j=decDigits (l.getD j 0).toNat:=by
 rw[zcM,if_pos (by omega),zaV _ _ _ (by omega),List.drop_of_length_le (l:=l) (i:=j+1) (by omega)]
 simp[lval]
theorem zjB{l:List Int}(hd:Dig 1000000000 l)(hl:l.getLast?≠some 0){j:Nat}(hj:j+1<l.length) :
  zcM l j=zcM l (j+1)++(zbs (9 - (decDigits (l.getD j 0).toNat).length)++decDigits (l.getD j 0).toNat):=by
 have hp:=zkN (by decide) hd hl (j+1) hj
 have hb:=hd.get (by decide) j
 rw[zcM,if_pos (by omega),zcM,if_pos hj,zaV _ _ _ (by omega)]
 generalize lval 1000000000 (l.drop (j+1))=v at *
 generalize l.getD j 0=m at *
 rw[← zjs v.toNat m.toNat (by omega) (by omega)]
 congr 1
 omega
theorem zla{l:List Int}(hd:Dig 1000000000 l)(j:Nat):(zcM l j).length≤9*l.length+9:=by
 unfold zcM
 split
 ·next h =>
  have h1:=zbh (show (0:Int)<1000000000 by decide) (hd.drop j)
  have h0:=zM (show (0:Int)≤1000000000 by decide) (hd.drop j)
  rw[List.length_drop]at h1
  have e:(1000000000:Int) ^ (l.length - j)=10 ^ (9*(l.length - j)):=by
   rw[show (1000000000:Int)=10 ^ 9 by decide,← Int.pow_mul]
  rw[e]at h1
  have h2:(lval 1000000000 (l.drop j)).toNat<10 ^ (9*(l.length - j)):=by
   have h3:(((lval 1000000000 (l.drop j)).toNat:Nat):Int)=lval 1000000000 (l.drop j):=Int.toNat_of_nonneg h0
   have h4:((10 ^ (9*(l.length - j)):Nat):Int)=(10:Int) ^ (9*(l.length - j)):=Int.natCast_pow 10 _
   generalize (10:Nat) ^ (9*(l.length - j))=P at *
   generalize (10:Int) ^ (9*(l.length - j))=R at *
   omega
  have:=(zm (lval 1000000000 (l.drop j)).toNat (9*(l.length - j)) (by omega)).2 h2
  omega
 ·simp
theorem zob{z:Int}(hz:0<z):zcM (limbs 1000000000 z) 0=decDigits z.toNat:=by
 have hn:0<(limbs 1000000000 z).length:=by rw[zbz (by decide) hz];simp
 rw[zcM,if_pos hn,List.drop_zero,zG (by decide) z (by omega)]
end Kp
