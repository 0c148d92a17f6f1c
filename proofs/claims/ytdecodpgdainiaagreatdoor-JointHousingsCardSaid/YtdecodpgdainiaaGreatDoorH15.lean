/-
  Walks of package plan, at any plan: Check, Sides.; hiprafter.Check at any member whose coordinates are short strings; its walk.; Fronts of the sides of a plan, rafters at an eaves, birdsmouths. Mathematics.; Walks of package front.; Walks of package front: numbers, sums, products; distances.; Walks of the chapter's bounds: great plans, great members, numbers.
-/
import Derived.Test.YtdecodpgdainiaaGreatDoorHPT
import Derived.Test.YtdecodpgdainiaaGreatDoorH10
import Derived.Test.YtdecodpgdainiaaGreatDoorH13
set_option maxRecDepth 100000
set_option maxHeartbeats 4000000
namespace Go.Proofs.YtdecodpgdainiaaGreatDoor
section
open Go.RowKit Go.Shelf Kp
attribute [local go_sem] Oper.semAt_some
def zlR(R:List (List Sd))(k:Nat):Nat:=((R.take k).map List.length).sum
theorem zm1{R:List (List Sd)}{k:Nat}(h:k<R.length):zlR R (k+1)=zlR R k+(ringAt R k).length:=by
 unfold zlR
 rw[List.take_succ_eq_append_getElem h,List.map_append,List.sum_append,zaH h]
 simp
theorem zov(R:List (List Sd)):zlR R R.length=zaP R:=by unfold zlR zaP;rw[List.take_length]
theorem zrf(R:List (List Sd))(k:Nat):zlR R k≤zaP R:=by
 have:=congrArg (fun l:List (List Sd)=>(l.map List.length).sum) (List.take_append_drop k R)
 simp only[List.map_append,List.sum_append]at this
 unfold zlR zaP
 omega
def ztk(u s c p j:Bool):Int:=if u then 2 else if s then 14 else if c then 15 else if !p || !j then 14 else 0
theorem zsD{R:List (List Sd)}(hl:∀ k,k<R.length→0<(ringAt R k).length):¬ (R.any fun r=>decide (r.length=0))=true:=by
 intro h
 obtain⟨r,hr,h⟩:=List.any_eq_true.1 h
 obtain⟨k,hk,rfl⟩:=List.mem_iff_getElem.1 hr
 have:=hl k hk
 rw[zaH hk]at this
 rw[decide_eq_true_eq]at h
 omega
theorem zo8{R:List (List Sd)}{k:Nat}(hk:k<R.length)(h:(ringAt R k).length=0):zd8 R=5:=by
 unfold zd8
 rw[if_pos]
 rw[zaH hk]at h
 exact List.any_eq_true.2 ⟨_,List.getElem_mem hk,by rw[decide_eq_true_eq];exact h⟩
theorem zpa{R:List (List Sd)}(h:zaP R=0):zd8 R=5:=by
 unfold zd8
 split
 ·rfl
 ·rfl
theorem zpb{R:List (List Sd)}(hl:∀ k,k<R.length→0<(ringAt R k).length)(h:24<zaP R):zd8 R=4:=by
 unfold zd8
 rw[if_neg (zsD hl),if_neg (by omega),if_pos h]
theorem zo9{R:List (List Sd)}(hl:∀ k,k<R.length→0<(ringAt R k).length)(h0:0<zaP R)(h:zaP R≤24) :
  zd8 R=ztk (R.flatten.any fun s=>!zai s) (R.any fun r=>!zan r) (zdN R) (zb6 R) (zdW R):=by
 unfold zd8 ztk
 rw[if_neg (zsD hl),if_neg (by omega),if_neg (by omega)]
theorem zrI{R:List (List Sd)}(hl:∀ r∈R,0<r.length):R.length≤zaP R:=by
 unfold zaP
 induction R with
 | nil=>simp
 | cons r R ih =>
  have h1:=hl r (by simp)
  have h2:=ih (fun s hs=>hl s (by simp[hs]))
  simp only[List.map_cons,List.sum_cons,List.length_cons]
  omega
theorem zqq{R:List (List Sd)}{r:List Sd}(h:r∈R):r.length≤zaP R:=by
 unfold zaP
 induction R with
 | nil=>cases h
 | cons s R ih =>
  simp only[List.map_cons,List.sum_cons]
  rcases List.mem_cons.1 h with rfl | h
  ·omega
  ·have:=ih h
   omega
theorem zkr(R:List (List Sd))(hn:R.length≤1000)(hcn:zaP R≤1000)(v:Value)(w:World)(hv:zki w v R) :
  CR 136 #[.agg #[v]] w (.int .i64 (zd8 R)):=by
 have HV:=LH hv
 have HC0:Hid (∀ k,k<R.length→∃ a cap b o a2 c2,v=.slice a R.length cap∧a=some ⟨b,o,none⟩∧w.cell? ⟨b,o+k,none⟩=some (.slice a2 (ringAt R k).length c2)∧b<w.heap.size):=LH (fun k hk=>by
  obtain⟨a,cap,rfl,hc⟩:=hv
  obtain⟨b,o,vi,rfl,hb,hcell,hrs⟩:=hc k hk
  obtain⟨a2,c2,rfl,-⟩:=hrs
  rw[zaH hk]
  exact⟨_,_,_,_,_,_,rfl,rfl,hcell,hb⟩)
 have H5:Hid (∀ k,k<R.length→(ringAt R k).length=0→zd8 R=5):=LH (fun k hk h=>zo8 hk h)
 have H0:Hid (zaP R=0→zd8 R=5):=LH zpa
 have H4:Hid ((∀ k,k<R.length→0<(ringAt R k).length)→24<zaP R→zd8 R=4):=LH zpb
 have HE:Hid ((∀ k,k<R.length→0<(ringAt R k).length)→0<zaP R→zaP R≤24→zd8 R=ztk (R.flatten.any fun s=>!zai s) (R.any fun r=>!zan r) (zdN R) (zb6 R) (zdW R)):=LH zo9
 have HS1:Hid (∀ k,k<R.length→zlR R (k+1)=zlR R k+(ringAt R k).length):=LH (fun k hk=>zm1 hk)
 have HSl:Hid (∀ k,zlR R k≤1000):=LH (fun k=>Nat.le_trans (zrf R k) hcn)
 have HSe:=LH (zov R)
 have HS0:Hid (zlR R 0=0):=LH rfl
 generalize zd8 R=E at *
 obtain⟨a0,cap0,rfl,-⟩:=id hv
 have hRz:(R.length:Int)≤1000:=by omega
 have B:=Blk.new w [.slice a0 R.length cap0] 52
 have hq1:Q w (w.alloc (.cells [Value.slice a0 R.length cap0].toArray 52)):=(Below.refl _ w).alloc (Nat.le_refl _) _
 have c0:=B.cell 0
 simp only[List.getElem?_cons_zero]at c0
 obtain⟨W0,hW0⟩:∃ W0,w.alloc (.cells #[Value.slice a0 R.length cap0] 52)=W0:=⟨_,rfl⟩
 have hW0':w.alloc (.cells [Value.slice a0 R.length cap0].toArray 52)=W0:=hW0
 rw[hW0']at B hq1 c0
 clear hW0' hv hn
 go_enter Tryz.func136,Tryz.ntmps136
 go_wp2
 clear hW0
 go_loop [3,9] (fun c i=>∃ k:Nat,k≤R.length∧i=.int .i64 k∧c=.int .i64 (zlR R k:Nat)∧Hid (∀ j,j<k→0<(ringAt R j).length)) (fun _ i=>R.length - (intOf i).toNat)
 case atStart=>exact⟨0,by omega,rfl,by rw[HS0.out];rfl,LH (fun j hj=>absurd hj (Nat.not_lt_zero _))⟩
 case round =>
  obtain⟨k,hk,rfl,rfl,HA⟩:=hrel
  by_cases hlt:k<R.length
  ·obtain⟨a',cap',b,o,a2,c2,he,ha,hcell,hbl⟩:=HC0.out k hlt
   injection he with he1 he2 he3
   subst he1 he3
   subst ha
   have hcell:=ze hq1 hcell
   have hs:=HS1.out k hlt
   have hp1:=HSl.out (k+1)
   have H5k:=LH (H5.out k hlt)
   have HAk:Hid (0<(ringAt R k).length→∀ j,j<k+1→0<(ringAt R j).length):=LH (fun h j hj=>by
    rcases Nat.lt_or_ge j k with h1 | h1
    ·exact HA.out j h1
    ·obtain rfl:j=k:=by omega
     exact h)
   have HSk:=LH hs
   have w1i:=Go.IntWalk.i64_in ((zlR R k:Int)+((ringAt R k).length:Int)) (by omega)
   have hkz:(k:Int)<R.length:=by omega
   have hk0:(0:Int)≤k:=by omega
   clear hs hp1 H5 H0 H4 HE
   generalize zlR R k=p at *
   generalize (ringAt R k).length=n at *
   rcases Nat.eq_zero_or_pos n with h0 | h0
   ·have h5:=H5k.out h0
    subst h5
    subst h0
    clear HAk HSk H5k w1i
    go_wp2
    go_ret
    exact⟨rfl,hq1⟩
   ·have HB:=LH (HAk.out h0)
    have hn0:¬ n=0:=by omega
    have hn1:((n:Int) == 0)=false:=by rw[beq_eq_false_iff_ne];omega
    clear HAk H5k
    go_wp2
    go_round
    case rel=>exact⟨k+1,by omega,by go_num,by rw[HSk.out];go_num,HB⟩
    case measure=>simp[intOf];omega
  ·obtain rfl:k=R.length:=by omega
   rw[HSe.out]
   have hA:=HA.out
   have hlen:∀ r∈R,0<r.length:=fun r hr=>by
    obtain⟨k,hk,rfl⟩:=List.mem_iff_getElem.1 hr
    rw[← zaH hk]
    exact hA k hk
   clear HC0 HS1 HSl HSe HS0 H5 hlt hk HA
   by_cases hz:zaP R=0
   ·have h5:=H0.out hz
    subst h5
    rw[hz]
    clear H0 H4 HE hA hlen hz hcn
    go_wp2
    go_ret
    exact⟨rfl,hq1⟩
   by_cases hm:24<zaP R
   ·have h4:=H4.out hA hm
    subst h4
    have hz1:((zaP R:Int) == 0)=false:=by rw[beq_eq_false_iff_ne];omega
    have hm1:decide ((24:Int)<(zaP R:Int))=true:=by rw[decide_eq_true_eq];omega
    clear H0 H4 HE hA hlen
    generalize zaP R=cf at *
    go_wp2
    go_ret
    exact⟨rfl,hq1⟩
   have HQ:=LH (HE.out hA (by omega) (by omega))
   have hz1:((zaP R:Int) == 0)=false:=by rw[beq_eq_false_iff_ne];omega
   have hm1:decide ((24:Int)<(zaP R:Int))=false:=by rw[decide_eq_false_iff_not];omega
   have hfl:=count_flatten R
   have hR:=zrI hlen
   have hR0:0<R.length:=by
    rcases Nat.eq_zero_or_pos R.length with h | h
    ·rw[List.length_eq_zero_iff.1 h]at hz
     exact absurd rfl hz
    ·exact h
   have hln:∀ r∈R,0<r.length∧r.length≤1000:=fun r hr=>⟨hlen r hr,Nat.le_trans (zqq hr) hcn⟩
   have HC:Hid (∀ W,Q w W→Calls Tryz.prog 137 #[.slice a0 R.length cap0] W fun e w'=>∃ v',e=.returned v'∧Q W w'∧zcV 7 sdC w' v' R.flatten):=LH (fun W hq=>zhX R hlen (by omega) (by omega) (by omega) _ W (HV.out.keep hq))
   have HS:Hid (∀ v' W,zcV 7 sdC W v' R.flatten→CR 178 #[v',.func (.func 179) #[] #[]] W (.bool (R.flatten.any fun s=>!zai s))):=LH (fun v' W hs=>by
    obtain⟨a,cap,rfl,hx⟩:=id hs
    obtain⟨-,hrow,hba⟩:=zcV.at hs
    exact zkd R.flatten (by omega) a cap W hrow (fun k hk=>hba k hk (by omega)))
   have hok:(R.flatten.any fun s=>!zai s)=false→∀ r∈R,∀ i,i<r.length→ArnOk (arn r i):=fun h r hr i hi=>zsq (fun s hs=>zsA (by
    have:=List.any_eq_false.1 h s (List.mem_flatten.2 ⟨r,hr,hs⟩)
    simpa using this)) i hi
   have HR:Hid ((R.flatten.any fun s=>!zai s)=false→∀ W,Q w W→CR 181 #[.slice a0 R.length cap0,.func (.func 182) #[] #[]] W (.bool (R.any fun r=>!zan r))):=LH (fun h W hq=>zkf R (by omega) hln (hok h) _ W (HV.out.keep hq))
   have HX:Hid (∀ W,Q w W→CR 184 #[.slice a0 R.length cap0] W (.bool (zdN R))):=LH (fun W hq=>callsIn_wide.1 (znV R (by omega) hln hcn _ W (HV.out.keep hq) hR0))
   have HP:Hid ((R.flatten.any fun s=>!zai s)=false→∀ W,Q w W→CR 185 #[.slice a0 R.length cap0] W (.bool (zb6 R))):=LH (fun h W hq=>znv R (by omega) hln (hok h) _ W (HV.out.keep hq))
   have HJ:Hid ((R.flatten.any fun s=>!zai s)=false→∀ W,Q w W→CR 186 #[.slice a0 R.length cap0] W (.bool (zdW R))):=LH (fun h W hq=>callsIn_wide.1 (zpr R (by omega) hln (hok h) _ W (HV.out.keep hq) hR0))
   clear H0 H4 HE hA hlen HV hfl hln hok hz hm hR hcn
   generalize (R.flatten.any fun s=>!zai s)=ru at *
   generalize (R.any fun r=>!zan r)=rs at *
   generalize zdN R=rc at *
   generalize zb6 R=rp at *
   generalize zdW R=rj at *
   generalize zaP R=cf at *
   generalize R.flatten=F at *
   generalize R.length=n at *
   go_wp2_with fail
   refine(HC.out _ hq1).mono ?_
   rintro e w2⟨v',rfl,hq,hs⟩
   replace B:=B.keep hq B.lt
   replace c0:=B.cell 0
   simp only[List.getElem?_cons_zero]at c0
   have hq2:=Q.trans hq1 hq
   clear hq hq1 HC
   go_wp2_with fail
   refine cx (HS.out _ _ hs) fun w3 hq=>?_
   replace B:=B.keep hq B.lt
   replace c0:=B.cell 0
   simp only[List.getElem?_cons_zero]at c0
   have hq3:=Q.trans hq2 hq
   clear hq hq2 hs HS
   cases ru
   case true =>
    obtain rfl:E=2:=HQ.out
    clear HR HX HP HJ HQ
    go_wp2
    go_ret
    exact⟨rfl,hq3⟩
   have HR1:=LH (HR.out rfl)
   have HP1:=LH (HP.out rfl)
   have HJ1:=LH (HJ.out rfl)
   clear HR HP HJ
   go_wp2_with fail
   refine cx (HR1.out _ hq3) fun w4 hq=>?_
   replace B:=B.keep hq B.lt
   replace c0:=B.cell 0
   simp only[List.getElem?_cons_zero]at c0
   have hq4:=Q.trans hq3 hq
   clear hq hq3 HR1
   cases rs
   case true =>
    obtain rfl:E=14:=HQ.out
    clear HX HP1 HJ1 HQ
    go_wp2
    go_ret
    exact⟨rfl,hq4⟩
   go_wp2_with fail
   refine cx (HX.out _ hq4) fun w5 hq=>?_
   replace B:=B.keep hq B.lt
   replace c0:=B.cell 0
   simp only[List.getElem?_cons_zero]at c0
   have hq5:=Q.trans hq4 hq
   clear hq hq4 HX
   cases rc
   case true =>
    obtain rfl:E=15:=HQ.out
    clear HP1 HJ1 HQ
    go_wp2
    go_ret
    exact⟨rfl,hq5⟩
   go_wp2_with fail
   refine cx (HP1.out _ hq5) fun w6 hq=>?_
   replace B:=B.keep hq B.lt
   replace c0:=B.cell 0
   simp only[List.getElem?_cons_zero]at c0
   have hq6:=Q.trans hq5 hq
   clear hq hq5 HP1
   cases rp
   case false =>
    obtain rfl:E=14:=HQ.out
    clear HJ1 HQ
    go_wp2
    go_ret
    exact⟨rfl,hq6⟩
   go_wp2_with fail
   refine cx (HJ1.out _ hq6) fun w7 hq=>?_
   have hq7:=Q.trans hq6 hq
   cases rj
   case false =>
    obtain rfl:E=14:=HQ.out
    clear HQ
    go_wp2
    go_ret
    exact⟨rfl,hq7⟩
   obtain rfl:E=0:=HQ.out
   clear HQ
   go_wp2
   go_ret
   exact⟨rfl,hq7⟩
theorem zo7(R:List (List Sd))(h:zd8 R=0)(hn:R.length≤1000)(v:Value)(w:World)(hv:zki w v R) :
  Calls Tryz.prog 89 #[.agg #[v]] w fun e w'=>∃ v',e=.returned (.tuple #[v',.int .i64 0])∧Q w w'∧zcV 7 sdC w' v' R.flatten:=by
 have ok:=zli h
 have hfl:=count_flatten R
 have hle:=ok.le
 have hp:=ok.pos
 have HK:Hid (∀ W,Q w W→CR 136 #[.agg #[v]] W (.int .i64 0)):=LH (fun W hq=>by
  have:=zkr R hn (by omega) v W (hv.keep hq)
  rw[h]at this
  exact this)
 have HC:Hid (∀ W,Q w W→Calls Tryz.prog 137 #[v] W fun e w'=>∃ v',e=.returned v'∧Q W w'∧zcV 7 sdC w' v' R.flatten):=LH (fun W hq=>zhX R (fun r hr=>by have:=ok.four r hr;omega) (by omega) (by omega) hn _ W (hv.keep hq))
 obtain⟨a0,cap0,rfl,-⟩:=hv
 clear ok hfl hle hp h hn
 have B:=Blk.new w [.slice a0 R.length cap0] 52
 have hq1:Q w (w.alloc (.cells [Value.slice a0 R.length cap0].toArray 52)):=(Below.refl _ w).alloc (Nat.le_refl _) _
 have c0:=B.cell
 generalize R.length=n at *
 generalize R.flatten=F at *
 go_enter Tryz.func89,Tryz.ntmps89
 go_wp2_with fail
 refine cx (HK.out _ hq1) fun w2 hq=>?_
 replace B:=B.keep hq B.lt
 replace c0:=B.cell
 have hq2:=Q.trans hq1 hq
 clear hq hq1 HK
 go_wp2_with fail
 refine(HC.out _ hq2).mono ?_
 rintro e w3⟨v',rfl,hq,hs⟩
 have hq3:=Q.trans hq2 hq
 clear hq hq2 HC
 go_wp2
 go_ret2
 exact⟨_,rfl,hq3,hs⟩
end
section
open Go.RowKit Kp
structure Mb where
 kind:Int
 face:Int
 other:Int
 fx:Str
 fy:Str
 fz:Str
 tx:Str
 ty:Str
 tz:Str
 wid:Int
 dep:Int
def mbC(m:Mb):List Value:=[.int .i64 m.kind,.int .i64 m.face,.int .i64 m.other,.string ⟨m.fx.toArray⟩,.string ⟨m.fy.toArray⟩,.string ⟨m.fz.toArray⟩,.string ⟨m.tx.toArray⟩,.string ⟨m.ty.toArray⟩,.string ⟨m.tz.toArray⟩,.int .i64 m.wid,.int .i64 m.dep]
structure Mb.short (m:Mb):Prop where
 fx:m.fx.length≤30
 fy:m.fy.length≤30
 fz:m.fz.length≤30
 tx:m.tx.length≤30
 ty:m.ty.length≤30
 tz:m.tz.length≤30
def znW(x y z:Str):Int:=if zcL x≠0 then zcL x else if zcL y≠0 then zcL y else zcL z
theorem zhc{x y z:Str}(h:znW x y z=0):zcL x=0∧zcL y=0∧zcL z=0:=by
 unfold znW at h
 by_cases hx:zcL x=0
 ·rw[if_neg (by simpa using hx)]at h
  by_cases hy:zcL y=0
  ·rw[if_neg (by simpa using hy)]at h
   exact⟨hx,hy,h⟩
  ·rw[if_pos hy]at h;exact absurd h hy
 ·rw[if_pos hx]at h;exact absurd h hx
def zph(n a b:Int):Bool:=decide (n<a) || decide (b<n)
def zpU(m:Mb):Int :=
 if zph m.kind 1 12=true then 8
 else if m.face<0∨m.other < -1 then 19
 else if zph m.wid 1 1000=true∨zph m.dep 1 1000=true then 2
 else if znW m.fx m.fy m.fz≠0 then znW m.fx m.fy m.fz
 else if znW m.tx m.ty m.tz≠0 then znW m.tx m.ty m.tz
 else if m.fx=m.tx∧m.fy=m.ty∧m.fz=m.tz then 12
 else 0
structure MbOk (m:Mb):Prop where
 k1:1≤m.kind
 k2:m.kind≤12
 f0:0≤m.face
 o0:-1≤m.other
 w1:1≤m.wid
 w2:m.wid≤1000
 d1:1≤m.dep
 d2:m.dep≤1000
 cf:zcL m.fx=0∧zcL m.fy=0∧zcL m.fz=0
 ct:zcL m.tx=0∧zcL m.ty=0∧zcL m.tz=0
 ne:¬ (m.fx=m.tx∧m.fy=m.ty∧m.fz=m.tz)
theorem zhy{n a b:Int}(h:¬ zph n a b=true):a≤n∧n≤b:=by
 unfold zph at h
 simp only[Bool.or_eq_true,decide_eq_true_eq]at h
 omega
theorem znO{m:Mb}(h:zpU m=0):MbOk m:=by
 unfold zpU at h
 by_cases h1:zph m.kind 1 12=true
 ·rw[if_pos h1]at h;omega
 rw[if_neg h1]at h
 by_cases h2:m.face<0∨m.other < -1
 ·rw[if_pos h2]at h;omega
 rw[if_neg h2]at h
 by_cases h3:zph m.wid 1 1000=true∨zph m.dep 1 1000=true
 ·rw[if_pos h3]at h;omega
 rw[if_neg h3]at h
 by_cases h4:znW m.fx m.fy m.fz≠0
 ·rw[if_pos h4]at h;exact absurd h h4
 rw[if_neg h4]at h
 by_cases h5:znW m.tx m.ty m.tz≠0
 ·rw[if_pos h5]at h;exact absurd h h5
 rw[if_neg h5]at h
 by_cases h6:m.fx=m.tx∧m.fy=m.ty∧m.fz=m.tz
 ·rw[if_pos h6]at h;omega
 have a1:=zhy h1
 have a2:=zhy (fun h=>h3 (.inl h))
 have a3:=zhy (fun h=>h3 (.inr h))
 exact⟨a1.1,a1.2,by omega,by omega,a2.1,a2.2,a3.1,a3.2,zhc (by simpa using h4),zhc (by simpa using h5),h6⟩
theorem zrr(x:Int):x.natAbs<10 ^ (Lib.itoa x).length:=by
 refine Nat.lt_of_lt_of_le (zec x.natAbs) (Nat.pow_le_pow_right (by decide) ?_)
 by_cases h:x<0
 ·rw[itoa_neg h];simp
 ·rw[itoa_nonneg (by omega),show x.toNat=x.natAbs by omega];exact Nat.le_refl _
theorem zbe{a:Str}{n:Nat}(h:zcL a=0)(hl:a.length≤n)(hn:1≤n):Bd n (rval a):=by
 obtain⟨h1,h2⟩:=zbh h
 have e1:=zcc (rval a)
 have e2:=zdu (rval a)
 rw[h1]at e1 e2
 have l1:=zf3 a
 have l2:(zay a).length≤n:=by
  unfold zay;split
  ·have:=zgg a;omega
  ·simp;omega
 rw[e1]at l1
 rw[e2]at l2
 have b1:=zrr (rval a).num
 have b2:=zrr ((rval a).den:Int)
 rw[Int.natAbs_natCast]at b2
 exact⟨Nat.lt_of_lt_of_le b1 (Nat.pow_le_pow_right (by decide) (by omega)),Nat.lt_of_lt_of_le b2 (Nat.pow_le_pow_right (by decide) (by omega))⟩
def Mb.pf(m:Mb):P3:=⟨rval m.fx,rval m.fy,rval m.fz⟩
def Mb.pt(m:Mb):P3:=⟨rval m.tx,rval m.ty,rval m.tz⟩
theorem MbOk.bf{m:Mb}(h:MbOk m)(hs:m.short):B3 30 m.pf:=⟨zbe h.cf.1 hs.fx (by decide),zbe h.cf.2.1 hs.fy (by decide),zbe h.cf.2.2 hs.fz (by decide)⟩
theorem MbOk.bt{m:Mb}(h:MbOk m)(hs:m.short):B3 30 m.pt:=⟨zbe h.ct.1 hs.tx (by decide),zbe h.ct.2.1 hs.ty (by decide),zbe h.ct.2.2 hs.tz (by decide)⟩
theorem MbOk.strf{m:Mb}(h:MbOk m):za m.pf.x=m.fx∧za m.pf.y=m.fy∧za m.pf.z=m.fz:=⟨(zbh h.cf.1).1,(zbh h.cf.2.1).1,(zbh h.cf.2.2).1⟩
theorem MbOk.strt{m:Mb}(h:MbOk m):za m.pt.x=m.tx∧za m.pt.y=m.ty∧za m.pt.z=m.tz:=⟨(zbh h.ct.1).1,(zbh h.ct.2.1).1,(zbh h.ct.2.2).1⟩
theorem znN(n a b:Int)(w:World) :
  Calls Tryz.prog 14 #[.int .i64 n,.int .i64 a,.int .i64 b] w fun e w'=>e=.returned (.bool (zph n a b))∧w=w':=by
 unfold zph
 go_enter Tryz.func14,Tryz.ntmps14
 by_cases h1:n<a
 ·rw[decide_eq_true h1,Bool.true_or]
  go_wp2
  go_ret
  exact⟨rfl,rfl⟩
 ·rw[decide_eq_false h1,Bool.false_or]
  go_wp2
  go_ret
  exact⟨rfl,rfl⟩
theorem zeC(X Y Z:Str)(lX:X.length≤30)(lY:Y.length≤30)(lZ:Z.length≤30)(w:World)(hE:Env w) :
  CR 15 #[.agg #[.string ⟨X.toArray⟩,.string ⟨Y.toArray⟩,.string ⟨Z.toArray⟩]] w (.int .i64 (znW X Y Z)):=by
 have HX:=LH (fun w hw=>zbz X (by omega) w hw)
 have HY:=LH (fun w hw=>zbz Y (by omega) w hw)
 have HZ:=LH (fun w hw=>zbz Z (by omega) w hw)
 obtain⟨c,hc⟩:∃ c,znW X Y Z=c:=⟨_,rfl⟩
 rw[hc]
 unfold znW at hc
 generalize zcL X=cX at *
 generalize zcL Y=cY at *
 generalize zcL Z=cZ at *
 have HC:=LH hc
 clear hc lX lY lZ
 have HL:=LH (fun w=>zel X Y Z w)
 go_enter Tryz.func15,Tryz.ntmps15
 have hQ0:=Q.refl w
 go_wp2_with fail
 refine cx (HL.out _) fun w1 hq1=>?_
 have hs1:Q w w1:=Q.trans bt hq1
 have hQ1:Q w w1:=Q.trans hQ0 hs1
 go_wp2
 go_loopw [8] (fun i wr=>(i=.int .i64 0∨(i=.int .i64 1∧cX=0)∨(i=.int .i64 2∧cX=0∧cY=0)∨(i=.int .i64 3∧cX=0∧cY=0∧cZ=0))∧Q w wr) (fun i _=>3 - (intOf i).toNat)
 case atStart=>exact⟨.inl rfl,hQ1⟩
 case round =>
  obtain⟨hi,hQ⟩:=hrel
  clear hQ0 hs1 hq1 hQ1
  rcases hi with rfl | ⟨rfl,z0⟩|⟨rfl,z0,z1⟩|⟨rfl,z0,z1,z2⟩
  ·have hi:=zqU (.string ⟨X.toArray⟩) (.string ⟨Y.toArray⟩) (.string ⟨Z.toArray⟩)
   go_wp2_with fail
   refine cx (HX.out _ (hE.ofQ bt)) fun w2 hq2=>?_
   have hQ2:Q w w2:=Q.trans bt hq2
   by_cases h0:cX=0
   ·have hb:(cX == 0)=true:=by rw[h0];rfl
    go_wp2
    go_roundw
    case rel=>exact⟨.inr (.inl ⟨rfl,h0⟩),hQ2⟩
    case measure=>simp[intOf]
   ·have hb:(cX == 0)=false:=by simpa using h0
    have hc:c=cX:=by rw[← HC.out];rw[if_pos h0]
    go_wp2
    go_ret
    exact⟨by rw[hc];rfl,hQ2⟩
  ·have hi:=zqT (.string ⟨X.toArray⟩) (.string ⟨Y.toArray⟩) (.string ⟨Z.toArray⟩)
   go_wp2_with fail
   refine cx (HY.out _ (hE.ofQ bt)) fun w2 hq2=>?_
   have hQ2:Q w w2:=Q.trans bt hq2
   by_cases h0:cY=0
   ·have hb:(cY == 0)=true:=by rw[h0];rfl
    go_wp2
    go_roundw
    case rel=>exact⟨.inr (.inr (.inl ⟨rfl,z0,h0⟩)),hQ2⟩
    case measure=>simp[intOf]
   ·have hb:(cY == 0)=false:=by simpa using h0
    have hc:c=cY:=by rw[← HC.out];rw[if_neg (by simpa using z0),if_pos h0]
    go_wp2
    go_ret
    exact⟨by rw[hc];rfl,hQ2⟩
  ·have hi:=zqS (.string ⟨X.toArray⟩) (.string ⟨Y.toArray⟩) (.string ⟨Z.toArray⟩)
   go_wp2_with fail
   refine cx (HZ.out _ (hE.ofQ bt)) fun w2 hq2=>?_
   have hQ2:Q w w2:=Q.trans bt hq2
   by_cases h0:cZ=0
   ·have hb:(cZ == 0)=true:=by rw[h0];rfl
    go_wp2
    go_roundw
    case rel=>exact⟨.inr (.inr (.inr ⟨rfl,z0,z1,h0⟩)),hQ2⟩
    case measure=>simp[intOf]
   ·have hb:(cZ == 0)=false:=by simpa using h0
    have hc:c=cZ:=by rw[← HC.out];rw[if_neg (by simpa using z0),if_neg (by simpa using z1)]
    go_wp2
    go_ret
    exact⟨by rw[hc];rfl,hQ2⟩
  ·have hc:c=0:=by rw[← HC.out,if_neg (by simpa using z0),if_neg (by simpa using z1),z2]
   go_wp2
   go_ret
   exact⟨by rw[hc];rfl,bt⟩
theorem zex(m:Mb)(hs:m.short)(w:World)(hE:Env w) :
  CR 5 #[.agg (mbC m).toArray] w (.int .i64 (zpU m)):=by
 have HF:=LH (fun w hw=>zeC m.fx m.fy m.fz hs.fx hs.fy hs.fz w hw)
 have HT:=LH (fun w hw=>zeC m.tx m.ty m.tz hs.tx hs.ty hs.tz w hw)
 have HLF:Hid (znW m.fx m.fy m.fz=0→∀ w,Env w→CR 16 #[.agg #[.string ⟨m.fx.toArray⟩,.string ⟨m.fy.toArray⟩,.string ⟨m.fz.toArray⟩]] w (.bool false)):=LH (fun h w hw=>by
  have hc:=zhc h
  have h1:=zon (n:=30) m.pf ⟨zbe hc.1 hs.fx (by decide),zbe hc.2.1 hs.fy (by decide),zbe hc.2.2 hs.fz (by decide)⟩ (by decide) w hw
  unfold V3 Mb.pf at h1
  simp only[(zbh hc.1).1,(zbh hc.2.1).1,(zbh hc.2.2).1]at h1
  exact h1)
 have HLT:Hid (znW m.tx m.ty m.tz=0→∀ w,Env w→CR 16 #[.agg #[.string ⟨m.tx.toArray⟩,.string ⟨m.ty.toArray⟩,.string ⟨m.tz.toArray⟩]] w (.bool false)):=LH (fun h w hw=>by
  have hc:=zhc h
  have h1:=zon (n:=30) m.pt ⟨zbe hc.1 hs.tx (by decide),zbe hc.2.1 hs.ty (by decide),zbe hc.2.2 hs.tz (by decide)⟩ (by decide) w hw
  unfold V3 Mb.pt at h1
  simp only[(zbh hc.1).1,(zbh hc.2.1).1,(zbh hc.2.2).1]at h1
  exact h1)
 obtain⟨c,hc⟩:∃ c,zpU m=c:=⟨_,rfl⟩
 rw[hc]
 unfold zpU at hc
 obtain⟨k,fc,ot,X,Y,Z,X',Y',Z',W,D⟩:=m
 unfold mbC
 simp only at *
 clear hs
 generalize znW X Y Z=c1 at *
 generalize znW X' Y' Z'=c2 at *
 have HO1:=LH (fun w=>znN k 1 12 w)
 have HO2:=LH (fun w=>znN W 1 1000 w)
 have HO3:=LH (fun w=>znN D 1 1000 w)
 generalize zph k 1 12=b1 at *
 generalize zph W 1 1000=b2 at *
 generalize zph D 1 1000=b3 at *
 go_enter Tryz.func5,Tryz.ntmps5
 go_wp2_with fail
 have A:=Blk.new w [.int .i64 k,.int .i64 fc,.int .i64 ot,.string ⟨X.toArray⟩,.string ⟨Y.toArray⟩,.string ⟨Z.toArray⟩,.string ⟨X'.toArray⟩,.string ⟨Y'.toArray⟩,.string ⟨Z'.toArray⟩,.int .i64 W,.int .i64 D] 26
 refine(HO1.out _).mono ?_
 rintro e w1⟨rfl,rfl⟩
 cases b1 with
 | true =>
  rw[if_pos rfl]at hc
  subst hc
  go_wp2
  go_ret
  exact⟨rfl,bt⟩
 | false =>
  rw[if_neg (by simp)]at hc
  by_cases hf:fc<0∨ot < -1
  ·rw[if_pos hf]at hc
   subst hc
   go_wp2
   all_goals (go_ret;exact⟨rfl,bt⟩)
  ·rw[if_neg hf]at hc
   have hf1:¬ fc<0:=fun h=>hf (.inl h)
   have hf2:¬ ot < -1:=fun h=>hf (.inr h)
   go_wp2_with fail
   refine(HO2.out _).mono ?_
   rintro e w1⟨rfl,rfl⟩
   cases b2 with
   | true =>
    rw[if_pos (.inl rfl)]at hc
    subst hc
    go_wp2
    go_ret
    exact⟨rfl,bt⟩
   | false =>
    go_wp2_with fail
    refine(HO3.out _).mono ?_
    rintro e w1⟨rfl,rfl⟩
    cases b3 with
    | true =>
     rw[if_pos (.inr rfl)]at hc
     subst hc
     go_wp2
     go_ret
     exact⟨rfl,bt⟩
    | false =>
     rw[if_neg (by simp)]at hc
     have HCC:=LH hc
     clear HO1 HO2 HO3 hc hf hf1 hf2
     go_wp2
     have S:=Blk.new1 w (.cells #[.int .i64 k,.int .i64 fc,.int .i64 ot,.string ⟨X.toArray⟩,.string ⟨Y.toArray⟩,.string ⟨Z.toArray⟩,.string ⟨X'.toArray⟩,.string ⟨Y'.toArray⟩,.string ⟨Z'.toArray⟩,.int .i64 W,.int .i64 D] 26) [.string ⟨X.toArray⟩,.string ⟨Y.toArray⟩,.string ⟨Z.toArray⟩,.string ⟨X'.toArray⟩,.string ⟨Y'.toArray⟩,.string ⟨Z'.toArray⟩] 24
     replace A:=A.alloc (.cells #[.string ⟨X.toArray⟩,.string ⟨Y.toArray⟩,.string ⟨Z.toArray⟩,.string ⟨X'.toArray⟩,.string ⟨Y'.toArray⟩,.string ⟨Z'.toArray⟩] 24)
     go_loopw [34] (fun i wr=>(i=.int .i64 0∨(i=.int .i64 1∧c1=0)∨(i=.int .i64 2∧c1=0∧c2=0))∧Q w wr∧Blk wr w.heap.size [.int .i64 k,.int .i64 fc,.int .i64 ot,.string ⟨X.toArray⟩,.string ⟨Y.toArray⟩,.string ⟨Z.toArray⟩,.string ⟨X'.toArray⟩,.string ⟨Y'.toArray⟩,.string ⟨Z'.toArray⟩,.int .i64 W,.int .i64 D] 26∧Blk wr (w.heap.size+1) [.string ⟨X.toArray⟩,.string ⟨Y.toArray⟩,.string ⟨Z.toArray⟩,.string ⟨X'.toArray⟩,.string ⟨Y'.toArray⟩,.string ⟨Z'.toArray⟩] 24) (fun i _=>2 - (intOf i).toNat)
     case atStart=>exact⟨.inl rfl,bt,A,S⟩
     case round =>
      clear A S
      obtain⟨hi,hQ,A,S⟩:=hrel
      rcases hi with rfl | ⟨rfl,z1⟩|⟨rfl,z1,z2⟩
      ·have s0:=S.cell 0
       have s1:=S.cell 1
       have s2:=S.cell 2
       simp only[zs4,zs5]at s0 s1 s2
       go_wp2_with fail
       refine cx (HF.out _ (hE.ofQ bt)) fun w2 hq2=>?_
       have hs2:Q wr w2:=Q.trans bt hq2
       have hQ2:Q w w2:=Q.trans hQ hs2
       clear s0 s1 s2
       by_cases h0:c1=0
       ·have hb:(c1 == 0)=true:=by rw[h0];rfl
        go_wp2
        go_roundw
        case rel=>exact⟨.inr (.inl ⟨rfl,h0⟩),hQ2,A.keep hs2 A.lt,S.keep hs2 S.lt⟩
        case measure=>simp[intOf]
       ·have hb:(c1 == 0)=false:=by simpa using h0
        have hc:c=c1:=by rw[← HCC.out,if_pos h0]
        go_wp2
        go_ret
        exact⟨by rw[hc];rfl,hQ2⟩
      ·have s0:=S.cell 3
       have s1:=S.cell 4
       have s2:=S.cell 5
       simp only[zs4,zs5]at s0 s1 s2
       go_wp2_with fail
       refine cx (HT.out _ (hE.ofQ bt)) fun w2 hq2=>?_
       have hs2:Q wr w2:=Q.trans bt hq2
       have hQ2:Q w w2:=Q.trans hQ hs2
       clear s0 s1 s2
       by_cases h0:c2=0
       ·have hb:(c2 == 0)=true:=by rw[h0];rfl
        go_wp2
        go_roundw
        case rel=>exact⟨.inr (.inr ⟨rfl,z1,h0⟩),hQ2,A.keep hs2 A.lt,S.keep hs2 S.lt⟩
        case measure=>simp[intOf]
       ·have hb:(c2 == 0)=false:=by simpa using h0
        have hc:c=c2:=by rw[← HCC.out,if_neg (by simpa using z1),if_pos h0]
        go_wp2
        go_ret
        exact⟨by rw[hc];rfl,hQ2⟩
      ·clear S
       have HLF':=LH (HLF.out z1)
       have HLT':=LH (HLT.out z2)
       have hcc:(if X=X'∧Y=Y'∧Z=Z' then(12:Int)else 0)=c:=by
        have h:=HCC.out
        rw[if_neg (by simpa using z1),if_neg (by simpa using z2)]at h
        exact h
       clear HCC HLF HLT HF HT
       have a3:=A.cell 3
       have a4:=A.cell 4
       have a5:=A.cell 5
       have a6:=A.cell 6
       have a7:=A.cell 7
       have a8:=A.cell 8
       simp only[zs4,zs5]at a3 a4 a5 a6 a7 a8
       go_wp2_with fail
       refine cx (HLF'.out _ (hE.ofQ bt)) fun w2 hq2=>?_
       have hs2:Q wr w2:=Q.trans bt hq2
       have hQ2:Q w w2:=Q.trans hQ hs2
       replace A:=A.keep hs2 A.lt
       replace a3:=A.cell 3
       replace a4:=A.cell 4
       replace a5:=A.cell 5
       replace a6:=A.cell 6
       replace a7:=A.cell 7
       replace a8:=A.cell 8
       simp only[zs4,zs5]at a3 a4 a5 a6 a7 a8
       go_wp2_with fail
       refine cx (HLT'.out _ (hE.ofQ bt)) fun w3 hq3=>?_
       have hs3:Q w2 w3:=Q.trans bt hq3
       have hQ3:Q w w3:=Q.trans hQ2 hs3
       replace A:=A.keep hs3 A.lt
       replace a3:=A.cell 3
       replace a4:=A.cell 4
       replace a5:=A.cell 5
       replace a6:=A.cell 6
       replace a7:=A.cell 7
       replace a8:=A.cell 8
       simp only[zs4,zs5]at a3 a4 a5 a6 a7 a8
       by_cases heq:X=X'∧Y=Y'∧Z=Z'
       ·rw[if_pos heq]at hcc
        obtain⟨rfl,rfl,rfl⟩:=heq
        subst hcc
        go_wp2
        all_goals (go_ret;exact⟨rfl,hQ3⟩)
       ·rw[if_neg heq]at hcc
        subst hcc
        have hne:((X == X') && ((Y == Y') && (Z == Z')))=false:=by
         rcases hb:((X == X') && ((Y == Y') && (Z == Z')))with _ | _
         ·rfl
         ·simp only[Bool.and_eq_true,beq_iff_eq]at hb
          exact absurd hb heq
        go_wp2
        all_goals first
         | (exfalso;subst_vars;simp at hne;done)
         | (go_ret;exact⟨rfl,hQ3⟩)
end
section
open Go.RowKit Kp
structure Fr where
 up:Bool
 coord:Int
 dir:Int
 speed:Rat
 start:Rat
def frC(f:Fr):List Value:=[.bool f.up,.int .i64 f.coord,.int .i64 f.dir,.string ⟨(za f.speed).toArray⟩,.string ⟨(za f.start).toArray⟩]
def zg8(s n:Sd):Nat:=if s.x<n.x then 0 else if s.y<n.y then 1 else if n.x<s.x then 2 else 3
def upF:Nat→Bool
 | 0=>false
 | 1=>true
 | 2=>false
 | _=>true
def ztA:Nat→Int
 | 0=>1
 | 1=>-1
 | 2=>-1
 | _=>1
def zjI(s n:Sd):Fr:=⟨upF (zg8 s n),if upF (zg8 s n)then s.x else s.y,ztA (zg8 s n),if s.gable then 0 else Rat.divInt s.run s.rise,(s.plate:Rat)⟩
def zko(r:List Sd):List Fr:=(List.range r.length).map fun i=>zjI (zb5 r i) (zb5 r ((i+1) % r.length))
def zcs(R:List (List Sd)):List Fr:=R.flatMap zko
theorem zo0(r:List Sd):(zko r).length=r.length:=by unfold zko;rw[List.length_map,List.length_range]
theorem zjG:∀ R:List (List Sd),(zcs R).length=R.flatten.length
 | []=>rfl
 | r::R=>by
  have ih:=zjG R
  unfold zcs at *
  rw[List.flatMap_cons,List.length_append,zo0,ih,List.flatten_cons,List.length_append]
structure FrOk (f:Fr):Prop where
 c0:0≤f.coord
 c1:f.coord≤65536
 d:f.dir=1∨f.dir = -1
 s:Bd 5 f.speed
 s0:0≤f.speed.num
 p:Bd 5 f.start
theorem zsi(n:Nat):ztA n=1∨ztA n = -1:=by
 unfold ztA
 split
 ·exact .inl rfl
 ·exact .inr rfl
 ·exact .inr rfl
 ·exact .inl rfl
theorem zq5{s n:Sd}(h:Rgd s):FrOk (zjI s n):=by
 have hx:=h.x0;have hx1:=h.x1;have hy:=h.y0;have hy1:=h.y1;have hp:=h.p0;have hp1:=h.p1
 refine⟨?_,?_,zsi _,?_,?_,?_⟩
 ·show 0≤(if upF (zg8 s n)then s.x else s.y)
  split <;> omega
 ·show (if upF (zg8 s n)then s.x else s.y)≤65536
  split <;> omega
 ·show Bd 5 (if s.gable then 0 else Rat.divInt s.run s.rise)
  split
  ·exact⟨Nat.pow_pos (by decide),Nat.one_lt_pow (by omega) (by decide)⟩
  ·next hg =>
   have h1:=h.n (by simpa using hg)
   obtain⟨k,hk⟩:=Int.eq_ofNat_of_zero_le (show 0≤s.rise by omega)
   rw[hk]
   exact zdv (by omega) (by omega) (by omega)
 ·show 0≤(if s.gable then(0:Rat)else Rat.divInt s.run s.rise).num
  split
  ·decide
  ·next hg =>
   have h1:=h.n (by simpa using hg)
   obtain⟨k,hk⟩:=Int.eq_ofNat_of_zero_le (show 0≤s.rise by omega)
   rw[hk]
   exact Int.le_of_lt (zb1 (by omega) (by omega))
 ·show Bd 5 (s.plate:Rat)
  exact zfM (by omega) (by decide)
theorem zk4{r:List Sd}{i:Nat}(h:i<r.length):zb5 r i∈r:=by
 unfold zb5
 rw[List.getD_eq_getElem?_getD,List.getElem?_eq_getElem h]
 exact List.getElem_mem h
theorem zpA{R:List (List Sd)}(h:∀ s∈R.flatten,Rgd s):∀ f∈zcs R,FrOk f:=by
 intro f hf
 unfold zcs at hf
 obtain⟨r,hr,hf⟩:=List.mem_flatMap.1 hf
 unfold zko at hf
 obtain⟨i,hi,rfl⟩:=List.mem_map.1 hf
 exact zq5 (h _ (List.mem_flatten.2 ⟨r,hr,zk4 (List.mem_range.1 hi)⟩))
def zmX(f:Fr)(x y:Rat):Rat:=(f.dir:Rat)*((if f.up then x else y) - (f.coord:Rat))
structure Raf where
 dep:Int
 pitch:Rat
 run:Rat
 over:Int
def fr0:Fr:=⟨false,0,0,0,0⟩
def zjJ(R:List (List Sd))(m:Mb):Sd:=R.flatten.getD m.face.toNat sd0
def zsc(R:List (List Sd))(m:Mb):Fr:=(zcs R).getD m.face.toNat fr0
def zrU(R:List (List Sd))(m:Mb):Rat:=zmX (zsc R m) m.pf.x m.pf.y
def zg7(R:List (List Sd))(m:Mb):Rat:=zmX (zsc R m) m.pt.x m.pt.y
def zqv(R:List (List Sd))(m:Mb):Raf:=⟨m.dep,Rat.divInt (zjJ R m).rise (zjJ R m).run,zg7 R m,(zjJ R m).over⟩
end
section
open Go.RowKit Go.Shelf Kp
attribute [local go_sem] Oper.semAt_some
theorem zlP(s n:Sd)(w:World):CR 188 #[.agg (sdC s).toArray,.agg (sdC n).toArray] w (.int .i64 (zg8 s n:Nat)):=by
 obtain⟨x1,y1,r1,n1,g1,p1,q1⟩:=s
 obtain⟨x2,y2,r2,n2,g2,p2,q2⟩:=n
 unfold zg8 sdC
 simp only
 by_cases h1:x1<x2
 ·rw[if_pos h1]
  go_enter Tryz.func188,Tryz.ntmps188
  go_wp2
  go_ret
  exact⟨rfl,bt⟩
 ·rw[if_neg h1]
  by_cases h2:y1<y2
  ·rw[if_pos h2]
   go_enter Tryz.func188,Tryz.ntmps188
   go_wp2
   go_ret
   exact⟨rfl,bt⟩
  ·rw[if_neg h2]
   by_cases h3:x2<x1
   ·rw[if_pos h3]
    go_enter Tryz.func188,Tryz.ntmps188
    go_wp2
    go_ret
    exact⟨rfl,bt⟩
   ·rw[if_neg h3]
    go_enter Tryz.func188,Tryz.ntmps188
    go_wp2
    go_ret
    exact⟨rfl,bt⟩
theorem zh9(S:List UInt8)(w:World):CR 233 #[.string ⟨S.toArray⟩] w (.int .i64 ((zo S).length:Nat)):=by
 have HT:=LH (fun w=>zH S w)
 generalize zo S=U at *
 go_enter Tryz.func233,Tryz.ntmps233
 go_wp2_with fail
 refine(HT.out _).mono ?_
 rintro e w2⟨rfl,rfl⟩
 go_wp2
 go_ret
 exact⟨rfl,Q.refl _⟩
end
section
open Go.RowKit Go.Shelf Kp
attribute [local go_sem] Oper.semAt_some
theorem zsp{q:Rat}{n:Nat}(h:Bd n q):((zo (Lib.itoa (q.den:Int))).length:Int)≤n:=by
 have h1:(zo (Lib.itoa (q.den:Int))).length≤n:=by
  rw[zaa]
  rcases Nat.eq_zero_or_pos n with rfl | hn
  ·exact absurd h.2 (by have:=q.den_pos;simp;omega)
  ·exact(zi _ n hn).2 (by rw[Int.natAbs_natCast];exact h.2)
 omega
theorem zfx(n:Int):Rat.divInt n ((1:Nat):Int)=(n:Rat):=by
 rw[Rat.divInt_eq_div,Rat.intCast_natCast,show ((1:Nat):Rat)=1 from rfl];grind
theorem zdM(q:Rat)(h:Bd 36 q)(w:World)(hE:Env w) :
  CR 190 #[.string ⟨(za q).toArray⟩] w (.int .i64 0):=by
 have HC:=LH (fun w hw=>zO q (h.zak (by decide)) w hw)
 have HP:=LH (fun w hw=>za9 q (h.zak (by decide)) w hw)
 have l1:=(zlV h).1
 have l2:=zsp h
 clear h
 generalize za q=S at *
 have HN:=LH (fun w=>zh9 (Lib.itoa q.num) w)
 have HD:=LH (fun w=>zh9 (Lib.itoa (q.den:Int)) w)
 generalize zo (Lib.itoa q.num)=U at *
 generalize zo (Lib.itoa (q.den:Int))=V at *
 generalize Lib.itoa q.num=N at *
 generalize Lib.itoa (q.den:Int)=D at *
 have hm:¬ (36:Int)<max (U.length:Int) (V.length:Int):=by omega
 go_enter Tryz.func190,Tryz.ntmps190
 have hQ0:=Q.refl w
 go_wp2_with fail
 refine cx (HC.out _ (hE.ofQ bt)) fun w1 hq1=>?_
 have hs1:Q w w1:=Q.trans bt hq1
 have hQ1:Q w w1:=Q.trans hQ0 hs1
 go_wp2_with fail
 refine cx (HP.out _ (hE.ofQ bt)) fun w2 hq2=>?_
 have hs2:Q w1 w2:=Q.trans bt hq2
 have hQ2:Q w w2:=Q.trans hQ1 hs2
 go_wp2_with fail
 refine cx (HN.out _) fun w3 hq3=>?_
 have hs3:Q w2 w3:=Q.trans bt hq3
 have hQ3:Q w w3:=Q.trans hQ2 hs3
 go_wp2_with fail
 refine cx (HD.out _) fun w4 hq4=>?_
 have hs4:Q w3 w4:=Q.trans bt hq4
 have hQ4:Q w w4:=Q.trans hQ3 hs4
 go_wp2
 go_ret
 exact⟨rfl,bt⟩
theorem zjH(n:Int)(hn:n.natAbs<100000000000000000)(w:World)(hE:Env w) :
  CR 141 #[.int .i64 n] w (.string ⟨(za (n:Rat)).toArray⟩):=by
 have HO:=LH (fun w hw=>zaw n 1 (by decide) hn (by decide) w hw)
 rw[zfx]at HO
 generalize za (n:Rat)=S at *
 go_enter Tryz.func141,Tryz.ntmps141
 have hQ0:=Q.refl w
 go_wp2_with fail
 refine cx (HO.out _ (hE.ofQ bt)) fun w1 hq1=>?_
 have hs1:Q w w1:=Q.trans bt hq1
 have hQ1:Q w w1:=Q.trans hQ0 hs1
 go_wp2
 go_ret
 exact⟨rfl,bt⟩
theorem zq2{m n:Nat}(x y:Rat)(hx:Bd m x)(hy:Bd n y)(h:m+n+1≤300)(w:World)(hE:Env w) :
  CR 142 #[.string ⟨(za x).toArray⟩,.string ⟨(za y).toArray⟩] w (.string ⟨(za (x - y)).toArray⟩):=by
 have HO:=LH (fun w hw=>zao x y hx hy h w hw)
 generalize za (x - y)=S at *
 generalize za x=X at *
 generalize za y=Y at *
 go_enter Tryz.func142,Tryz.ntmps142
 have hQ0:=Q.refl w
 go_wp2_with fail
 refine cx (HO.out _ (hE.ofQ bt)) fun w1 hq1=>?_
 have hs1:Q w w1:=Q.trans bt hq1
 have hQ1:Q w w1:=Q.trans hQ0 hs1
 go_wp2
 go_ret
 exact⟨rfl,bt⟩
theorem zq3{m n:Nat}(x y:Rat)(hx:Bd m x)(hy:Bd n y)(h:m+n≤300)(w:World)(hE:Env w) :
  CR 140 #[.string ⟨(za x).toArray⟩,.string ⟨(za y).toArray⟩] w (.string ⟨(za (x*y)).toArray⟩):=by
 have HO:=LH (fun w hw=>zaq x y hx hy h w hw)
 generalize za (x*y)=S at *
 generalize za x=X at *
 generalize za y=Y at *
 go_enter Tryz.func140,Tryz.ntmps140
 have hQ0:=Q.refl w
 go_wp2_with fail
 refine cx (HO.out _ (hE.ofQ bt)) fun w1 hq1=>?_
 have hs1:Q w w1:=Q.trans bt hq1
 have hQ1:Q w w1:=Q.trans hQ0 hs1
 go_wp2
 go_ret
 exact⟨rfl,bt⟩
end
section
open Go.RowKit Go.Shelf Kp
attribute [local go_sem] Oper.semAt_some
def grS(X Y Z:Str):Bool:=decide ((30:Int)<X.length) || (decide ((30:Int)<Y.length) || decide ((30:Int)<Z.length))
def grM(m:Mb):Bool:=grS m.fx m.fy m.fz || grS m.tx m.ty m.tz
theorem zmU{m:Mb}(h:grM m=false):m.short:=by
 unfold grM grS at h
 simp only[Bool.or_eq_false_iff,decide_eq_false_iff_not]at h
 obtain⟨⟨h1,h2,h3⟩,h4,h5,h6⟩:=h
 exact⟨by omega,by omega,by omega,by omega,by omega,by omega⟩
theorem zcl(X Y Z:Str)(w:World) :
  CR 13 #[.agg #[.string ⟨X.toArray⟩,.string ⟨Y.toArray⟩,.string ⟨Z.toArray⟩]] w (.bool (grS X Y Z)):=by
 unfold grS
 cases h1:decide ((30:Int)<X.length) <;> cases h2:decide ((30:Int)<Y.length) <;> cases h3:decide ((30:Int)<Z.length)
 all_goals
  go_enter Tryz.func13,Tryz.ntmps13
  go_wp2
  go_ret
  exact⟨rfl,bt⟩
theorem zpp(n:Int)(hn:n.natAbs<100000000000000000)(w:World)(hE:Env w) :
  CR 9 #[.int .i64 n] w (.string ⟨(za (n:Rat)).toArray⟩):=by
 have HO:=LH (fun w hw=>zaw n 1 (by decide) hn (by decide) w hw)
 rw[zfx]at HO
 generalize za (n:Rat)=S at *
 go_enter Tryz.func9,Tryz.ntmps9
 have hQ0:=Q.refl w
 go_wp2_with fail
 refine cx (HO.out _ (hE.ofQ bt)) fun w1 hq1=>?_
 have hs1:Q w w1:=Q.trans bt hq1
 have hQ1:Q w w1:=Q.trans hQ0 hs1
 go_wp2
 go_ret
 exact⟨rfl,bt⟩
end
end Go.Proofs.YtdecodpgdainiaaGreatDoor
