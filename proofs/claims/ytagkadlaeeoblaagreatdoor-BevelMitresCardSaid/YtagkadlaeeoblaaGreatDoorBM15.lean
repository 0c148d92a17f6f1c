/-
  Walks of package plan, at any plan: Check, Sides.; Fronts of the sides of a plan, rafters at an eaves, birdsmouths. Mathematics.; Walks of package front.; Walks of package front: numbers, sums, products; distances.; Members of any numbers: their check, their direction.
-/
import Derived.Test.YtagkadlaeeoblaaGreatDoorBMPT
import Derived.Test.YtagkadlaeeoblaaGreatDoorBM10
import Derived.Test.YtagkadlaeeoblaaGreatDoorBM13
set_option maxRecDepth 100000
set_option maxHeartbeats 4000000
namespace Go.Proofs.YtagkadlaeeoblaaGreatDoor
section
open Go.RowKit Go.Shelf Kp
attribute [local go_sem] Oper.semAt_some
def zlv(R:List (List Sd))(k:Nat):Nat:=((R.take k).map List.length).sum
theorem zmQ{R:List (List Sd)}{k:Nat}(h:k<R.length):zlv R (k+1)=zlv R k+(ringAt R k).length:=by
 unfold zlv
 rw[List.take_succ_eq_append_getElem h,List.map_append,List.sum_append,zaJ h]
 simp
theorem zoi(R:List (List Sd)):zlv R R.length=zaF R:=by unfold zlv zaF;rw[List.take_length]
theorem zq0(R:List (List Sd))(k:Nat):zlv R k≤zaF R:=by
 have:=congrArg (fun l:List (List Sd)=>(l.map List.length).sum) (List.take_append_drop k R)
 simp only[List.map_append,List.sum_append]at this
 unfold zlv zaF
 omega
def zsM(u s c p j:Bool):Int:=if u then 2 else if s then 14 else if c then 15 else if !p || !j then 14 else 0
theorem zsi{R:List (List Sd)}(hl:∀ k,k<R.length→0<(ringAt R k).length):¬ (R.any fun r=>decide (r.length=0))=true:=by
 intro h
 obtain⟨r,hr,h⟩:=List.any_eq_true.1 h
 obtain⟨k,hk,rfl⟩:=List.mem_iff_getElem.1 hr
 have:=hl k hk
 rw[zaJ hk]at this
 rw[decide_eq_true_eq]at h
 omega
theorem zoU{R:List (List Sd)}{k:Nat}(hk:k<R.length)(h:(ringAt R k).length=0):zdE R=5:=by
 unfold zdE
 rw[if_pos]
 rw[zaJ hk]at h
 exact List.any_eq_true.2 ⟨_,List.getElem_mem hk,by rw[decide_eq_true_eq];exact h⟩
theorem zoW{R:List (List Sd)}(h:zaF R=0):zdE R=5:=by
 unfold zdE
 split
 ·rfl
 ·rfl
theorem zoX{R:List (List Sd)}(hl:∀ k,k<R.length→0<(ringAt R k).length)(h:24<zaF R):zdE R=4:=by
 unfold zdE
 rw[if_neg (zsi hl),if_neg (by omega),if_pos h]
theorem zoV{R:List (List Sd)}(hl:∀ k,k<R.length→0<(ringAt R k).length)(h0:0<zaF R)(h:zaF R≤24) :
  zdE R=zsM (R.flatten.any fun s=>!zah s) (R.any fun r=>!zao r) (zdu R) (zb4 R) (zdG R):=by
 unfold zdE zsM
 rw[if_neg (zsi hl),if_neg (by omega),if_neg (by omega)]
theorem zrq{R:List (List Sd)}(hl:∀ r∈R,0<r.length):R.length≤zaF R:=by
 unfold zaF
 induction R with
 | nil=>simp
 | cons r R ih =>
  have h1:=hl r (by simp)
  have h2:=ih (fun s hs=>hl s (by simp[hs]))
  simp only[List.map_cons,List.sum_cons,List.length_cons]
  omega
theorem zp4{R:List (List Sd)}{r:List Sd}(h:r∈R):r.length≤zaF R:=by
 unfold zaF
 induction R with
 | nil=>cases h
 | cons s R ih =>
  simp only[List.map_cons,List.sum_cons]
  rcases List.mem_cons.1 h with rfl | h
  ·omega
  ·have:=ih h
   omega
theorem zhc(R:List (List Sd))(hn:R.length≤1000)(hcn:zaF R≤1000)(v:Value)(w:World)(hv:zjG w v R) :
  CR 80 #[.agg #[v]] w (.int .i64 (zdE R)):=by
 have HV:=LH hv
 have HC0:Hid (∀ k,k<R.length→∃ a cap b o a2 c2,v=.slice a R.length cap∧a=some ⟨b,o,none⟩∧w.cell? ⟨b,o+k,none⟩=some (.slice a2 (ringAt R k).length c2)∧b<w.heap.size):=LH (fun k hk=>by
  obtain⟨a,cap,rfl,hc⟩:=hv
  obtain⟨b,o,vi,rfl,hb,hcell,hrs⟩:=hc k hk
  obtain⟨a2,c2,rfl,-⟩:=hrs
  rw[zaJ hk]
  exact⟨_,_,_,_,_,_,rfl,rfl,hcell,hb⟩)
 have H5:Hid (∀ k,k<R.length→(ringAt R k).length=0→zdE R=5):=LH (fun k hk h=>zoU hk h)
 have H0:Hid (zaF R=0→zdE R=5):=LH zoW
 have H4:Hid ((∀ k,k<R.length→0<(ringAt R k).length)→24<zaF R→zdE R=4):=LH zoX
 have HE:Hid ((∀ k,k<R.length→0<(ringAt R k).length)→0<zaF R→zaF R≤24→zdE R=zsM (R.flatten.any fun s=>!zah s) (R.any fun r=>!zao r) (zdu R) (zb4 R) (zdG R)):=LH zoV
 have HS1:Hid (∀ k,k<R.length→zlv R (k+1)=zlv R k+(ringAt R k).length):=LH (fun k hk=>zmQ hk)
 have HSl:Hid (∀ k,zlv R k≤1000):=LH (fun k=>Nat.le_trans (zq0 R k) hcn)
 have HSe:=LH (zoi R)
 have HS0:Hid (zlv R 0=0):=LH rfl
 generalize zdE R=E at *
 obtain⟨a0,cap0,rfl,-⟩:=id hv
 have hRz:(R.length:Int)≤1000:=by omega
 have B:=Blk.new w [.slice a0 R.length cap0] 53
 have hq1:Q w (w.alloc (.cells [Value.slice a0 R.length cap0].toArray 53)):=(Below.refl _ w).alloc (Nat.le_refl _) _
 have c0:=B.cell 0
 simp only[List.getElem?_cons_zero]at c0
 obtain⟨W0,hW0⟩:∃ W0,w.alloc (.cells #[Value.slice a0 R.length cap0] 53)=W0:=⟨_,rfl⟩
 have hW0':w.alloc (.cells [Value.slice a0 R.length cap0].toArray 53)=W0:=hW0
 rw[hW0']at B hq1 c0
 clear hW0' hv hn
 go_enter Tryz.func80,Tryz.ntmps80
 go_wp2
 clear hW0
 go_loop [3,9] (fun c i=>∃ k:Nat,k≤R.length∧i=.int .i64 k∧c=.int .i64 (zlv R k:Nat)∧Hid (∀ j,j<k→0<(ringAt R j).length)) (fun _ i=>R.length - (intOf i).toNat)
 case atStart=>exact⟨0,by omega,rfl,by rw[HS0.out];rfl,LH (fun j hj=>absurd hj (Nat.not_lt_zero _))⟩
 case round =>
  obtain⟨k,hk,rfl,rfl,HA⟩:=hrel
  by_cases hlt:k<R.length
  ·obtain⟨a',cap',b,o,a2,c2,he,ha,hcell,hbl⟩:=HC0.out k hlt
   injection he with he1 he2 he3
   subst he1 he3
   subst ha
   have hcell:=za hq1 hcell
   have hs:=HS1.out k hlt
   have hp1:=HSl.out (k+1)
   have H5k:=LH (H5.out k hlt)
   have HAk:Hid (0<(ringAt R k).length→∀ j,j<k+1→0<(ringAt R j).length):=LH (fun h j hj=>by
    rcases Nat.lt_or_ge j k with h1 | h1
    ·exact HA.out j h1
    ·obtain rfl:j=k:=by omega
     exact h)
   have HSk:=LH hs
   have w1i:=Go.IntWalk.i64_in ((zlv R k:Int)+((ringAt R k).length:Int)) (by omega)
   have hkz:(k:Int)<R.length:=by omega
   have hk0:(0:Int)≤k:=by omega
   clear hs hp1 H5 H0 H4 HE
   generalize zlv R k=p at *
   generalize (ringAt R k).length=n at *
   rcases Nat.eq_zero_or_pos n with h0 | h0
   ·have h5:=H5k.out h0
    subst h5
    subst h0
    clear HAk HSk H5k w1i
    go_wp2
    go_ret
    exact⟨rfl,hq1⟩
   ·have HB:=LH (HAk.out h0)
    have hn0:¬ n=0:=by omega
    have hn1:((n:Int) == 0)=false:=by rw[beq_eq_false_iff_ne];omega
    clear HAk H5k
    go_wp2
    go_round
    case rel=>exact⟨k+1,by omega,by go_num,by rw[HSk.out];go_num,HB⟩
    case measure=>simp[intOf];omega
  ·obtain rfl:k=R.length:=by omega
   rw[HSe.out]
   have hA:=HA.out
   have hlen:∀ r∈R,0<r.length:=fun r hr=>by
    obtain⟨k,hk,rfl⟩:=List.mem_iff_getElem.1 hr
    rw[← zaJ hk]
    exact hA k hk
   clear HC0 HS1 HSl HSe HS0 H5 hlt hk HA
   by_cases hz:zaF R=0
   ·have h5:=H0.out hz
    subst h5
    rw[hz]
    clear H0 H4 HE hA hlen hz hcn
    go_wp2
    go_ret
    exact⟨rfl,hq1⟩
   by_cases hm:24<zaF R
   ·have h4:=H4.out hA hm
    subst h4
    have hz1:((zaF R:Int) == 0)=false:=by rw[beq_eq_false_iff_ne];omega
    have hm1:decide ((24:Int)<(zaF R:Int))=true:=by rw[decide_eq_true_eq];omega
    clear H0 H4 HE hA hlen
    generalize zaF R=cf at *
    go_wp2
    go_ret
    exact⟨rfl,hq1⟩
   have HQ:=LH (HE.out hA (by omega) (by omega))
   have hz1:((zaF R:Int) == 0)=false:=by rw[beq_eq_false_iff_ne];omega
   have hm1:decide ((24:Int)<(zaF R:Int))=false:=by rw[decide_eq_false_iff_not];omega
   have hfl:=count_flatten R
   have hR:=zrq hlen
   have hR0:0<R.length:=by
    rcases Nat.eq_zero_or_pos R.length with h | h
    ·rw[List.length_eq_zero_iff.1 h]at hz
     exact absurd rfl hz
    ·exact h
   have hln:∀ r∈R,0<r.length∧r.length≤1000:=fun r hr=>⟨hlen r hr,Nat.le_trans (zp4 hr) hcn⟩
   have HC:Hid (∀ W,Q w W→Calls Tryz.prog 140 #[.slice a0 R.length cap0] W fun e w'=>∃ v',e=.returned v'∧Q W w'∧zcY 7 sdC w' v' R.flatten):=LH (fun W hq=>zhC R hlen (by omega) (by omega) (by omega) _ W (HV.out.keep hq))
   have HS:Hid (∀ v' W,zcY 7 sdC W v' R.flatten→CR 139 #[v',.func (.func 141) #[] #[]] W (.bool (R.flatten.any fun s=>!zah s))):=LH (fun v' W hs=>by
    obtain⟨a,cap,rfl,hx⟩:=id hs
    obtain⟨-,hrow,hba⟩:=zcY.at hs
    exact zj2 R.flatten (by omega) a cap W hrow (fun k hk=>hba k hk (by omega)))
   have hok:(R.flatten.any fun s=>!zah s)=false→∀ r∈R,∀ i,i<r.length→ArnOk (arn r i):=fun h r hr i hi=>zsa (fun s hs=>zsh (by
    have:=List.any_eq_false.1 h s (List.mem_flatten.2 ⟨r,hr,hs⟩)
    simpa using this)) i hi
   have HR:Hid ((R.flatten.any fun s=>!zah s)=false→∀ W,Q w W→CR 143 #[.slice a0 R.length cap0,.func (.func 144) #[] #[]] W (.bool (R.any fun r=>!zao r))):=LH (fun h W hq=>zj4 R (by omega) hln (hok h) _ W (HV.out.keep hq))
   have HX:Hid (∀ W,Q w W→CR 146 #[.slice a0 R.length cap0] W (.bool (zdu R))):=LH (fun W hq=>callsIn_wide.1 (znF R (by omega) hln hcn _ W (HV.out.keep hq) hR0))
   have HP:Hid ((R.flatten.any fun s=>!zah s)=false→∀ W,Q w W→CR 147 #[.slice a0 R.length cap0] W (.bool (zb4 R))):=LH (fun h W hq=>znf R (by omega) hln (hok h) _ W (HV.out.keep hq))
   have HJ:Hid ((R.flatten.any fun s=>!zah s)=false→∀ W,Q w W→CR 148 #[.slice a0 R.length cap0] W (.bool (zdG R))):=LH (fun h W hq=>callsIn_wide.1 (zpi R (by omega) hln (hok h) _ W (HV.out.keep hq) hR0))
   clear H0 H4 HE hA hlen HV hfl hln hok hz hm hR hcn
   generalize (R.flatten.any fun s=>!zah s)=ru at *
   generalize (R.any fun r=>!zao r)=rs at *
   generalize zdu R=rc at *
   generalize zb4 R=rp at *
   generalize zdG R=rj at *
   generalize zaF R=cf at *
   generalize R.flatten=F at *
   generalize R.length=n at *
   go_wp2_with fail
   refine(HC.out _ hq1).mono ?_
   rintro e w2⟨v',rfl,hq,hs⟩
   replace B:=B.keep hq B.lt
   replace c0:=B.cell 0
   simp only[List.getElem?_cons_zero]at c0
   have hq2:=Q.trans hq1 hq
   clear hq hq1 HC
   go_wp2_with fail
   refine cx (HS.out _ _ hs) fun w3 hq=>?_
   replace B:=B.keep hq B.lt
   replace c0:=B.cell 0
   simp only[List.getElem?_cons_zero]at c0
   have hq3:=Q.trans hq2 hq
   clear hq hq2 hs HS
   cases ru
   case true =>
    obtain rfl:E=2:=HQ.out
    clear HR HX HP HJ HQ
    go_wp2
    go_ret
    exact⟨rfl,hq3⟩
   have HR1:=LH (HR.out rfl)
   have HP1:=LH (HP.out rfl)
   have HJ1:=LH (HJ.out rfl)
   clear HR HP HJ
   go_wp2_with fail
   refine cx (HR1.out _ hq3) fun w4 hq=>?_
   replace B:=B.keep hq B.lt
   replace c0:=B.cell 0
   simp only[List.getElem?_cons_zero]at c0
   have hq4:=Q.trans hq3 hq
   clear hq hq3 HR1
   cases rs
   case true =>
    obtain rfl:E=14:=HQ.out
    clear HX HP1 HJ1 HQ
    go_wp2
    go_ret
    exact⟨rfl,hq4⟩
   go_wp2_with fail
   refine cx (HX.out _ hq4) fun w5 hq=>?_
   replace B:=B.keep hq B.lt
   replace c0:=B.cell 0
   simp only[List.getElem?_cons_zero]at c0
   have hq5:=Q.trans hq4 hq
   clear hq hq4 HX
   cases rc
   case true =>
    obtain rfl:E=15:=HQ.out
    clear HP1 HJ1 HQ
    go_wp2
    go_ret
    exact⟨rfl,hq5⟩
   go_wp2_with fail
   refine cx (HP1.out _ hq5) fun w6 hq=>?_
   replace B:=B.keep hq B.lt
   replace c0:=B.cell 0
   simp only[List.getElem?_cons_zero]at c0
   have hq6:=Q.trans hq5 hq
   clear hq hq5 HP1
   cases rp
   case false =>
    obtain rfl:E=14:=HQ.out
    clear HJ1 HQ
    go_wp2
    go_ret
    exact⟨rfl,hq6⟩
   go_wp2_with fail
   refine cx (HJ1.out _ hq6) fun w7 hq=>?_
   have hq7:=Q.trans hq6 hq
   cases rj
   case false =>
    obtain rfl:E=14:=HQ.out
    clear HQ
    go_wp2
    go_ret
    exact⟨rfl,hq7⟩
   obtain rfl:E=0:=HQ.out
   clear HQ
   go_wp2
   go_ret
   exact⟨rfl,hq7⟩
theorem zoT(R:List (List Sd))(h:zdE R=0)(hn:R.length≤1000)(v:Value)(w:World)(hv:zjG w v R) :
  Calls Tryz.prog 81 #[.agg #[v]] w fun e w'=>∃ v',e=.returned (.tuple #[v',.int .i64 0])∧Q w w'∧zcY 7 sdC w' v' R.flatten:=by
 have ok:=zk2 h
 have hfl:=count_flatten R
 have hle:=ok.le
 have hp:=ok.pos
 have HK:Hid (∀ W,Q w W→CR 80 #[.agg #[v]] W (.int .i64 0)):=LH (fun W hq=>by
  have:=zhc R hn (by omega) v W (hv.keep hq)
  rw[h]at this
  exact this)
 have HC:Hid (∀ W,Q w W→Calls Tryz.prog 140 #[v] W fun e w'=>∃ v',e=.returned v'∧Q W w'∧zcY 7 sdC w' v' R.flatten):=LH (fun W hq=>zhC R (fun r hr=>by have:=ok.four r hr;omega) (by omega) (by omega) hn _ W (hv.keep hq))
 obtain⟨a0,cap0,rfl,-⟩:=hv
 clear ok hfl hle hp h hn
 have B:=Blk.new w [.slice a0 R.length cap0] 53
 have hq1:Q w (w.alloc (.cells [Value.slice a0 R.length cap0].toArray 53)):=(Below.refl _ w).alloc (Nat.le_refl _) _
 have c0:=B.cell
 generalize R.length=n at *
 generalize R.flatten=F at *
 go_enter Tryz.func81,Tryz.ntmps81
 go_wp2_with fail
 refine cx (HK.out _ hq1) fun w2 hq=>?_
 replace B:=B.keep hq B.lt
 replace c0:=B.cell
 have hq2:=Q.trans hq1 hq
 clear hq hq1 HK
 go_wp2_with fail
 refine(HC.out _ hq2).mono ?_
 rintro e w3⟨v',rfl,hq,hs⟩
 have hq3:=Q.trans hq2 hq
 clear hq hq2 HC
 go_wp2
 go_ret2
 exact⟨_,rfl,hq3,hs⟩
end
section
open Go.RowKit Kp
structure Fr where
 up:Bool
 coord:Int
 dir:Int
 speed:Rat
 start:Rat
def frC(f:Fr):List Value:=[.bool f.up,.int .i64 f.coord,.int .i64 f.dir,.string ⟨(zh f.speed).toArray⟩,.string ⟨(zh f.start).toArray⟩]
def zgN(s n:Sd):Nat:=if s.x<n.x then 0 else if s.y<n.y then 1 else if n.x<s.x then 2 else 3
def upF:Nat→Bool
 | 0=>false
 | 1=>true
 | 2=>false
 | _=>true
def ztc:Nat→Int
 | 0=>1
 | 1=>-1
 | 2=>-1
 | _=>1
def zjv(s n:Sd):Fr:=⟨upF (zgN s n),if upF (zgN s n)then s.x else s.y,ztc (zgN s n),if s.gable then 0 else Rat.divInt s.run s.rise,(s.plate:Rat)⟩
def znV(r:List Sd):List Fr:=(List.range r.length).map fun i=>zjv (zcG r i) (zcG r ((i+1) % r.length))
def zb6(R:List (List Sd)):List Fr:=R.flatMap znV
structure FrOk (f:Fr):Prop where
 c0:0≤f.coord
 c1:f.coord≤65536
 d:f.dir=1∨f.dir = -1
 s:Bd 5 f.speed
 s0:0≤f.speed.num
 p:Bd 5 f.start
theorem zr0(n:Nat):ztc n=1∨ztc n = -1:=by
 unfold ztc
 split
 ·exact .inl rfl
 ·exact .inr rfl
 ·exact .inr rfl
 ·exact .inl rfl
theorem zqK{s n:Sd}(h:Rgd s):FrOk (zjv s n):=by
 have hx:=h.x0;have hx1:=h.x1;have hy:=h.y0;have hy1:=h.y1;have hp:=h.p0;have hp1:=h.p1
 refine⟨?_,?_,zr0 _,?_,?_,?_⟩
 ·show 0≤(if upF (zgN s n)then s.x else s.y)
  split <;> omega
 ·show (if upF (zgN s n)then s.x else s.y)≤65536
  split <;> omega
 ·show Bd 5 (if s.gable then 0 else Rat.divInt s.run s.rise)
  split
  ·exact⟨Nat.pow_pos (by decide),Nat.one_lt_pow (by omega) (by decide)⟩
  ·next hg =>
   have h1:=h.n (by simpa using hg)
   obtain⟨k,hk⟩:=Int.eq_ofNat_of_zero_le (show 0≤s.rise by omega)
   rw[hk]
   exact zdf (by omega) (by omega) (by omega)
 ·show 0≤(if s.gable then(0:Rat)else Rat.divInt s.run s.rise).num
  split
  ·decide
  ·next hg =>
   have h1:=h.n (by simpa using hg)
   obtain⟨k,hk⟩:=Int.eq_ofNat_of_zero_le (show 0≤s.rise by omega)
   rw[hk]
   exact Int.le_of_lt (zdI (by omega) (by omega))
 ·show Bd 5 (s.plate:Rat)
  exact ztS (by omega) (by decide)
theorem znU{r:List Sd}{i:Nat}(h:i<r.length):zcG r i∈r:=by
 unfold zcG
 rw[List.getD_eq_getElem?_getD,List.getElem?_eq_getElem h]
 exact List.getElem_mem h
theorem zpm{R:List (List Sd)}(h:∀ s∈R.flatten,Rgd s):∀ f∈zb6 R,FrOk f:=by
 intro f hf
 unfold zb6 at hf
 obtain⟨r,hr,hf⟩:=List.mem_flatMap.1 hf
 unfold znV at hf
 obtain⟨i,hi,rfl⟩:=List.mem_map.1 hf
 exact zqK (h _ (List.mem_flatten.2 ⟨r,hr,znU (List.mem_range.1 hi)⟩))
end
section
open Go.RowKit Go.Shelf Kp
attribute [local go_sem] Oper.semAt_some
theorem zls(s n:Sd)(w:World):CR 216 #[.agg (sdC s).toArray,.agg (sdC n).toArray] w (.int .i64 (zgN s n:Nat)):=by
 obtain⟨x1,y1,r1,n1,g1,p1,q1⟩:=s
 obtain⟨x2,y2,r2,n2,g2,p2,q2⟩:=n
 unfold zgN sdC
 simp only
 by_cases h1:x1<x2
 ·rw[if_pos h1]
  go_enter Tryz.func216,Tryz.ntmps216
  go_wp2
  go_ret
  exact⟨rfl,bt⟩
 ·rw[if_neg h1]
  by_cases h2:y1<y2
  ·rw[if_pos h2]
   go_enter Tryz.func216,Tryz.ntmps216
   go_wp2
   go_ret
   exact⟨rfl,bt⟩
  ·rw[if_neg h2]
   by_cases h3:x2<x1
   ·rw[if_pos h3]
    go_enter Tryz.func216,Tryz.ntmps216
    go_wp2
    go_ret
    exact⟨rfl,bt⟩
   ·rw[if_neg h3]
    go_enter Tryz.func216,Tryz.ntmps216
    go_wp2
    go_ret
    exact⟨rfl,bt⟩
theorem zhR(S:List UInt8)(w:World):CR 256 #[.string ⟨S.toArray⟩] w (.int .i64 ((zq S).length:Nat)):=by
 have HT:=LH (fun w=>zK S w)
 generalize zq S=U at *
 go_enter Tryz.func256,Tryz.ntmps256
 go_wp2_with fail
 refine(HT.out _).mono ?_
 rintro e w2⟨rfl,rfl⟩
 go_wp2
 go_ret
 exact⟨rfl,Q.refl _⟩
end
section
open Go.RowKit Go.Shelf Kp
attribute [local go_sem] Oper.semAt_some
theorem zr6{q:Rat}{n:Nat}(h:Bd n q):((zq (Lib.itoa (q.den:Int))).length:Int)≤n:=by
 have h1:(zq (Lib.itoa (q.den:Int))).length≤n:=by
  rw[zav]
  rcases Nat.eq_zero_or_pos n with rfl | hn
  ·exact absurd h.2 (by have:=q.den_pos;simp;omega)
  ·exact(zl _ n hn).2 (by rw[Int.natAbs_natCast];exact h.2)
 omega
theorem zhw(n:Int):Rat.divInt n ((1:Nat):Int)=(n:Rat):=by
 rw[Rat.divInt_eq_div,Rat.intCast_natCast,show ((1:Nat):Rat)=1 from rfl];grind
theorem zhQ(q:Rat)(h:Bd 36 q)(w:World)(hE:Env w) :
  CR 218 #[.string ⟨(zh q).toArray⟩] w (.int .i64 0):=by
 have HC:=LH (fun w hw=>zN q (h.zaj (by decide)) w hw)
 have HP:=LH (fun w hw=>zbz q (h.zaj (by decide)) w hw)
 have l1:=(znK h).1
 have l2:=zr6 h
 clear h
 generalize zh q=S at *
 have HN:=LH (fun w=>zhR (Lib.itoa q.num) w)
 have HD:=LH (fun w=>zhR (Lib.itoa (q.den:Int)) w)
 generalize zq (Lib.itoa q.num)=U at *
 generalize zq (Lib.itoa (q.den:Int))=V at *
 generalize Lib.itoa q.num=N at *
 generalize Lib.itoa (q.den:Int)=D at *
 have hm:¬ (36:Int)<max (U.length:Int) (V.length:Int):=by omega
 go_enter Tryz.func218,Tryz.ntmps218
 have hQ0:=Q.refl w
 go_wp2_with fail
 refine cx (HC.out _ (hE.ofQ bt)) fun w1 hq1=>?_
 have hs1:Q w w1:=Q.trans bt hq1
 have hQ1:Q w w1:=Q.trans hQ0 hs1
 go_wp2_with fail
 refine cx (HP.out _ (hE.ofQ bt)) fun w2 hq2=>?_
 have hs2:Q w1 w2:=Q.trans bt hq2
 have hQ2:Q w w2:=Q.trans hQ1 hs2
 go_wp2_with fail
 refine cx (HN.out _) fun w3 hq3=>?_
 have hs3:Q w2 w3:=Q.trans bt hq3
 have hQ3:Q w w3:=Q.trans hQ2 hs3
 go_wp2_with fail
 refine cx (HD.out _) fun w4 hq4=>?_
 have hs4:Q w3 w4:=Q.trans bt hq4
 have hQ4:Q w w4:=Q.trans hQ3 hs4
 go_wp2
 go_ret
 exact⟨rfl,bt⟩
theorem zju(n:Int)(hn:n.natAbs<100000000000000000)(w:World)(hE:Env w) :
  CR 152 #[.int .i64 n] w (.string ⟨(zh (n:Rat)).toArray⟩):=by
 have HO:=LH (fun w hw=>zbi n 1 (by decide) hn (by decide) w hw)
 rw[zhw]at HO
 generalize zh (n:Rat)=S at *
 go_enter Tryz.func152,Tryz.ntmps152
 have hQ0:=Q.refl w
 go_wp2_with fail
 refine cx (HO.out _ (hE.ofQ bt)) fun w1 hq1=>?_
 have hs1:Q w w1:=Q.trans bt hq1
 have hQ1:Q w w1:=Q.trans hQ0 hs1
 go_wp2
 go_ret
 exact⟨rfl,bt⟩
theorem zqG{m n:Nat}(x y:Rat)(hx:Bd m x)(hy:Bd n y)(h:m+n+1≤300)(w:World)(hE:Env w) :
  CR 153 #[.string ⟨(zh x).toArray⟩,.string ⟨(zh y).toArray⟩] w (.string ⟨(zh (x - y)).toArray⟩):=by
 have HO:=LH (fun w hw=>zbG x y hx hy h w hw)
 generalize zh (x - y)=S at *
 generalize zh x=X at *
 generalize zh y=Y at *
 go_enter Tryz.func153,Tryz.ntmps153
 have hQ0:=Q.refl w
 go_wp2_with fail
 refine cx (HO.out _ (hE.ofQ bt)) fun w1 hq1=>?_
 have hs1:Q w w1:=Q.trans bt hq1
 have hQ1:Q w w1:=Q.trans hQ0 hs1
 go_wp2
 go_ret
 exact⟨rfl,bt⟩
theorem zqH{m n:Nat}(x y:Rat)(hx:Bd m x)(hy:Bd n y)(h:m+n≤300)(w:World)(hE:Env w) :
  CR 154 #[.string ⟨(zh x).toArray⟩,.string ⟨(zh y).toArray⟩] w (.string ⟨(zh (x*y)).toArray⟩):=by
 have HO:=LH (fun w hw=>zbH x y hx hy h w hw)
 generalize zh (x*y)=S at *
 generalize zh x=X at *
 generalize zh y=Y at *
 go_enter Tryz.func154,Tryz.ntmps154
 have hQ0:=Q.refl w
 go_wp2_with fail
 refine cx (HO.out _ (hE.ofQ bt)) fun w1 hq1=>?_
 have hs1:Q w w1:=Q.trans bt hq1
 have hQ1:Q w w1:=Q.trans hQ0 hs1
 go_wp2
 go_ret
 exact⟨rfl,bt⟩
end
section
open Go.RowKit Go.Shelf Kp
open Go.Lib (decDigits)
attribute [local go_sem] Oper.semAt_some
def znn(q:Rat):Bool:=decide ((36:Int)<max ((zq (Lib.itoa q.num)).length:Int) ((Lib.itoa (q.den:Int)).length:Int))
theorem znm{n:Nat}{q:Rat}(h:Bd n q)(hn:n≤36):znn q=false:=by
 obtain⟨l1,l2⟩:=znK h
 unfold znn
 rw[decide_eq_false_iff_not]
 omega
theorem zlq(q:Rat)(h:zaj q=false)(w:World)(hE:Env w) :
  CR 158 #[.string ⟨(zh q).toArray⟩] w (.bool (znn q)):=by
 have HP:=LH (fun w hw=>zbz q h w hw)
 unfold znn
 clear h
 generalize zh q=S at *
 have hu:zq (Lib.itoa q.num)=zq (Lib.itoa q.num):=rfl
 generalize Lib.itoa (q.den:Int)=D at *
 have HT:=LH (fun w=>zK (Lib.itoa q.num) w)
 generalize zq (Lib.itoa q.num)=U at *
 generalize Lib.itoa q.num=N at *
 clear hu
 go_enter Tryz.func158,Tryz.ntmps158
 have hQ0:=Q.refl w
 go_wp2_with fail
 refine cx (HP.out _ (hE.ofQ bt)) fun w1 hq1=>?_
 have hs1:Q w w1:=Q.trans bt hq1
 have hQ1:Q w w1:=Q.trans hQ0 hs1
 go_wp2_with fail
 refine(HT.out _).mono ?_
 rintro e w2⟨rfl,rfl⟩
 go_wp2
 go_ret
 exact⟨rfl,hQ1⟩
theorem zjV(l:List Rat)(hl:∀ q∈l,zaj q=false)(hn:l.length≤100)(v:Value)(w:World)(hE:Env w)(hv:zcN w v (l.map zh)) :
  Calls Tryz.prog 93 #[v,.func (.func 158) #[] #[]] w fun e w'=>(∃ r:Int,e=.returned (.int .i64 r)∧decide (0≤r)=l.any znn)∧Q w w':=by
 obtain⟨b,o,cap,rfl,hb,hc⟩:=hv
 rw[List.length_map]at hc
 rw[List.length_map]
 have HL:=LH hl
 clear hl
 go_enter Tryz.func93,Tryz.ntmps93
 go_wp2
 go_loopw [8] (fun i wr=>∃ k:Nat,k≤l.length∧i=.int .i64 k∧Q w wr∧Hid ((l.take k).any znn=false)) (fun i _=>l.length - (intOf i).toNat)
 case atStart=>exact⟨0,by omega,rfl,Below.refl _ _,LH (by simp)⟩
 case round =>
  obtain⟨k,hk,rfl,hQ,HA⟩:=hrel
  by_cases hlt:k<l.length
  ·have hcell:=hc k hlt
   have hcell':wr.cell? ⟨b,o+k,none⟩=some (.string ⟨((l.map zh).getD k []).toArray⟩):=by rw[hQ.cell (p:=⟨b,o+k,none⟩) hb];exact hcell
   have hq:(l.map zh).getD k []=zh l[k]:=by rw[List.getD_eq_getElem?_getD,List.getElem?_map,List.getElem?_eq_getElem hlt];rfl
   rw[hq]at hcell'
   have HG:=LH (fun w hw=>zlq l[k] (HL.out _ (List.getElem_mem hlt)) w hw)
   have HT:Hid (znn l[k]=false→(l.take (k+1)).any znn=false):=LH (fun h=>by
    rw[List.take_succ_eq_append_getElem hlt,List.any_append,HA.out,List.any_cons,List.any_nil,h];rfl)
   have HY:Hid (znn l[k]=true→l.any znn=true):=LH (fun h=>List.any_eq_true.2 ⟨l[k],List.getElem_mem hlt,h⟩)
   have HK:Hid (decide (0≤(k:Int))=true):=LH (decide_eq_true (Int.natCast_nonneg k))
   clear hcell hc hq HL HA
   generalize znn l[k]=b at *
   generalize zh l[k]=S at *
   go_wp2_with fail
   refine cx (HG.out _ (hE.q hQ)) fun w2 hq2=>?_
   have hQ2:Q w w2:=Q.trans hQ hq2
   cases b with
   | true =>
    have hy:=HY.out rfl
    go_wp2
    go_ret
    exact⟨⟨_,rfl,by rw[hy];exact HK.out⟩,hQ2⟩
   | false =>
    have ht:=LH (HT.out rfl)
    clear HT HY HK
    go_wp2
    go_roundw
    case rel=>exact⟨k+1,by omega,by go_num,hQ2,ht⟩
    case measure=>simp[intOf];omega
  ·obtain rfl:k=l.length:=by omega
   have ha:=LH HA.out
   clear HA
   go_wp2
   go_ret
   exact⟨⟨_,rfl,by have:=ha.out;rw[List.take_length]at this;rw[this];rfl⟩,hQ⟩
theorem zhy(l:List Rat)(hl:∀ q∈l,zaj q=false)(hn:l.length≤100)(v:Value)(w:World)(hE:Env w)(hv:zcN w v (l.map zh)) :
  CR 48 #[v,.func (.func 158) #[] #[]] w (.bool (l.any znn)):=by
 have HI:=LH (zjV l hl hn v w hE hv)
 clear hl hv
 obtain⟨B,hB⟩:∃ B,l.any znn=B:=⟨_,rfl⟩
 rw[hB]at HI ⊢
 clear hB
 go_enter Tryz.func48,Tryz.ntmps48
 go_wp2_with fail
 refine HI.out.mono ?_
 rintro e w1⟨⟨r,rfl,hr⟩,hq1⟩
 subst hr
 clear HI
 go_wp2
 go_ret
 exact⟨rfl,hq1⟩
def lg3(p:P3):Bool:=[p.x,p.y,p.z].any znn
theorem zsn{n:Nat}{p:P3}(h:B3 n p)(hn:n≤36):lg3 p=false:=by
 unfold lg3
 simp only[List.any_cons,List.any_nil,Bool.or_false,znm h.1 hn,znm h.2.1 hn,znm h.2.2 hn]
theorem zhP{n:Nat}(p:P3)(h:B3 n p)(hn:n≤300)(w:World)(hE:Env w) :
  CR 92 #[V3 p] w (.bool (lg3 p)):=by
 have HC:=LH (fun v w hw hv=>zhy [p.x,p.y,p.z] (by
  intro q hq
  simp only[List.mem_cons,List.not_mem_nil,or_false]at hq
  rcases hq with rfl | rfl | rfl
  ·exact(h.1.mono hn).zaj (by decide)
  ·exact(h.2.1.mono hn).zaj (by decide)
  ·exact(h.2.2.mono hn).zaj (by decide)) (by simp) v w hw hv)
 clear h
 unfold V3
 have e:[p.x,p.y,p.z].any znn=lg3 p:=rfl
 rw[e]at HC
 clear e
 generalize lg3 p=B at *
 have HC':Hid (∀ b t w,Env w→Blk w b [.string ⟨(zh p.x).toArray⟩,.string ⟨(zh p.y).toArray⟩,.string ⟨(zh p.z).toArray⟩] t →
   CR 48 #[.slice (some ⟨b,0,none⟩) 3 3,.func (.func 158) #[] #[]] w (.bool B)) :=
  LH (fun b t w hw hb=>HC.out _ w hw (zcN.three hb))
 clear HC
 generalize zh p.x=X at *
 generalize zh p.y=Y at *
 generalize zh p.z=Z at *
 go_enter Tryz.func92,Tryz.ntmps92
 have hQ0:=Q.refl w
 go_wp2_with fail
 refine cx (HC'.out (w.heap.size+1) 23 _ (hE.ofQ bt) (Blk.new1 w _ [.string ⟨X.toArray⟩,.string ⟨Y.toArray⟩,.string ⟨Z.toArray⟩] 23)) fun w1 hq1=>?_
 have hs1:Q w w1:=Q.trans bt hq1
 have hQ1:Q w w1:=Q.trans hQ0 hs1
 go_wp2
 go_ret
 exact⟨rfl,bt⟩
abbrev VN(k F O W D:Int)(f t:P3):Value:=.agg #[.int .i64 k,.int .i64 F,.int .i64 O,.string ⟨(zh f.x).toArray⟩,.string ⟨(zh f.y).toArray⟩,.string ⟨(zh f.z).toArray⟩,.string ⟨(zh t.x).toArray⟩,.string ⟨(zh t.y).toArray⟩,.string ⟨(zh t.z).toArray⟩,.int .i64 W,.int .i64 D]
structure FOk (F O:Int):Prop where
 f0:0≤F
 o0:-1≤O
theorem znu{n:Nat}(k F O W D:Int)(hm:MOk k W D)(ho:FOk F O)(f t:P3)(hf:B3 n f)(ht:B3 n t)(hn:n≤300)(hlf:lg3 f=false)(hne:f≠t)(w:World)(hE:Env w) :
  CR 47 #[VN k F O W D f t] w (.int .i64 (if lg3 t=true then 4 else 0)):=by
 have HF:=LH (fun w hw=>zdk f hf (by omega) w hw)
 have HT:=LH (fun w hw=>zdk t ht (by omega) w hw)
 have hlff:=fun w hw=>zhP f hf hn w hw
 rw[hlf]at hlff
 have HLF:=LH hlff
 have HLT:=LH (fun w hw=>zhP t ht hn w hw)
 generalize lg3 t=B at *
 clear hlff hlf
 obtain⟨hf0,ho0⟩:=ho
 have hne':=zpS hne
 obtain⟨hk1,hk2,hw1,hw2,hd1,hd2⟩:=hm
 have HO1:=LH (fun w=>zfW k 1 12 hk1 hk2 w)
 have HO2:=LH (fun w=>zfW W 1 1000 hw1 hw2 w)
 have HO3:=LH (fun w=>zfW D 1 1000 hd1 hd2 w)
 unfold VN V3 at *
 clear hf ht hne
 generalize zh f.x=X at *
 generalize zh f.y=Y at *
 generalize zh f.z=Z at *
 generalize zh t.x=X' at *
 generalize zh t.y=Y' at *
 generalize zh t.z=Z' at *
 go_enter Tryz.func47,Tryz.ntmps47
 go_wp2_with fail
 have A:=Blk.new w [.int .i64 k,.int .i64 F,.int .i64 O,.string ⟨X.toArray⟩,.string ⟨Y.toArray⟩,.string ⟨Z.toArray⟩,.string ⟨X'.toArray⟩,.string ⟨Y'.toArray⟩,.string ⟨Z'.toArray⟩,.int .i64 W,.int .i64 D] 33
 refine(HO1.out _).mono ?_
 rintro e w1⟨rfl,rfl⟩
 go_wp2_with fail
 refine(HO2.out _).mono ?_
 rintro e w1⟨rfl,rfl⟩
 go_wp2_with fail
 refine(HO3.out _).mono ?_
 rintro e w1⟨rfl,rfl⟩
 clear HO1 HO2 HO3
 go_wp2
 have S:=Blk.new1 w (.cells #[.int .i64 k,.int .i64 F,.int .i64 O,.string ⟨X.toArray⟩,.string ⟨Y.toArray⟩,.string ⟨Z.toArray⟩,.string ⟨X'.toArray⟩,.string ⟨Y'.toArray⟩,.string ⟨Z'.toArray⟩,.int .i64 W,.int .i64 D] 33) [.string ⟨X.toArray⟩,.string ⟨Y.toArray⟩,.string ⟨Z.toArray⟩,.string ⟨X'.toArray⟩,.string ⟨Y'.toArray⟩,.string ⟨Z'.toArray⟩] 29
 replace A:=A.alloc (.cells #[.string ⟨X.toArray⟩,.string ⟨Y.toArray⟩,.string ⟨Z.toArray⟩,.string ⟨X'.toArray⟩,.string ⟨Y'.toArray⟩,.string ⟨Z'.toArray⟩] 29)
 go_loopw [34] (fun i wr=>(i=.int .i64 0∨i=.int .i64 1∨i=.int .i64 2)∧Q w wr∧Blk wr w.heap.size [.int .i64 k,.int .i64 F,.int .i64 O,.string ⟨X.toArray⟩,.string ⟨Y.toArray⟩,.string ⟨Z.toArray⟩,.string ⟨X'.toArray⟩,.string ⟨Y'.toArray⟩,.string ⟨Z'.toArray⟩,.int .i64 W,.int .i64 D] 33∧Blk wr (w.heap.size+1) [.string ⟨X.toArray⟩,.string ⟨Y.toArray⟩,.string ⟨Z.toArray⟩,.string ⟨X'.toArray⟩,.string ⟨Y'.toArray⟩,.string ⟨Z'.toArray⟩] 29) (fun i _=>2 - (intOf i).toNat)
 case atStart=>exact⟨.inl rfl,bt,A,S⟩
 case round =>
  clear A S
  obtain⟨hi,hQ,A,S⟩:=hrel
  rcases hi with rfl | rfl | rfl
  ·have s0:=S.cell 0
   have s1:=S.cell 1
   have s2:=S.cell 2
   simp only[zs4,zs5]at s0 s1 s2
   go_wp2_with fail
   refine cx (HF.out _ (hE.ofQ bt)) fun w2 hq2=>?_
   have hs2:Q wr w2:=Q.trans bt hq2
   have hQ2:Q w w2:=Q.trans hQ hs2
   clear s0 s1 s2
   go_wp2
   go_roundw
   case rel=>exact⟨.inr (.inl rfl),hQ2,A.keep hs2 A.lt,S.keep hs2 S.lt⟩
   case measure=>simp[intOf]
  ·have s0:=S.cell 3
   have s1:=S.cell 4
   have s2:=S.cell 5
   simp only[zs4,zs5]at s0 s1 s2
   go_wp2_with fail
   refine cx (HT.out _ (hE.ofQ bt)) fun w2 hq2=>?_
   have hs2:Q wr w2:=Q.trans bt hq2
   have hQ2:Q w w2:=Q.trans hQ hs2
   clear s0 s1 s2
   go_wp2
   go_roundw
   case rel=>exact⟨.inr (.inr rfl),hQ2,A.keep hs2 A.lt,S.keep hs2 S.lt⟩
   case measure=>simp[intOf]
  ·clear S
   have a3:=A.cell 3
   have a4:=A.cell 4
   have a5:=A.cell 5
   have a6:=A.cell 6
   have a7:=A.cell 7
   have a8:=A.cell 8
   simp only[zs4,zs5]at a3 a4 a5 a6 a7 a8
   go_wp2_with fail
   refine cx (HLF.out _ (hE.ofQ bt)) fun w2 hq2=>?_
   have hs2:Q wr w2:=Q.trans bt hq2
   have hQ2:Q w w2:=Q.trans hQ hs2
   replace A:=A.keep hs2 A.lt
   replace a3:=A.cell 3
   replace a4:=A.cell 4
   replace a5:=A.cell 5
   replace a6:=A.cell 6
   replace a7:=A.cell 7
   replace a8:=A.cell 8
   simp only[zs4,zs5]at a3 a4 a5 a6 a7 a8
   go_wp2_with fail
   refine cx (HLT.out _ (hE.ofQ bt)) fun w3 hq3=>?_
   have hs3:Q w2 w3:=Q.trans bt hq3
   have hQ3:Q w w3:=Q.trans hQ2 hs3
   replace A:=A.keep hs3 A.lt
   replace a3:=A.cell 3
   replace a4:=A.cell 4
   replace a5:=A.cell 5
   replace a6:=A.cell 6
   replace a7:=A.cell 7
   replace a8:=A.cell 8
   simp only[zs4,zs5]at a3 a4 a5 a6 a7 a8
   cases B with
   | true =>
    go_wp2
    go_ret
    exact⟨rfl,hQ3⟩
   | false =>
    go_wp2
    all_goals first
     | (exfalso;subst_vars;simp at hne';done)
     | (go_ret;exact⟨rfl,hQ3⟩)
end
end Go.Proofs.YtagkadlaeeoblaaGreatDoor
