/-
  Walks of package plan, at any plan: Check, Sides.; hiprafter.Check at any member whose coordinates are short strings; its walk.; Fronts of the sides of a plan, rafters at an eaves, birdsmouths. Mathematics.; Walks of package front.; Walks of package front: numbers, sums, products; distances.; Members of any numbers: their check, their direction.
-/
import Derived.Test.YthdpnkkddhcacaaGreatDoorBKPT
import Derived.Test.YthdpnkkddhcacaaGreatDoorBK10
import Derived.Test.YthdpnkkddhcacaaGreatDoorBK13
set_option maxRecDepth 100000
set_option maxHeartbeats 4000000
namespace Go.Proofs.YthdpnkkddhcacaaGreatDoor
section
open Go.RowKit Go.Shelf Kp
attribute [local go_sem] Oper.semAt_some
def zlD(R:List (List Sd))(k:Nat):Nat:=((R.take k).map List.length).sum
theorem zmU{R:List (List Sd)}{k:Nat}(h:k<R.length):zlD R (k+1)=zlD R k+(ringAt R k).length:=by
 unfold zlD
 rw[List.take_succ_eq_append_getElem h,List.map_append,List.sum_append,zaK h]
 simp
theorem zoH(R:List (List Sd)):zlD R R.length=zaz R:=by unfold zlD zaz;rw[List.take_length]
theorem zrh(R:List (List Sd))(k:Nat):zlD R k≤zaz R:=by
 have:=congrArg (fun l:List (List Sd)=>(l.map List.length).sum) (List.take_append_drop k R)
 simp only[List.map_append,List.sum_append]at this
 unfold zlD zaz
 omega
def zth(u s c p j:Bool):Int:=if u then 2 else if s then 14 else if c then 15 else if !p || !j then 14 else 0
theorem zsJ{R:List (List Sd)}(hl:∀ k,k<R.length→0<(ringAt R k).length):¬ (R.any fun r=>decide (r.length=0))=true:=by
 intro h
 obtain⟨r,hr,h⟩:=List.any_eq_true.1 h
 obtain⟨k,hk,rfl⟩:=List.mem_iff_getElem.1 hr
 have:=hl k hk
 rw[zaK hk]at this
 rw[decide_eq_true_eq]at h
 omega
theorem zpm{R:List (List Sd)}{k:Nat}(hk:k<R.length)(h:(ringAt R k).length=0):zcZ R=5:=by
 unfold zcZ
 rw[if_pos]
 rw[zaK hk]at h
 exact List.any_eq_true.2 ⟨_,List.getElem_mem hk,by rw[decide_eq_true_eq];exact h⟩
theorem zpo{R:List (List Sd)}(h:zaz R=0):zcZ R=5:=by
 unfold zcZ
 split
 ·rfl
 ·rfl
theorem zpp{R:List (List Sd)}(hl:∀ k,k<R.length→0<(ringAt R k).length)(h:24<zaz R):zcZ R=4:=by
 unfold zcZ
 rw[if_neg (zsJ hl),if_neg (by omega),if_pos h]
theorem zpn{R:List (List Sd)}(hl:∀ k,k<R.length→0<(ringAt R k).length)(h0:0<zaz R)(h:zaz R≤24) :
  zcZ R=zth (R.flatten.any fun s=>!z8 s) (R.any fun r=>!zao r) (zc2 R) (zbL R) (zcU R):=by
 unfold zcZ zth
 rw[if_neg (zsJ hl),if_neg (by omega),if_neg (by omega)]
theorem zrN{R:List (List Sd)}(hl:∀ r∈R,0<r.length):R.length≤zaz R:=by
 unfold zaz
 induction R with
 | nil=>simp
 | cons r R ih =>
  have h1:=hl r (by simp)
  have h2:=ih (fun s hs=>hl s (by simp[hs]))
  simp only[List.map_cons,List.sum_cons,List.length_cons]
  omega
theorem zqv{R:List (List Sd)}{r:List Sd}(h:r∈R):r.length≤zaz R:=by
 unfold zaz
 induction R with
 | nil=>cases h
 | cons s R ih =>
  simp only[List.map_cons,List.sum_cons]
  rcases List.mem_cons.1 h with rfl | h
  ·omega
  ·have:=ih h
   omega
theorem zhn(R:List (List Sd))(hn:R.length≤1000)(hcn:zaz R≤1000)(v:Value)(w:World)(hv:zgb w v R) :
  CR 58 #[.agg #[v]] w (.int .i64 (zcZ R)):=by
 have HV:=LH hv
 have HC0:Hid (∀ k,k<R.length→∃ a cap b o a2 c2,v=.slice a R.length cap∧a=some ⟨b,o,none⟩∧w.cell? ⟨b,o+k,none⟩=some (.slice a2 (ringAt R k).length c2)∧b<w.heap.size):=LH (fun k hk=>by
  obtain⟨a,cap,rfl,hc⟩:=hv
  obtain⟨b,o,vi,rfl,hb,hcell,hrs⟩:=hc k hk
  obtain⟨a2,c2,rfl,-⟩:=hrs
  rw[zaK hk]
  exact⟨_,_,_,_,_,_,rfl,rfl,hcell,hb⟩)
 have H5:Hid (∀ k,k<R.length→(ringAt R k).length=0→zcZ R=5):=LH (fun k hk h=>zpm hk h)
 have H0:Hid (zaz R=0→zcZ R=5):=LH zpo
 have H4:Hid ((∀ k,k<R.length→0<(ringAt R k).length)→24<zaz R→zcZ R=4):=LH zpp
 have HE:Hid ((∀ k,k<R.length→0<(ringAt R k).length)→0<zaz R→zaz R≤24→zcZ R=zth (R.flatten.any fun s=>!z8 s) (R.any fun r=>!zao r) (zc2 R) (zbL R) (zcU R)):=LH zpn
 have HS1:Hid (∀ k,k<R.length→zlD R (k+1)=zlD R k+(ringAt R k).length):=LH (fun k hk=>zmU hk)
 have HSl:Hid (∀ k,zlD R k≤1000):=LH (fun k=>Nat.le_trans (zrh R k) hcn)
 have HSe:=LH (zoH R)
 have HS0:Hid (zlD R 0=0):=LH rfl
 generalize zcZ R=E at *
 obtain⟨a0,cap0,rfl,-⟩:=id hv
 have hRz:(R.length:Int)≤1000:=by omega
 have B:=Blk.new w [.slice a0 R.length cap0] 28
 have hq1:Q w (w.alloc (.cells [Value.slice a0 R.length cap0].toArray 28)):=(Below.refl _ w).alloc (Nat.le_refl _) _
 have c0:=B.cell 0
 simp only[List.getElem?_cons_zero]at c0
 obtain⟨W0,hW0⟩:∃ W0,w.alloc (.cells #[Value.slice a0 R.length cap0] 28)=W0:=⟨_,rfl⟩
 have hW0':w.alloc (.cells [Value.slice a0 R.length cap0].toArray 28)=W0:=hW0
 rw[hW0']at B hq1 c0
 clear hW0' hv hn
 go_enter Tryz.func58,Tryz.ntmps58
 go_wp2
 clear hW0
 go_loop [3,9] (fun c i=>∃ k:Nat,k≤R.length∧i=.int .i64 k∧c=.int .i64 (zlD R k:Nat)∧Hid (∀ j,j<k→0<(ringAt R j).length)) (fun _ i=>R.length - (intOf i).toNat)
 case atStart=>exact⟨0,by omega,rfl,by rw[HS0.out];rfl,LH (fun j hj=>absurd hj (Nat.not_lt_zero _))⟩
 case round =>
  obtain⟨k,hk,rfl,rfl,HA⟩:=hrel
  by_cases hlt:k<R.length
  ·obtain⟨a',cap',b,o,a2,c2,he,ha,hcell,hbl⟩:=HC0.out k hlt
   injection he with he1 he2 he3
   subst he1 he3
   subst ha
   have hcell:=za hq1 hcell
   have hs:=HS1.out k hlt
   have hp1:=HSl.out (k+1)
   have H5k:=LH (H5.out k hlt)
   have HAk:Hid (0<(ringAt R k).length→∀ j,j<k+1→0<(ringAt R j).length):=LH (fun h j hj=>by
    rcases Nat.lt_or_ge j k with h1 | h1
    ·exact HA.out j h1
    ·obtain rfl:j=k:=by omega
     exact h)
   have HSk:=LH hs
   have w1i:=Go.IntWalk.i64_in ((zlD R k:Int)+((ringAt R k).length:Int)) (by omega)
   have hkz:(k:Int)<R.length:=by omega
   have hk0:(0:Int)≤k:=by omega
   clear hs hp1 H5 H0 H4 HE
   generalize zlD R k=p at *
   generalize (ringAt R k).length=n at *
   rcases Nat.eq_zero_or_pos n with h0 | h0
   ·have h5:=H5k.out h0
    subst h5
    subst h0
    clear HAk HSk H5k w1i
    go_wp2
    go_ret
    exact⟨rfl,hq1⟩
   ·have HB:=LH (HAk.out h0)
    have hn0:¬ n=0:=by omega
    have hn1:((n:Int) == 0)=false:=by rw[beq_eq_false_iff_ne];omega
    clear HAk H5k
    go_wp2
    go_round
    case rel=>exact⟨k+1,by omega,by go_num,by rw[HSk.out];go_num,HB⟩
    case measure=>simp[intOf];omega
  ·obtain rfl:k=R.length:=by omega
   rw[HSe.out]
   have hA:=HA.out
   have hlen:∀ r∈R,0<r.length:=fun r hr=>by
    obtain⟨k,hk,rfl⟩:=List.mem_iff_getElem.1 hr
    rw[← zaK hk]
    exact hA k hk
   clear HC0 HS1 HSl HSe HS0 H5 hlt hk HA
   by_cases hz:zaz R=0
   ·have h5:=H0.out hz
    subst h5
    rw[hz]
    clear H0 H4 HE hA hlen hz hcn
    go_wp2
    go_ret
    exact⟨rfl,hq1⟩
   by_cases hm:24<zaz R
   ·have h4:=H4.out hA hm
    subst h4
    have hz1:((zaz R:Int) == 0)=false:=by rw[beq_eq_false_iff_ne];omega
    have hm1:decide ((24:Int)<(zaz R:Int))=true:=by rw[decide_eq_true_eq];omega
    clear H0 H4 HE hA hlen
    generalize zaz R=cf at *
    go_wp2
    go_ret
    exact⟨rfl,hq1⟩
   have HQ:=LH (HE.out hA (by omega) (by omega))
   have hz1:((zaz R:Int) == 0)=false:=by rw[beq_eq_false_iff_ne];omega
   have hm1:decide ((24:Int)<(zaz R:Int))=false:=by rw[decide_eq_false_iff_not];omega
   have hfl:=count_flatten R
   have hR:=zrN hlen
   have hR0:0<R.length:=by
    rcases Nat.eq_zero_or_pos R.length with h | h
    ·rw[List.length_eq_zero_iff.1 h]at hz
     exact absurd rfl hz
    ·exact h
   have hln:∀ r∈R,0<r.length∧r.length≤1000:=fun r hr=>⟨hlen r hr,Nat.le_trans (zqv hr) hcn⟩
   have HC:Hid (∀ W,Q w W→Calls Tryz.prog 109 #[.slice a0 R.length cap0] W fun e w'=>∃ v',e=.returned v'∧Q W w'∧zcu 7 sdC w' v' R.flatten):=LH (fun W hq=>zhO R hlen (by omega) (by omega) (by omega) _ W (HV.out.keep hq))
   have HS:Hid (∀ v' W,zcu 7 sdC W v' R.flatten→CR 108 #[v',.func (.func 110) #[] #[]] W (.bool (R.flatten.any fun s=>!z8 s))):=LH (fun v' W hs=>by
    obtain⟨a,cap,rfl,hx⟩:=id hs
    obtain⟨-,hrow,hba⟩:=zcu.at hs
    exact zkc R.flatten (by omega) a cap W hrow (fun k hk=>hba k hk (by omega)))
   have hok:(R.flatten.any fun s=>!z8 s)=false→∀ r∈R,∀ i,i<r.length→ArnOk (arn r i):=fun h r hr i hi=>zsx (fun s hs=>zsH (by
    have:=List.any_eq_false.1 h s (List.mem_flatten.2 ⟨r,hr,hs⟩)
    simpa using this)) i hi
   have HR:Hid ((R.flatten.any fun s=>!z8 s)=false→∀ W,Q w W→CR 112 #[.slice a0 R.length cap0,.func (.func 113) #[] #[]] W (.bool (R.any fun r=>!zao r))):=LH (fun h W hq=>zke R (by omega) hln (hok h) _ W (HV.out.keep hq))
   have HX:Hid (∀ W,Q w W→CR 115 #[.slice a0 R.length cap0] W (.bool (zc2 R))):=LH (fun W hq=>callsIn_wide.1 (znT R (by omega) hln hcn _ W (HV.out.keep hq) hR0))
   have HP:Hid ((R.flatten.any fun s=>!z8 s)=false→∀ W,Q w W→CR 116 #[.slice a0 R.length cap0] W (.bool (zbL R))):=LH (fun h W hq=>zns R (by omega) hln (hok h) _ W (HV.out.keep hq))
   have HJ:Hid ((R.flatten.any fun s=>!z8 s)=false→∀ W,Q w W→CR 117 #[.slice a0 R.length cap0] W (.bool (zcU R))):=LH (fun h W hq=>callsIn_wide.1 (zpG R (by omega) hln (hok h) _ W (HV.out.keep hq) hR0))
   clear H0 H4 HE hA hlen HV hfl hln hok hz hm hR hcn
   generalize (R.flatten.any fun s=>!z8 s)=ru at *
   generalize (R.any fun r=>!zao r)=rs at *
   generalize zc2 R=rc at *
   generalize zbL R=rp at *
   generalize zcU R=rj at *
   generalize zaz R=cf at *
   generalize R.flatten=F at *
   generalize R.length=n at *
   go_wp2_with fail
   refine(HC.out _ hq1).mono ?_
   rintro e w2⟨v',rfl,hq,hs⟩
   replace B:=B.keep hq B.lt
   replace c0:=B.cell 0
   simp only[List.getElem?_cons_zero]at c0
   have hq2:=Q.trans hq1 hq
   clear hq hq1 HC
   go_wp2_with fail
   refine cx (HS.out _ _ hs) fun w3 hq=>?_
   replace B:=B.keep hq B.lt
   replace c0:=B.cell 0
   simp only[List.getElem?_cons_zero]at c0
   have hq3:=Q.trans hq2 hq
   clear hq hq2 hs HS
   cases ru
   case true =>
    obtain rfl:E=2:=HQ.out
    clear HR HX HP HJ HQ
    go_wp2
    go_ret
    exact⟨rfl,hq3⟩
   have HR1:=LH (HR.out rfl)
   have HP1:=LH (HP.out rfl)
   have HJ1:=LH (HJ.out rfl)
   clear HR HP HJ
   go_wp2_with fail
   refine cx (HR1.out _ hq3) fun w4 hq=>?_
   replace B:=B.keep hq B.lt
   replace c0:=B.cell 0
   simp only[List.getElem?_cons_zero]at c0
   have hq4:=Q.trans hq3 hq
   clear hq hq3 HR1
   cases rs
   case true =>
    obtain rfl:E=14:=HQ.out
    clear HX HP1 HJ1 HQ
    go_wp2
    go_ret
    exact⟨rfl,hq4⟩
   go_wp2_with fail
   refine cx (HX.out _ hq4) fun w5 hq=>?_
   replace B:=B.keep hq B.lt
   replace c0:=B.cell 0
   simp only[List.getElem?_cons_zero]at c0
   have hq5:=Q.trans hq4 hq
   clear hq hq4 HX
   cases rc
   case true =>
    obtain rfl:E=15:=HQ.out
    clear HP1 HJ1 HQ
    go_wp2
    go_ret
    exact⟨rfl,hq5⟩
   go_wp2_with fail
   refine cx (HP1.out _ hq5) fun w6 hq=>?_
   replace B:=B.keep hq B.lt
   replace c0:=B.cell 0
   simp only[List.getElem?_cons_zero]at c0
   have hq6:=Q.trans hq5 hq
   clear hq hq5 HP1
   cases rp
   case false =>
    obtain rfl:E=14:=HQ.out
    clear HJ1 HQ
    go_wp2
    go_ret
    exact⟨rfl,hq6⟩
   go_wp2_with fail
   refine cx (HJ1.out _ hq6) fun w7 hq=>?_
   have hq7:=Q.trans hq6 hq
   cases rj
   case false =>
    obtain rfl:E=14:=HQ.out
    clear HQ
    go_wp2
    go_ret
    exact⟨rfl,hq7⟩
   obtain rfl:E=0:=HQ.out
   clear HQ
   go_wp2
   go_ret
   exact⟨rfl,hq7⟩
theorem zkr(R:List (List Sd))(h:zcZ R=0)(hn:R.length≤1000)(v:Value)(w:World)(hv:zgb w v R) :
  Calls Tryz.prog 59 #[.agg #[v]] w fun e w'=>∃ v',e=.returned (.tuple #[v',.int .i64 0])∧Q w w'∧zcu 7 sdC w' v' R.flatten:=by
 have ok:=ziv h
 have hfl:=count_flatten R
 have hle:=ok.le
 have hp:=ok.pos
 have HK:Hid (∀ W,Q w W→CR 58 #[.agg #[v]] W (.int .i64 0)):=LH (fun W hq=>by
  have:=zhn R hn (by omega) v W (hv.keep hq)
  rw[h]at this
  exact this)
 have HC:Hid (∀ W,Q w W→Calls Tryz.prog 109 #[v] W fun e w'=>∃ v',e=.returned v'∧Q W w'∧zcu 7 sdC w' v' R.flatten):=LH (fun W hq=>zhO R (fun r hr=>by have:=ok.four r hr;omega) (by omega) (by omega) hn _ W (hv.keep hq))
 obtain⟨a0,cap0,rfl,-⟩:=hv
 clear ok hfl hle hp h hn
 have B:=Blk.new w [.slice a0 R.length cap0] 28
 have hq1:Q w (w.alloc (.cells [Value.slice a0 R.length cap0].toArray 28)):=(Below.refl _ w).alloc (Nat.le_refl _) _
 have c0:=B.cell
 generalize R.length=n at *
 generalize R.flatten=F at *
 go_enter Tryz.func59,Tryz.ntmps59
 go_wp2_with fail
 refine cx (HK.out _ hq1) fun w2 hq=>?_
 replace B:=B.keep hq B.lt
 replace c0:=B.cell
 have hq2:=Q.trans hq1 hq
 clear hq hq1 HK
 go_wp2_with fail
 refine(HC.out _ hq2).mono ?_
 rintro e w3⟨v',rfl,hq,hs⟩
 have hq3:=Q.trans hq2 hq
 clear hq hq2 HC
 go_wp2
 go_ret2
 exact⟨_,rfl,hq3,hs⟩
end
section
open Go.RowKit Kp
structure Mb where
 kind:Int
 face:Int
 other:Int
 fx:Str
 fy:Str
 fz:Str
 tx:Str
 ty:Str
 tz:Str
 wid:Int
 dep:Int
def Mb.pf(m:Mb):P3:=⟨rval m.fx,rval m.fy,rval m.fz⟩
structure Fr where
 up:Bool
 coord:Int
 dir:Int
 speed:Rat
 start:Rat
def frC(f:Fr):List Value:=[.bool f.up,.int .i64 f.coord,.int .i64 f.dir,.string ⟨(ze f.speed).toArray⟩,.string ⟨(ze f.start).toArray⟩]
def zgX(s n:Sd):Nat:=if s.x<n.x then 0 else if s.y<n.y then 1 else if n.x<s.x then 2 else 3
def upF:Nat→Bool
 | 0=>false
 | 1=>true
 | 2=>false
 | _=>true
def zty:Nat→Int
 | 0=>1
 | 1=>-1
 | 2=>-1
 | _=>1
def zjG(s n:Sd):Fr:=⟨upF (zgX s n),if upF (zgX s n)then s.x else s.y,zty (zgX s n),if s.gable then 0 else Rat.divInt s.run s.rise,(s.plate:Rat)⟩
def zoi(r:List Sd):List Fr:=(List.range r.length).map fun i=>zjG (zcw r i) (zcw r ((i+1) % r.length))
def zbR(R:List (List Sd)):List Fr:=R.flatMap zoi
structure FrOk (f:Fr):Prop where
 c0:0≤f.coord
 c1:f.coord≤65536
 d:f.dir=1∨f.dir = -1
 s:Bd 5 f.speed
 s0:0≤f.speed.num
 p:Bd 5 f.start
theorem zsi(n:Nat):zty n=1∨zty n = -1:=by
 unfold zty
 split
 ·exact .inl rfl
 ·exact .inr rfl
 ·exact .inr rfl
 ·exact .inl rfl
theorem zq4{s n:Sd}(h:Rgd s):FrOk (zjG s n):=by
 have hx:=h.x0;have hx1:=h.x1;have hy:=h.y0;have hy1:=h.y1;have hp:=h.p0;have hp1:=h.p1
 refine⟨?_,?_,zsi _,?_,?_,?_⟩
 ·show 0≤(if upF (zgX s n)then s.x else s.y)
  split <;> omega
 ·show (if upF (zgX s n)then s.x else s.y)≤65536
  split <;> omega
 ·show Bd 5 (if s.gable then 0 else Rat.divInt s.run s.rise)
  split
  ·exact⟨Nat.pow_pos (by decide),Nat.one_lt_pow (by omega) (by decide)⟩
  ·next hg =>
   have h1:=h.n (by simpa using hg)
   obtain⟨k,hk⟩:=Int.eq_ofNat_of_zero_le (show 0≤s.rise by omega)
   rw[hk]
   exact zcQ (by omega) (by omega) (by omega)
 ·show 0≤(if s.gable then(0:Rat)else Rat.divInt s.run s.rise).num
  split
  ·decide
  ·next hg =>
   have h1:=h.n (by simpa using hg)
   obtain⟨k,hk⟩:=Int.eq_ofNat_of_zero_le (show 0≤s.rise by omega)
   rw[hk]
   exact Int.le_of_lt (zdG (by omega) (by omega))
 ·show Bd 5 (s.plate:Rat)
  exact zuu (by omega) (by decide)
theorem zoh{r:List Sd}{i:Nat}(h:i<r.length):zcw r i∈r:=by
 unfold zcw
 rw[List.getD_eq_getElem?_getD,List.getElem?_eq_getElem h]
 exact List.getElem_mem h
theorem zpK{R:List (List Sd)}(h:∀ s∈R.flatten,Rgd s):∀ f∈zbR R,FrOk f:=by
 intro f hf
 unfold zbR at hf
 obtain⟨r,hr,hf⟩:=List.mem_flatMap.1 hf
 unfold zoi at hf
 obtain⟨i,hi,rfl⟩:=List.mem_map.1 hf
 exact zq4 (h _ (List.mem_flatten.2 ⟨r,hr,zoh (List.mem_range.1 hi)⟩))
end
section
open Go.RowKit Go.Shelf Kp
attribute [local go_sem] Oper.semAt_some
theorem zlB(s n:Sd)(w:World):CR 197 #[.agg (sdC s).toArray,.agg (sdC n).toArray] w (.int .i64 (zgX s n:Nat)):=by
 obtain⟨x1,y1,r1,n1,g1,p1,q1⟩:=s
 obtain⟨x2,y2,r2,n2,g2,p2,q2⟩:=n
 unfold zgX sdC
 simp only
 by_cases h1:x1<x2
 ·rw[if_pos h1]
  go_enter Tryz.func197,Tryz.ntmps197
  go_wp2
  go_ret
  exact⟨rfl,bt⟩
 ·rw[if_neg h1]
  by_cases h2:y1<y2
  ·rw[if_pos h2]
   go_enter Tryz.func197,Tryz.ntmps197
   go_wp2
   go_ret
   exact⟨rfl,bt⟩
  ·rw[if_neg h2]
   by_cases h3:x2<x1
   ·rw[if_pos h3]
    go_enter Tryz.func197,Tryz.ntmps197
    go_wp2
    go_ret
    exact⟨rfl,bt⟩
   ·rw[if_neg h3]
    go_enter Tryz.func197,Tryz.ntmps197
    go_wp2
    go_ret
    exact⟨rfl,bt⟩
theorem zh3(S:List UInt8)(w:World):CR 251 #[.string ⟨S.toArray⟩] w (.int .i64 ((zo S).length:Nat)):=by
 have HT:=LH (fun w=>zO S w)
 generalize zo S=U at *
 go_enter Tryz.func251,Tryz.ntmps251
 go_wp2_with fail
 refine(HT.out _).mono ?_
 rintro e w2⟨rfl,rfl⟩
 go_wp2
 go_ret
 exact⟨rfl,Q.refl _⟩
theorem zst{q:Rat}{n:Nat}(h:Bd n q):((zo (Lib.itoa (q.den:Int))).length:Int)≤n:=by
 have h1:(zo (Lib.itoa (q.den:Int))).length≤n:=by
  rw[zal]
  rcases Nat.eq_zero_or_pos n with rfl | hn
  ·exact absurd h.2 (by have:=q.den_pos;simp;omega)
  ·exact(zl _ n hn).2 (by rw[Int.natAbs_natCast];exact h.2)
 omega
theorem zhE(n:Int):Rat.divInt n ((1:Nat):Int)=(n:Rat):=by
 rw[Rat.divInt_eq_div,Rat.intCast_natCast,show ((1:Nat):Rat)=1 from rfl];grind
theorem zh2(q:Rat)(h:Bd 36 q)(w:World)(hE:Env w) :
  CR 198 #[.string ⟨(ze q).toArray⟩] w (.int .i64 0):=by
 have HC:=LH (fun w hw=>zI q (h.zah (by decide)) w hw)
 have HP:=LH (fun w hw=>zbD q (h.zah (by decide)) w hw)
 have l1:=(zjP h).1
 have l2:=zst h
 clear h
 generalize ze q=S at *
 have HN:=LH (fun w=>zh3 (Lib.itoa q.num) w)
 have HD:=LH (fun w=>zh3 (Lib.itoa (q.den:Int)) w)
 generalize zo (Lib.itoa q.num)=U at *
 generalize zo (Lib.itoa (q.den:Int))=V at *
 generalize Lib.itoa q.num=N at *
 generalize Lib.itoa (q.den:Int)=D at *
 have hm:¬ (36:Int)<max (U.length:Int) (V.length:Int):=by omega
 go_enter Tryz.func198,Tryz.ntmps198
 have hQ0:=Q.refl w
 go_wp2_with fail
 refine cx (HC.out _ (hE.ofQ bt)) fun w1 hq1=>?_
 have hs1:Q w w1:=Q.trans bt hq1
 have hQ1:Q w w1:=Q.trans hQ0 hs1
 go_wp2_with fail
 refine cx (HP.out _ (hE.ofQ bt)) fun w2 hq2=>?_
 have hs2:Q w1 w2:=Q.trans bt hq2
 have hQ2:Q w w2:=Q.trans hQ1 hs2
 go_wp2_with fail
 refine cx (HN.out _) fun w3 hq3=>?_
 have hs3:Q w2 w3:=Q.trans bt hq3
 have hQ3:Q w w3:=Q.trans hQ2 hs3
 go_wp2_with fail
 refine cx (HD.out _) fun w4 hq4=>?_
 have hs4:Q w3 w4:=Q.trans bt hq4
 have hQ4:Q w w4:=Q.trans hQ3 hs4
 go_wp2
 go_ret
 exact⟨rfl,bt⟩
theorem zjF(n:Int)(hn:n.natAbs<100000000000000000)(w:World)(hE:Env w) :
  CR 121 #[.int .i64 n] w (.string ⟨(ze (n:Rat)).toArray⟩):=by
 have HO:=LH (fun w hw=>za3 n 1 (by decide) hn (by decide) w hw)
 rw[zhE]at HO
 generalize ze (n:Rat)=S at *
 go_enter Tryz.func121,Tryz.ntmps121
 have hQ0:=Q.refl w
 go_wp2_with fail
 refine cx (HO.out _ (hE.ofQ bt)) fun w1 hq1=>?_
 have hs1:Q w w1:=Q.trans bt hq1
 have hQ1:Q w w1:=Q.trans hQ0 hs1
 go_wp2
 go_ret
 exact⟨rfl,bt⟩
theorem zq0{m n:Nat}(x y:Rat)(hx:Bd m x)(hy:Bd n y)(h:m+n+1≤300)(w:World)(hE:Env w) :
  CR 122 #[.string ⟨(ze x).toArray⟩,.string ⟨(ze y).toArray⟩] w (.string ⟨(ze (x - y)).toArray⟩):=by
 have HO:=LH (fun w hw=>zbJ x y hx hy h w hw)
 generalize ze (x - y)=S at *
 generalize ze x=X at *
 generalize ze y=Y at *
 go_enter Tryz.func122,Tryz.ntmps122
 have hQ0:=Q.refl w
 go_wp2_with fail
 refine cx (HO.out _ (hE.ofQ bt)) fun w1 hq1=>?_
 have hs1:Q w w1:=Q.trans bt hq1
 have hQ1:Q w w1:=Q.trans hQ0 hs1
 go_wp2
 go_ret
 exact⟨rfl,bt⟩
theorem zq1{m n:Nat}(x y:Rat)(hx:Bd m x)(hy:Bd n y)(h:m+n≤300)(w:World)(hE:Env w) :
  CR 123 #[.string ⟨(ze x).toArray⟩,.string ⟨(ze y).toArray⟩] w (.string ⟨(ze (x*y)).toArray⟩):=by
 have HO:=LH (fun w hw=>zbk x y hx hy h w hw)
 generalize ze (x*y)=S at *
 generalize ze x=X at *
 generalize ze y=Y at *
 go_enter Tryz.func123,Tryz.ntmps123
 have hQ0:=Q.refl w
 go_wp2_with fail
 refine cx (HO.out _ (hE.ofQ bt)) fun w1 hq1=>?_
 have hs1:Q w w1:=Q.trans bt hq1
 have hQ1:Q w w1:=Q.trans hQ0 hs1
 go_wp2
 go_ret
 exact⟨rfl,bt⟩
def znB(q:Rat):Bool:=decide ((36:Int)<max ((zo (Lib.itoa q.num)).length:Int) ((Lib.itoa (q.den:Int)).length:Int))
theorem znA{n:Nat}{q:Rat}(h:Bd n q)(hn:n≤36):znB q=false:=by
 obtain⟨l1,l2⟩:=zjP h
 unfold znB
 rw[decide_eq_false_iff_not]
 omega
theorem zlA(q:Rat)(h:zah q=false)(w:World)(hE:Env w) :
  CR 248 #[.string ⟨(ze q).toArray⟩] w (.bool (znB q)):=by
 have HP:=LH (fun w hw=>zbD q h w hw)
 unfold znB
 clear h
 generalize ze q=S at *
 have hu:zo (Lib.itoa q.num)=zo (Lib.itoa q.num):=rfl
 generalize Lib.itoa (q.den:Int)=D at *
 have HT:=LH (fun w=>zO (Lib.itoa q.num) w)
 generalize zo (Lib.itoa q.num)=U at *
 generalize Lib.itoa q.num=N at *
 clear hu
 go_enter Tryz.func248,Tryz.ntmps248
 have hQ0:=Q.refl w
 go_wp2_with fail
 refine cx (HP.out _ (hE.ofQ bt)) fun w1 hq1=>?_
 have hs1:Q w w1:=Q.trans bt hq1
 have hQ1:Q w w1:=Q.trans hQ0 hs1
 go_wp2_with fail
 refine(HT.out _).mono ?_
 rintro e w2⟨rfl,rfl⟩
 go_wp2
 go_ret
 exact⟨rfl,hQ1⟩
theorem zj5(l:List Rat)(hl:∀ q∈l,zah q=false)(hn:l.length≤100)(v:Value)(w:World)(hE:Env w)(hv:zcR w v (l.map ze)) :
  Calls Tryz.prog 183 #[v,.func (.func 248) #[] #[]] w fun e w'=>(∃ r:Int,e=.returned (.int .i64 r)∧decide (0≤r)=l.any znB)∧Q w w':=by
 obtain⟨b,o,cap,rfl,hb,hc⟩:=hv
 rw[List.length_map]at hc
 rw[List.length_map]
 have HL:=LH hl
 clear hl
 go_enter Tryz.func183,Tryz.ntmps183
 go_wp2
 go_loopw [8] (fun i wr=>∃ k:Nat,k≤l.length∧i=.int .i64 k∧Q w wr∧Hid ((l.take k).any znB=false)) (fun i _=>l.length - (intOf i).toNat)
 case atStart=>exact⟨0,by omega,rfl,Below.refl _ _,LH (by simp)⟩
 case round =>
  obtain⟨k,hk,rfl,hQ,HA⟩:=hrel
  by_cases hlt:k<l.length
  ·have hcell:=hc k hlt
   have hcell':wr.cell? ⟨b,o+k,none⟩=some (.string ⟨((l.map ze).getD k []).toArray⟩):=by rw[hQ.cell (p:=⟨b,o+k,none⟩) hb];exact hcell
   have hq:(l.map ze).getD k []=ze l[k]:=by rw[List.getD_eq_getElem?_getD,List.getElem?_map,List.getElem?_eq_getElem hlt];rfl
   rw[hq]at hcell'
   have HG:=LH (fun w hw=>zlA l[k] (HL.out _ (List.getElem_mem hlt)) w hw)
   have HT:Hid (znB l[k]=false→(l.take (k+1)).any znB=false):=LH (fun h=>by
    rw[List.take_succ_eq_append_getElem hlt,List.any_append,HA.out,List.any_cons,List.any_nil,h];rfl)
   have HY:Hid (znB l[k]=true→l.any znB=true):=LH (fun h=>List.any_eq_true.2 ⟨l[k],List.getElem_mem hlt,h⟩)
   have HK:Hid (decide (0≤(k:Int))=true):=LH (decide_eq_true (Int.natCast_nonneg k))
   clear hcell hc hq HL HA
   generalize znB l[k]=b at *
   generalize ze l[k]=S at *
   go_wp2_with fail
   refine cx (HG.out _ (hE.q hQ)) fun w2 hq2=>?_
   have hQ2:Q w w2:=Q.trans hQ hq2
   cases b with
   | true =>
    have hy:=HY.out rfl
    go_wp2
    go_ret
    exact⟨⟨_,rfl,by rw[hy];exact HK.out⟩,hQ2⟩
   | false =>
    have ht:=LH (HT.out rfl)
    clear HT HY HK
    go_wp2
    go_roundw
    case rel=>exact⟨k+1,by omega,by go_num,hQ2,ht⟩
    case measure=>simp[intOf];omega
  ·obtain rfl:k=l.length:=by omega
   have ha:=LH HA.out
   clear HA
   go_wp2
   go_ret
   exact⟨⟨_,rfl,by have:=ha.out;rw[List.take_length]at this;rw[this];rfl⟩,hQ⟩
theorem zhG(l:List Rat)(hl:∀ q∈l,zah q=false)(hn:l.length≤100)(v:Value)(w:World)(hE:Env w)(hv:zcR w v (l.map ze)) :
  CR 106 #[v,.func (.func 248) #[] #[]] w (.bool (l.any znB)):=by
 have HI:=LH (zj5 l hl hn v w hE hv)
 clear hl hv
 obtain⟨B,hB⟩:∃ B,l.any znB=B:=⟨_,rfl⟩
 rw[hB]at HI ⊢
 clear hB
 go_enter Tryz.func106,Tryz.ntmps106
 go_wp2_with fail
 refine HI.out.mono ?_
 rintro e w1⟨⟨r,rfl,hr⟩,hq1⟩
 subst hr
 clear HI
 go_wp2
 go_ret
 exact⟨rfl,hq1⟩
def lg3(p:P3):Bool:=[p.x,p.y,p.z].any znB
theorem zsL{n:Nat}{p:P3}(h:B3 n p)(hn:n≤36):lg3 p=false:=by
 unfold lg3
 simp only[List.any_cons,List.any_nil,Bool.or_false,znA h.1 hn,znA h.2.1 hn,znA h.2.2 hn]
theorem zh1{n:Nat}(p:P3)(h:B3 n p)(hn:n≤300)(w:World)(hE:Env w) :
  CR 182 #[V3 p] w (.bool (lg3 p)):=by
 have HC:=LH (fun v w hw hv=>zhG [p.x,p.y,p.z] (by
  intro q hq
  simp only[List.mem_cons,List.not_mem_nil,or_false]at hq
  rcases hq with rfl | rfl | rfl
  ·exact(h.1.mono hn).zah (by decide)
  ·exact(h.2.1.mono hn).zah (by decide)
  ·exact(h.2.2.mono hn).zah (by decide)) (by simp) v w hw hv)
 clear h
 unfold V3
 have e:[p.x,p.y,p.z].any znB=lg3 p:=rfl
 rw[e]at HC
 clear e
 generalize lg3 p=B at *
 have HC':Hid (∀ b t w,Env w→Blk w b [.string ⟨(ze p.x).toArray⟩,.string ⟨(ze p.y).toArray⟩,.string ⟨(ze p.z).toArray⟩] t →
   CR 106 #[.slice (some ⟨b,0,none⟩) 3 3,.func (.func 248) #[] #[]] w (.bool B)) :=
  LH (fun b t w hw hb=>HC.out _ w hw (zcR.three hb))
 clear HC
 generalize ze p.x=X at *
 generalize ze p.y=Y at *
 generalize ze p.z=Z at *
 go_enter Tryz.func182,Tryz.ntmps182
 have hQ0:=Q.refl w
 go_wp2_with fail
 refine cx (HC'.out (w.heap.size+1) 29 _ (hE.ofQ bt) (Blk.new1 w _ [.string ⟨X.toArray⟩,.string ⟨Y.toArray⟩,.string ⟨Z.toArray⟩] 29)) fun w1 hq1=>?_
 have hs1:Q w w1:=Q.trans bt hq1
 have hQ1:Q w w1:=Q.trans hQ0 hs1
 go_wp2
 go_ret
 exact⟨rfl,bt⟩
abbrev VN(k F O W D:Int)(f t:P3):Value:=.agg #[.int .i64 k,.int .i64 F,.int .i64 O,.string ⟨(ze f.x).toArray⟩,.string ⟨(ze f.y).toArray⟩,.string ⟨(ze f.z).toArray⟩,.string ⟨(ze t.x).toArray⟩,.string ⟨(ze t.y).toArray⟩,.string ⟨(ze t.z).toArray⟩,.int .i64 W,.int .i64 D]
structure FOk (F O:Int):Prop where
 f0:0≤F
 o0:-1≤O
theorem znI{n:Nat}(k F O W D:Int)(hm:MOk k W D)(ho:FOk F O)(f t:P3)(hf:B3 n f)(ht:B3 n t)(hn:n≤300)(hlf:lg3 f=false)(hne:f≠t)(w:World)(hE:Env w) :
  CR 105 #[VN k F O W D f t] w (.int .i64 (if lg3 t=true then 4 else 0)):=by
 have HF:=LH (fun w hw=>zdj f hf (by omega) w hw)
 have HT:=LH (fun w hw=>zdj t ht (by omega) w hw)
 have hlff:=fun w hw=>zh1 f hf hn w hw
 rw[hlf]at hlff
 have HLF:=LH hlff
 have HLT:=LH (fun w hw=>zh1 t ht hn w hw)
 generalize lg3 t=B at *
 clear hlff hlf
 obtain⟨hf0,ho0⟩:=ho
 have hne':=zs7 hne
 obtain⟨hk1,hk2,hw1,hw2,hd1,hd2⟩:=hm
 have HO1:=LH (fun w=>zf4 k 1 12 hk1 hk2 w)
 have HO2:=LH (fun w=>zf4 W 1 1000 hw1 hw2 w)
 have HO3:=LH (fun w=>zf4 D 1 1000 hd1 hd2 w)
 unfold VN V3 at *
 clear hf ht hne
 generalize ze f.x=X at *
 generalize ze f.y=Y at *
 generalize ze f.z=Z at *
 generalize ze t.x=X' at *
 generalize ze t.y=Y' at *
 generalize ze t.z=Z' at *
 go_enter Tryz.func105,Tryz.ntmps105
 go_wp2_with fail
 have A:=Blk.new w [.int .i64 k,.int .i64 F,.int .i64 O,.string ⟨X.toArray⟩,.string ⟨Y.toArray⟩,.string ⟨Z.toArray⟩,.string ⟨X'.toArray⟩,.string ⟨Y'.toArray⟩,.string ⟨Z'.toArray⟩,.int .i64 W,.int .i64 D] 37
 refine(HO1.out _).mono ?_
 rintro e w1⟨rfl,rfl⟩
 go_wp2_with fail
 refine(HO2.out _).mono ?_
 rintro e w1⟨rfl,rfl⟩
 go_wp2_with fail
 refine(HO3.out _).mono ?_
 rintro e w1⟨rfl,rfl⟩
 clear HO1 HO2 HO3
 go_wp2
 have S:=Blk.new1 w (.cells #[.int .i64 k,.int .i64 F,.int .i64 O,.string ⟨X.toArray⟩,.string ⟨Y.toArray⟩,.string ⟨Z.toArray⟩,.string ⟨X'.toArray⟩,.string ⟨Y'.toArray⟩,.string ⟨Z'.toArray⟩,.int .i64 W,.int .i64 D] 37) [.string ⟨X.toArray⟩,.string ⟨Y.toArray⟩,.string ⟨Z.toArray⟩,.string ⟨X'.toArray⟩,.string ⟨Y'.toArray⟩,.string ⟨Z'.toArray⟩] 35
 replace A:=A.alloc (.cells #[.string ⟨X.toArray⟩,.string ⟨Y.toArray⟩,.string ⟨Z.toArray⟩,.string ⟨X'.toArray⟩,.string ⟨Y'.toArray⟩,.string ⟨Z'.toArray⟩] 35)
 go_loopw [34] (fun i wr=>(i=.int .i64 0∨i=.int .i64 1∨i=.int .i64 2)∧Q w wr∧Blk wr w.heap.size [.int .i64 k,.int .i64 F,.int .i64 O,.string ⟨X.toArray⟩,.string ⟨Y.toArray⟩,.string ⟨Z.toArray⟩,.string ⟨X'.toArray⟩,.string ⟨Y'.toArray⟩,.string ⟨Z'.toArray⟩,.int .i64 W,.int .i64 D] 37∧Blk wr (w.heap.size+1) [.string ⟨X.toArray⟩,.string ⟨Y.toArray⟩,.string ⟨Z.toArray⟩,.string ⟨X'.toArray⟩,.string ⟨Y'.toArray⟩,.string ⟨Z'.toArray⟩] 35) (fun i _=>2 - (intOf i).toNat)
 case atStart=>exact⟨.inl rfl,bt,A,S⟩
 case round =>
  clear A S
  obtain⟨hi,hQ,A,S⟩:=hrel
  rcases hi with rfl | rfl | rfl
  ·have s0:=S.cell 0
   have s1:=S.cell 1
   have s2:=S.cell 2
   simp only[zs4,zs5]at s0 s1 s2
   go_wp2_with fail
   refine cx (HF.out _ (hE.ofQ bt)) fun w2 hq2=>?_
   have hs2:Q wr w2:=Q.trans bt hq2
   have hQ2:Q w w2:=Q.trans hQ hs2
   clear s0 s1 s2
   go_wp2
   go_roundw
   case rel=>exact⟨.inr (.inl rfl),hQ2,A.keep hs2 A.lt,S.keep hs2 S.lt⟩
   case measure=>simp[intOf]
  ·have s0:=S.cell 3
   have s1:=S.cell 4
   have s2:=S.cell 5
   simp only[zs4,zs5]at s0 s1 s2
   go_wp2_with fail
   refine cx (HT.out _ (hE.ofQ bt)) fun w2 hq2=>?_
   have hs2:Q wr w2:=Q.trans bt hq2
   have hQ2:Q w w2:=Q.trans hQ hs2
   clear s0 s1 s2
   go_wp2
   go_roundw
   case rel=>exact⟨.inr (.inr rfl),hQ2,A.keep hs2 A.lt,S.keep hs2 S.lt⟩
   case measure=>simp[intOf]
  ·clear S
   have a3:=A.cell 3
   have a4:=A.cell 4
   have a5:=A.cell 5
   have a6:=A.cell 6
   have a7:=A.cell 7
   have a8:=A.cell 8
   simp only[zs4,zs5]at a3 a4 a5 a6 a7 a8
   go_wp2_with fail
   refine cx (HLF.out _ (hE.ofQ bt)) fun w2 hq2=>?_
   have hs2:Q wr w2:=Q.trans bt hq2
   have hQ2:Q w w2:=Q.trans hQ hs2
   replace A:=A.keep hs2 A.lt
   replace a3:=A.cell 3
   replace a4:=A.cell 4
   replace a5:=A.cell 5
   replace a6:=A.cell 6
   replace a7:=A.cell 7
   replace a8:=A.cell 8
   simp only[zs4,zs5]at a3 a4 a5 a6 a7 a8
   go_wp2_with fail
   refine cx (HLT.out _ (hE.ofQ bt)) fun w3 hq3=>?_
   have hs3:Q w2 w3:=Q.trans bt hq3
   have hQ3:Q w w3:=Q.trans hQ2 hs3
   replace A:=A.keep hs3 A.lt
   replace a3:=A.cell 3
   replace a4:=A.cell 4
   replace a5:=A.cell 5
   replace a6:=A.cell 6
   replace a7:=A.cell 7
   replace a8:=A.cell 8
   simp only[zs4,zs5]at a3 a4 a5 a6 a7 a8
   cases B with
   | true =>
    go_wp2
    go_ret
    exact⟨rfl,hQ3⟩
   | false =>
    go_wp2
    all_goals first
     | (exfalso;subst_vars;simp at hne';done)
     | (go_ret;exact⟨rfl,hQ3⟩)
end
end Go.Proofs.YthdpnkkddhcacaaGreatDoor
