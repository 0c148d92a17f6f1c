/-
  Walks of package plan, at any plan: Check, Sides.; hiprafter.Check at any member whose coordinates are short strings; its walk.; Fronts of the sides of a plan, rafters at an eaves, birdsmouths. Mathematics.; Walks of package front.; Walks of package front: numbers, sums, products; distances.; Adding two numbers of which the sum is too long.
-/
import Derived.Test.YtapnkgdnflofbaaGreatDoorCHPT
import Derived.Test.YtapnkgdnflofbaaGreatDoorCH13
import Derived.Test.YtapnkgdnflofbaaGreatDoorCH16
import Derived.Test.YtapnkgdnflofbaaGreatDoorCHSD
set_option maxRecDepth 100000
set_option maxHeartbeats 4000000
namespace Go.Proofs.YtapnkgdnflofbaaGreatDoor
section
open Go.RowKit Go.Shelf Kp
attribute [local go_sem] Oper.semAt_some
def zk0(R:List (List Sd))(k:Nat):Nat:=((R.take k).map List.length).sum
theorem zmk{R:List (List Sd)}{k:Nat}(h:k<R.length):zk0 R (k+1)=zk0 R k+(ringAt R k).length:=by
 unfold zk0
 rw[List.take_succ_eq_append_getElem h,List.map_append,List.sum_append,zaE h]
 simp
theorem zn3(R:List (List Sd)):zk0 R R.length=zaK R:=by unfold zk0 zaK;rw[List.take_length]
theorem zqO(R:List (List Sd))(k:Nat):zk0 R k≤zaK R:=by
 have:=congrArg (fun l:List (List Sd)=>(l.map List.length).sum) (List.take_append_drop k R)
 simp only[List.map_append,List.sum_append]at this
 unfold zk0 zaK
 omega
def zsB(u s c p j:Bool):Int:=if u then 2 else if s then 14 else if c then 15 else if !p || !j then 14 else 0
theorem zr9{R:List (List Sd)}(hl:∀ k,k<R.length→0<(ringAt R k).length):¬ (R.any fun r=>decide (r.length=0))=true:=by
 intro h
 obtain⟨r,hr,h⟩:=List.any_eq_true.1 h
 obtain⟨k,hk,rfl⟩:=List.mem_iff_getElem.1 hr
 have:=hl k hk
 rw[zaE hk]at this
 rw[decide_eq_true_eq]at h
 omega
theorem zoI{R:List (List Sd)}{k:Nat}(hk:k<R.length)(h:(ringAt R k).length=0):zdb R=5:=by
 unfold zdb
 rw[if_pos]
 rw[zaE hk]at h
 exact List.any_eq_true.2 ⟨_,List.getElem_mem hk,by rw[decide_eq_true_eq];exact h⟩
theorem zoK{R:List (List Sd)}(h:zaK R=0):zdb R=5:=by
 unfold zdb
 split
 ·rfl
 ·rfl
theorem zoL{R:List (List Sd)}(hl:∀ k,k<R.length→0<(ringAt R k).length)(h:24<zaK R):zdb R=4:=by
 unfold zdb
 rw[if_neg (zr9 hl),if_neg (by omega),if_pos h]
theorem zoJ{R:List (List Sd)}(hl:∀ k,k<R.length→0<(ringAt R k).length)(h0:0<zaK R)(h:zaK R≤24) :
  zdb R=zsB (R.flatten.any fun s=>!zah s) (R.any fun r=>!zan r) (zdm R) (zbS R) (zdw R):=by
 unfold zdb zsB
 rw[if_neg (zr9 hl),if_neg (by omega),if_neg (by omega)]
theorem zrj{R:List (List Sd)}(hl:∀ r∈R,0<r.length):R.length≤zaK R:=by
 unfold zaK
 induction R with
 | nil=>simp
 | cons r R ih =>
  have h1:=hl r (by simp)
  have h2:=ih (fun s hs=>hl s (by simp[hs]))
  simp only[List.map_cons,List.sum_cons,List.length_cons]
  omega
theorem zpR{R:List (List Sd)}{r:List Sd}(h:r∈R):r.length≤zaK R:=by
 unfold zaK
 induction R with
 | nil=>cases h
 | cons s R ih =>
  simp only[List.map_cons,List.sum_cons]
  rcases List.mem_cons.1 h with rfl | h
  ·omega
  ·have:=ih h
   omega
theorem zjK(R:List (List Sd))(hn:R.length≤1000)(hcn:zaK R≤1000)(v:Value)(w:World)(hv:zi9 w v R) :
  CR 125 #[.agg #[v]] w (.int .i64 (zdb R)):=by
 have HV:=LH hv
 have HC0:Hid (∀ k,k<R.length→∃ a cap b o a2 c2,v=.slice a R.length cap∧a=some ⟨b,o,none⟩∧w.cell? ⟨b,o+k,none⟩=some (.slice a2 (ringAt R k).length c2)∧b<w.heap.size):=LH (fun k hk=>by
  obtain⟨a,cap,rfl,hc⟩:=hv
  obtain⟨b,o,vi,rfl,hb,hcell,hrs⟩:=hc k hk
  obtain⟨a2,c2,rfl,-⟩:=hrs
  rw[zaE hk]
  exact⟨_,_,_,_,_,_,rfl,rfl,hcell,hb⟩)
 have H5:Hid (∀ k,k<R.length→(ringAt R k).length=0→zdb R=5):=LH (fun k hk h=>zoI hk h)
 have H0:Hid (zaK R=0→zdb R=5):=LH zoK
 have H4:Hid ((∀ k,k<R.length→0<(ringAt R k).length)→24<zaK R→zdb R=4):=LH zoL
 have HE:Hid ((∀ k,k<R.length→0<(ringAt R k).length)→0<zaK R→zaK R≤24→zdb R=zsB (R.flatten.any fun s=>!zah s) (R.any fun r=>!zan r) (zdm R) (zbS R) (zdw R)):=LH zoJ
 have HS1:Hid (∀ k,k<R.length→zk0 R (k+1)=zk0 R k+(ringAt R k).length):=LH (fun k hk=>zmk hk)
 have HSl:Hid (∀ k,zk0 R k≤1000):=LH (fun k=>Nat.le_trans (zqO R k) hcn)
 have HSe:=LH (zn3 R)
 have HS0:Hid (zk0 R 0=0):=LH rfl
 generalize zdb R=E at *
 obtain⟨a0,cap0,rfl,-⟩:=id hv
 have hRz:(R.length:Int)≤1000:=by omega
 have B:=Blk.new w [.slice a0 R.length cap0] 48
 have hq1:Q w (w.alloc (.cells [Value.slice a0 R.length cap0].toArray 48)):=(Below.refl _ w).alloc (Nat.le_refl _) _
 have c0:=B.cell 0
 simp only[List.getElem?_cons_zero]at c0
 obtain⟨W0,hW0⟩:∃ W0,w.alloc (.cells #[Value.slice a0 R.length cap0] 48)=W0:=⟨_,rfl⟩
 have hW0':w.alloc (.cells [Value.slice a0 R.length cap0].toArray 48)=W0:=hW0
 rw[hW0']at B hq1 c0
 clear hW0' hv hn
 go_enter Tryz.func125,Tryz.ntmps125
 go_wp2
 clear hW0
 go_loop [3,9] (fun c i=>∃ k:Nat,k≤R.length∧i=.int .i64 k∧c=.int .i64 (zk0 R k:Nat)∧Hid (∀ j,j<k→0<(ringAt R j).length)) (fun _ i=>R.length - (intOf i).toNat)
 case atStart=>exact⟨0,by omega,rfl,by rw[HS0.out];rfl,LH (fun j hj=>absurd hj (Nat.not_lt_zero _))⟩
 case round =>
  obtain⟨k,hk,rfl,rfl,HA⟩:=hrel
  by_cases hlt:k<R.length
  ·obtain⟨a',cap',b,o,a2,c2,he,ha,hcell,hbl⟩:=HC0.out k hlt
   injection he with he1 he2 he3
   subst he1 he3
   subst ha
   have hcell:=za hq1 hcell
   have hs:=HS1.out k hlt
   have hp1:=HSl.out (k+1)
   have H5k:=LH (H5.out k hlt)
   have HAk:Hid (0<(ringAt R k).length→∀ j,j<k+1→0<(ringAt R j).length):=LH (fun h j hj=>by
    rcases Nat.lt_or_ge j k with h1 | h1
    ·exact HA.out j h1
    ·obtain rfl:j=k:=by omega
     exact h)
   have HSk:=LH hs
   have w1i:=Go.IntWalk.i64_in ((zk0 R k:Int)+((ringAt R k).length:Int)) (by omega)
   have hkz:(k:Int)<R.length:=by omega
   have hk0:(0:Int)≤k:=by omega
   clear hs hp1 H5 H0 H4 HE
   generalize zk0 R k=p at *
   generalize (ringAt R k).length=n at *
   rcases Nat.eq_zero_or_pos n with h0 | h0
   ·have h5:=H5k.out h0
    subst h5
    subst h0
    clear HAk HSk H5k w1i
    go_wp2
    go_ret
    exact⟨rfl,hq1⟩
   ·have HB:=LH (HAk.out h0)
    have hn0:¬ n=0:=by omega
    have hn1:((n:Int) == 0)=false:=by rw[beq_eq_false_iff_ne];omega
    clear HAk H5k
    go_wp2
    go_round
    case rel=>exact⟨k+1,by omega,by go_num,by rw[HSk.out];go_num,HB⟩
    case measure=>simp[intOf];omega
  ·obtain rfl:k=R.length:=by omega
   rw[HSe.out]
   have hA:=HA.out
   have hlen:∀ r∈R,0<r.length:=fun r hr=>by
    obtain⟨k,hk,rfl⟩:=List.mem_iff_getElem.1 hr
    rw[← zaE hk]
    exact hA k hk
   clear HC0 HS1 HSl HSe HS0 H5 hlt hk HA
   by_cases hz:zaK R=0
   ·have h5:=H0.out hz
    subst h5
    rw[hz]
    clear H0 H4 HE hA hlen hz hcn
    go_wp2
    go_ret
    exact⟨rfl,hq1⟩
   by_cases hm:24<zaK R
   ·have h4:=H4.out hA hm
    subst h4
    have hz1:((zaK R:Int) == 0)=false:=by rw[beq_eq_false_iff_ne];omega
    have hm1:decide ((24:Int)<(zaK R:Int))=true:=by rw[decide_eq_true_eq];omega
    clear H0 H4 HE hA hlen
    generalize zaK R=cf at *
    go_wp2
    go_ret
    exact⟨rfl,hq1⟩
   have HQ:=LH (HE.out hA (by omega) (by omega))
   have hz1:((zaK R:Int) == 0)=false:=by rw[beq_eq_false_iff_ne];omega
   have hm1:decide ((24:Int)<(zaK R:Int))=false:=by rw[decide_eq_false_iff_not];omega
   have hfl:=count_flatten R
   have hR:=zrj hlen
   have hR0:0<R.length:=by
    rcases Nat.eq_zero_or_pos R.length with h | h
    ·rw[List.length_eq_zero_iff.1 h]at hz
     exact absurd rfl hz
    ·exact h
   have hln:∀ r∈R,0<r.length∧r.length≤1000:=fun r hr=>⟨hlen r hr,Nat.le_trans (zpR hr) hcn⟩
   have HC:Hid (∀ W,Q w W→Calls Tryz.prog 126 #[.slice a0 R.length cap0] W fun e w'=>∃ v',e=.returned v'∧Q W w'∧zba 7 sdC w' v' R.flatten):=LH (fun W hq=>zhh R hlen (by omega) (by omega) (by omega) _ W (HV.out.keep hq))
   have HS:Hid (∀ v' W,zba 7 sdC W v' R.flatten→CR 182 #[v',.func (.func 183) #[] #[]] W (.bool (R.flatten.any fun s=>!zah s))):=LH (fun v' W hs=>by
    obtain⟨a,cap,rfl,hx⟩:=id hs
    obtain⟨-,hrow,hba⟩:=zba.at hs
    exact zjv R.flatten (by omega) a cap W hrow (fun k hk=>hba k hk (by omega)))
   have hok:(R.flatten.any fun s=>!zah s)=false→∀ r∈R,∀ i,i<r.length→ArnOk (arn r i):=fun h r hr i hi=>zrZ (fun s hs=>zr5 (by
    have:=List.any_eq_false.1 h s (List.mem_flatten.2 ⟨r,hr,hs⟩)
    simpa using this)) i hi
   have HR:Hid ((R.flatten.any fun s=>!zah s)=false→∀ W,Q w W→CR 185 #[.slice a0 R.length cap0,.func (.func 186) #[] #[]] W (.bool (R.any fun r=>!zan r))):=LH (fun h W hq=>zjw R (by omega) hln (hok h) _ W (HV.out.keep hq))
   have HX:Hid (∀ W,Q w W→CR 188 #[.slice a0 R.length cap0] W (.bool (zdm R))):=LH (fun W hq=>callsIn_wide.1 (znk R (by omega) hln hcn _ W (HV.out.keep hq) hR0))
   have HP:Hid ((R.flatten.any fun s=>!zah s)=false→∀ W,Q w W→CR 189 #[.slice a0 R.length cap0] W (.bool (zbS R))):=LH (fun h W hq=>zmX R (by omega) hln (hok h) _ W (HV.out.keep hq))
   have HJ:Hid ((R.flatten.any fun s=>!zah s)=false→∀ W,Q w W→CR 190 #[.slice a0 R.length cap0] W (.bool (zdw R))):=LH (fun h W hq=>callsIn_wide.1 (zo4 R (by omega) hln (hok h) _ W (HV.out.keep hq) hR0))
   clear H0 H4 HE hA hlen HV hfl hln hok hz hm hR hcn
   generalize (R.flatten.any fun s=>!zah s)=ru at *
   generalize (R.any fun r=>!zan r)=rs at *
   generalize zdm R=rc at *
   generalize zbS R=rp at *
   generalize zdw R=rj at *
   generalize zaK R=cf at *
   generalize R.flatten=F at *
   generalize R.length=n at *
   go_wp2_with fail
   refine(HC.out _ hq1).mono ?_
   rintro e w2⟨v',rfl,hq,hs⟩
   replace B:=B.keep hq B.lt
   replace c0:=B.cell 0
   simp only[List.getElem?_cons_zero]at c0
   have hq2:=Q.trans hq1 hq
   clear hq hq1 HC
   go_wp2_with fail
   refine cx (HS.out _ _ hs) fun w3 hq=>?_
   replace B:=B.keep hq B.lt
   replace c0:=B.cell 0
   simp only[List.getElem?_cons_zero]at c0
   have hq3:=Q.trans hq2 hq
   clear hq hq2 hs HS
   cases ru
   case true =>
    obtain rfl:E=2:=HQ.out
    clear HR HX HP HJ HQ
    go_wp2
    go_ret
    exact⟨rfl,hq3⟩
   have HR1:=LH (HR.out rfl)
   have HP1:=LH (HP.out rfl)
   have HJ1:=LH (HJ.out rfl)
   clear HR HP HJ
   go_wp2_with fail
   refine cx (HR1.out _ hq3) fun w4 hq=>?_
   replace B:=B.keep hq B.lt
   replace c0:=B.cell 0
   simp only[List.getElem?_cons_zero]at c0
   have hq4:=Q.trans hq3 hq
   clear hq hq3 HR1
   cases rs
   case true =>
    obtain rfl:E=14:=HQ.out
    clear HX HP1 HJ1 HQ
    go_wp2
    go_ret
    exact⟨rfl,hq4⟩
   go_wp2_with fail
   refine cx (HX.out _ hq4) fun w5 hq=>?_
   replace B:=B.keep hq B.lt
   replace c0:=B.cell 0
   simp only[List.getElem?_cons_zero]at c0
   have hq5:=Q.trans hq4 hq
   clear hq hq4 HX
   cases rc
   case true =>
    obtain rfl:E=15:=HQ.out
    clear HP1 HJ1 HQ
    go_wp2
    go_ret
    exact⟨rfl,hq5⟩
   go_wp2_with fail
   refine cx (HP1.out _ hq5) fun w6 hq=>?_
   replace B:=B.keep hq B.lt
   replace c0:=B.cell 0
   simp only[List.getElem?_cons_zero]at c0
   have hq6:=Q.trans hq5 hq
   clear hq hq5 HP1
   cases rp
   case false =>
    obtain rfl:E=14:=HQ.out
    clear HJ1 HQ
    go_wp2
    go_ret
    exact⟨rfl,hq6⟩
   go_wp2_with fail
   refine cx (HJ1.out _ hq6) fun w7 hq=>?_
   have hq7:=Q.trans hq6 hq
   cases rj
   case false =>
    obtain rfl:E=14:=HQ.out
    clear HQ
    go_wp2
    go_ret
    exact⟨rfl,hq7⟩
   obtain rfl:E=0:=HQ.out
   clear HQ
   go_wp2
   go_ret
   exact⟨rfl,hq7⟩
theorem zoH(R:List (List Sd))(h:zdb R=0)(hn:R.length≤1000)(v:Value)(w:World)(hv:zi9 w v R) :
  Calls Tryz.prog 60 #[.agg #[v]] w fun e w'=>∃ v',e=.returned (.tuple #[v',.int .i64 0])∧Q w w'∧zba 7 sdC w' v' R.flatten:=by
 have ok:=zgc h
 have hfl:=count_flatten R
 have hle:=ok.le
 have hp:=ok.pos
 have HK:Hid (∀ W,Q w W→CR 125 #[.agg #[v]] W (.int .i64 0)):=LH (fun W hq=>by
  have:=zjK R hn (by omega) v W (hv.keep hq)
  rw[h]at this
  exact this)
 have HC:Hid (∀ W,Q w W→Calls Tryz.prog 126 #[v] W fun e w'=>∃ v',e=.returned v'∧Q W w'∧zba 7 sdC w' v' R.flatten):=LH (fun W hq=>zhh R (fun r hr=>by have:=ok.four r hr;omega) (by omega) (by omega) hn _ W (hv.keep hq))
 obtain⟨a0,cap0,rfl,-⟩:=hv
 clear ok hfl hle hp h hn
 have B:=Blk.new w [.slice a0 R.length cap0] 48
 have hq1:Q w (w.alloc (.cells [Value.slice a0 R.length cap0].toArray 48)):=(Below.refl _ w).alloc (Nat.le_refl _) _
 have c0:=B.cell
 generalize R.length=n at *
 generalize R.flatten=F at *
 go_enter Tryz.func60,Tryz.ntmps60
 go_wp2_with fail
 refine cx (HK.out _ hq1) fun w2 hq=>?_
 replace B:=B.keep hq B.lt
 replace c0:=B.cell
 have hq2:=Q.trans hq1 hq
 clear hq hq1 HK
 go_wp2_with fail
 refine(HC.out _ hq2).mono ?_
 rintro e w3⟨v',rfl,hq,hs⟩
 have hq3:=Q.trans hq2 hq
 clear hq hq2 HC
 go_wp2
 go_ret2
 exact⟨_,rfl,hq3,hs⟩
end
section
open Go.RowKit Kp
structure Mb where
 kind:Int
 face:Int
 other:Int
 fx:Str
 fy:Str
 fz:Str
 tx:Str
 ty:Str
 tz:Str
 wid:Int
 dep:Int
def zk2(x y z:Str):Int:=if zcg x≠0 then zcg x else if zcg y≠0 then zcg y else zcg z
theorem zml{x y z:Str}(h:zk2 x y z=0):zcg x=0∧zcg y=0∧zcg z=0:=by
 unfold zk2 at h
 by_cases hx:zcg x=0
 ·rw[if_neg (by simpa using hx)]at h
  by_cases hy:zcg y=0
  ·rw[if_neg (by simpa using hy)]at h
   exact⟨hx,hy,h⟩
  ·rw[if_pos hy]at h;exact absurd h hy
 ·rw[if_pos hx]at h;exact absurd h hx
theorem zqY(x:Int):x.natAbs<10 ^ (Lib.itoa x).length:=by
 refine Nat.lt_of_lt_of_le (zcU x.natAbs) (Nat.pow_le_pow_right (by decide) ?_)
 by_cases h:x<0
 ·rw[itoa_neg h];simp
 ·rw[itoa_nonneg (by omega),show x.toNat=x.natAbs by omega];exact Nat.le_refl _
theorem ze1{a:Str}{n:Nat}(h:zcg a=0)(hl:a.length≤n)(hn:1≤n):Bd n (rval a):=by
 obtain⟨h1,h2⟩:=zcZ h
 have e1:=zbY (rval a)
 have e2:=zed (rval a)
 rw[h1]at e1 e2
 have l1:=zd8 a
 have l2:(zal a).length≤n:=by
  unfold zal;split
  ·have:=zee a;omega
  ·simp;omega
 rw[e1]at l1
 rw[e2]at l2
 have b1:=zqY (rval a).num
 have b2:=zqY ((rval a).den:Int)
 rw[Int.natAbs_natCast]at b2
 exact⟨Nat.lt_of_lt_of_le b1 (Nat.pow_le_pow_right (by decide) (by omega)),Nat.lt_of_lt_of_le b2 (Nat.pow_le_pow_right (by decide) (by omega))⟩
def Mb.pf(m:Mb):P3:=⟨rval m.fx,rval m.fy,rval m.fz⟩
structure Fr where
 up:Bool
 coord:Int
 dir:Int
 speed:Rat
 start:Rat
def frC(f:Fr):List Value:=[.bool f.up,.int .i64 f.coord,.int .i64 f.dir,.string ⟨(ze f.speed).toArray⟩,.string ⟨(ze f.start).toArray⟩]
def zgs(s n:Sd):Nat:=if s.x<n.x then 0 else if s.y<n.y then 1 else if n.x<s.x then 2 else 3
def upF:Nat→Bool
 | 0=>false
 | 1=>true
 | 2=>false
 | _=>true
def zsW:Nat→Int
 | 0=>1
 | 1=>-1
 | 2=>-1
 | _=>1
def ziZ(s n:Sd):Fr:=⟨upF (zgs s n),if upF (zgs s n)then s.x else s.y,zsW (zgs s n),if s.gable then 0 else Rat.divInt s.run s.rise,(s.plate:Rat)⟩
def znH(r:List Sd):List Fr:=(List.range r.length).map fun i=>ziZ (zcf r i) (zcf r ((i+1) % r.length))
def za2(R:List (List Sd)):List Fr:=R.flatMap znH
structure FrOk (f:Fr):Prop where
 c0:0≤f.coord
 c1:f.coord≤65536
 d:f.dir=1∨f.dir = -1
 s:Bd 5 f.speed
 s0:0≤f.speed.num
 p:Bd 5 f.start
theorem zrN(n:Nat):zsW n=1∨zsW n = -1:=by
 unfold zsW
 split
 ·exact .inl rfl
 ·exact .inr rfl
 ·exact .inr rfl
 ·exact .inl rfl
theorem zqz{s n:Sd}(h:Rgd s):FrOk (ziZ s n):=by
 have hx:=h.x0;have hx1:=h.x1;have hy:=h.y0;have hy1:=h.y1;have hp:=h.p0;have hp1:=h.p1
 refine⟨?_,?_,zrN _,?_,?_,?_⟩
 ·show 0≤(if upF (zgs s n)then s.x else s.y)
  split <;> omega
 ·show (if upF (zgs s n)then s.x else s.y)≤65536
  split <;> omega
 ·show Bd 5 (if s.gable then 0 else Rat.divInt s.run s.rise)
  split
  ·exact⟨Nat.pow_pos (by decide),Nat.one_lt_pow (by omega) (by decide)⟩
  ·next hg =>
   have h1:=h.n (by simpa using hg)
   obtain⟨k,hk⟩:=Int.eq_ofNat_of_zero_le (show 0≤s.rise by omega)
   rw[hk]
   exact zc8 (by omega) (by omega) (by omega)
 ·show 0≤(if s.gable then(0:Rat)else Rat.divInt s.run s.rise).num
  split
  ·decide
  ·next hg =>
   have h1:=h.n (by simpa using hg)
   obtain⟨k,hk⟩:=Int.eq_ofNat_of_zero_le (show 0≤s.rise by omega)
   rw[hk]
   exact Int.le_of_lt (zfi (by omega) (by omega))
 ·show Bd 5 (s.plate:Rat)
  exact ztK (by omega) (by decide)
theorem znD{r:List Sd}{i:Nat}(h:i<r.length):zcf r i∈r:=by
 unfold zcf
 rw[List.getD_eq_getElem?_getD,List.getElem?_eq_getElem h]
 exact List.getElem_mem h
theorem ze5{R:List (List Sd)}(h:∀ s∈R.flatten,Rgd s):∀ f∈za2 R,FrOk f:=by
 intro f hf
 unfold za2 at hf
 obtain⟨r,hr,hf⟩:=List.mem_flatMap.1 hf
 unfold znH at hf
 obtain⟨i,hi,rfl⟩:=List.mem_map.1 hf
 exact zqz (h _ (List.mem_flatten.2 ⟨r,hr,znD (List.mem_range.1 hi)⟩))
end
section
open Go.RowKit Go.Shelf Kp
attribute [local go_sem] Oper.semAt_some
theorem zkZ(s n:Sd)(w:World):CR 192 #[.agg (sdC s).toArray,.agg (sdC n).toArray] w (.int .i64 (zgs s n:Nat)):=by
 obtain⟨x1,y1,r1,n1,g1,p1,q1⟩:=s
 obtain⟨x2,y2,r2,n2,g2,p2,q2⟩:=n
 unfold zgs sdC
 simp only
 by_cases h1:x1<x2
 ·rw[if_pos h1]
  go_enter Tryz.func192,Tryz.ntmps192
  go_wp2
  go_ret
  exact⟨rfl,bt⟩
 ·rw[if_neg h1]
  by_cases h2:y1<y2
  ·rw[if_pos h2]
   go_enter Tryz.func192,Tryz.ntmps192
   go_wp2
   go_ret
   exact⟨rfl,bt⟩
  ·rw[if_neg h2]
   by_cases h3:x2<x1
   ·rw[if_pos h3]
    go_enter Tryz.func192,Tryz.ntmps192
    go_wp2
    go_ret
    exact⟨rfl,bt⟩
   ·rw[if_neg h3]
    go_enter Tryz.func192,Tryz.ntmps192
    go_wp2
    go_ret
    exact⟨rfl,bt⟩
theorem zhu(S:List UInt8)(w:World):CR 258 #[.string ⟨S.toArray⟩] w (.int .i64 ((zo S).length:Nat)):=by
 have HT:=LH (fun w=>zP S w)
 generalize zo S=U at *
 go_enter Tryz.func258,Tryz.ntmps258
 go_wp2_with fail
 refine(HT.out _).mono ?_
 rintro e w2⟨rfl,rfl⟩
 go_wp2
 go_ret
 exact⟨rfl,Q.refl _⟩
theorem zrX{q:Rat}{n:Nat}(h:Bd n q):((zo (Lib.itoa (q.den:Int))).length:Int)≤n:=by
 have h1:(zo (Lib.itoa (q.den:Int))).length≤n:=by
  rw[zav]
  rcases Nat.eq_zero_or_pos n with rfl | hn
  ·exact absurd h.2 (by have:=q.den_pos;simp;omega)
  ·exact(zm _ n hn).2 (by rw[Int.natAbs_natCast];exact h.2)
 omega
theorem zjZ(n:Int):Rat.divInt n ((1:Nat):Int)=(n:Rat):=by
 rw[Rat.divInt_eq_div,Rat.intCast_natCast,show ((1:Nat):Rat)=1 from rfl];grind
theorem zht(q:Rat)(h:Bd 36 q)(w:World)(hE:Env w) :
  CR 194 #[.string ⟨(ze q).toArray⟩] w (.int .i64 0):=by
 have HC:=LH (fun w hw=>zA q (h.zam (by decide)) w hw)
 have HP:=LH (fun w hw=>zbJ q (h.zam (by decide)) w hw)
 have l1:=(zk5 h).1
 have l2:=zrX h
 clear h
 generalize ze q=S at *
 have HN:=LH (fun w=>zhu (Lib.itoa q.num) w)
 have HD:=LH (fun w=>zhu (Lib.itoa (q.den:Int)) w)
 generalize zo (Lib.itoa q.num)=U at *
 generalize zo (Lib.itoa (q.den:Int))=V at *
 generalize Lib.itoa q.num=N at *
 generalize Lib.itoa (q.den:Int)=D at *
 have hm:¬ (36:Int)<max (U.length:Int) (V.length:Int):=by omega
 go_enter Tryz.func194,Tryz.ntmps194
 have hQ0:=Q.refl w
 go_wp2_with fail
 refine cx (HC.out _ (hE.ofQ bt)) fun w1 hq1=>?_
 have hs1:Q w w1:=Q.trans bt hq1
 have hQ1:Q w w1:=Q.trans hQ0 hs1
 go_wp2_with fail
 refine cx (HP.out _ (hE.ofQ bt)) fun w2 hq2=>?_
 have hs2:Q w1 w2:=Q.trans bt hq2
 have hQ2:Q w w2:=Q.trans hQ1 hs2
 go_wp2_with fail
 refine cx (HN.out _) fun w3 hq3=>?_
 have hs3:Q w2 w3:=Q.trans bt hq3
 have hQ3:Q w w3:=Q.trans hQ2 hs3
 go_wp2_with fail
 refine cx (HD.out _) fun w4 hq4=>?_
 have hs4:Q w3 w4:=Q.trans bt hq4
 have hQ4:Q w w4:=Q.trans hQ3 hs4
 go_wp2
 go_ret
 exact⟨rfl,bt⟩
theorem ziX(n:Int)(hn:n.natAbs<100000000000000000)(w:World)(hE:Env w) :
  CR 130 #[.int .i64 n] w (.string ⟨(ze (n:Rat)).toArray⟩):=by
 have HO:=LH (fun w hw=>zbe n 1 (by decide) hn (by decide) w hw)
 rw[zjZ]at HO
 generalize ze (n:Rat)=S at *
 go_enter Tryz.func130,Tryz.ntmps130
 have hQ0:=Q.refl w
 go_wp2_with fail
 refine cx (HO.out _ (hE.ofQ bt)) fun w1 hq1=>?_
 have hs1:Q w w1:=Q.trans bt hq1
 have hQ1:Q w w1:=Q.trans hQ0 hs1
 go_wp2
 go_ret
 exact⟨rfl,bt⟩
theorem zqv{m n:Nat}(x y:Rat)(hx:Bd m x)(hy:Bd n y)(h:m+n+1≤300)(w:World)(hE:Env w) :
  CR 131 #[.string ⟨(ze x).toArray⟩,.string ⟨(ze y).toArray⟩] w (.string ⟨(ze (x - y)).toArray⟩):=by
 have HO:=LH (fun w hw=>zbd x y hx hy h w hw)
 generalize ze (x - y)=S at *
 generalize ze x=X at *
 generalize ze y=Y at *
 go_enter Tryz.func131,Tryz.ntmps131
 have hQ0:=Q.refl w
 go_wp2_with fail
 refine cx (HO.out _ (hE.ofQ bt)) fun w1 hq1=>?_
 have hs1:Q w w1:=Q.trans bt hq1
 have hQ1:Q w w1:=Q.trans hQ0 hs1
 go_wp2
 go_ret
 exact⟨rfl,bt⟩
theorem zqw{m n:Nat}(x y:Rat)(hx:Bd m x)(hy:Bd n y)(h:m+n≤300)(w:World)(hE:Env w) :
  CR 132 #[.string ⟨(ze x).toArray⟩,.string ⟨(ze y).toArray⟩] w (.string ⟨(ze (x*y)).toArray⟩):=by
 have HO:=LH (fun w hw=>zaZ x y hx hy h w hw)
 generalize ze (x*y)=S at *
 generalize ze x=X at *
 generalize ze y=Y at *
 go_enter Tryz.func132,Tryz.ntmps132
 have hQ0:=Q.refl w
 go_wp2_with fail
 refine cx (HO.out _ (hE.ofQ bt)) fun w1 hq1=>?_
 have hs1:Q w w1:=Q.trans bt hq1
 have hQ1:Q w w1:=Q.trans hQ0 hs1
 go_wp2
 go_ret
 exact⟨rfl,bt⟩
end
section
open Go.RowKit Kp
attribute [local go_sem] Oper.semAt_some
theorem ze8(a b c d:Int)(ha:lim a=false)(hb:lim b=false)(hc:lim c=false)(hd:lim d=false)(h:lim (a*d)=true∨lim (c*b)=true)(w:World)(hE:Env w) :
  Calls Tryz.prog 82 #[.agg #[.string ⟨(Lib.itoa a).toArray⟩,.string ⟨(Lib.itoa b).toArray⟩],.agg #[.string ⟨(Lib.itoa c).toArray⟩,.string ⟨(Lib.itoa d).toArray⟩]] w fun e w'=>(∃ u v,e=.returned (.tuple #[.string u,.string v,.int .i64 4]))∧Q w w':=by
 have M1:=LH (fun w hw=>zaO a d ha hd w hw)
 have M2:=LH (fun w hw=>zaO c b hc hb w hw)
 cases h1:lim (a*d)with
 | true =>
  rw[zgM h1]at M1
  clear ha hb hc hd h1 h M2
  generalize Lib.itoa a=A at *
  generalize Lib.itoa b=B at *
  generalize Lib.itoa c=C at *
  generalize Lib.itoa d=D at *
  go_enter Tryz.func82,Tryz.ntmps82
  go_wp2_with fail
  refine cx (M1.out _ (hE.q bt)) fun w1 hq1=>?_
  have hQ1:Q w w1:=Q.trans (show Below w.heap.size w _ from bt) hq1
  go_wp2
  go_ret3
  exact⟨⟨_,_,rfl⟩,hQ1⟩
 | false =>
  have h2:lim (c*b)=true:=by
   rcases h with h | h;· rw[h1]at h;cases h
   exact h
  rw[zei h1]at M1
  rw[zgM h2]at M2
  clear ha hb hc hd h1 h2 h
  generalize Lib.itoa (a*d)=X at *
  generalize Lib.itoa a=A at *
  generalize Lib.itoa b=B at *
  generalize Lib.itoa c=C at *
  generalize Lib.itoa d=D at *
  go_enter Tryz.func82,Tryz.ntmps82
  go_wp2_with fail
  refine cx (M1.out _ (hE.q bt)) fun w1 hq1=>?_
  have B1:=((Blk.new w [.string ⟨A.toArray⟩,.string ⟨B.toArray⟩] 133).alloc (.cells #[.string ⟨C.toArray⟩,.string ⟨D.toArray⟩] 133)).keep hq1 (by simp;omega)
  have B2:=(Blk.new (w.alloc (.cells #[.string ⟨A.toArray⟩,.string ⟨B.toArray⟩] 133)) [.string ⟨C.toArray⟩,.string ⟨D.toArray⟩] 133).keep hq1 (by simp)
  rw[World.size_alloc]at B2
  have hQ1:Q w w1:=Q.trans (show Below w.heap.size w _ from bt) hq1
  have c0:=B1.cell
  have d0:=B2.cell
  go_wp2_with fail
  refine cx (M2.out _ (hE.q hQ1)) fun w2 hq2=>?_
  have hQ2:=Q.trans hQ1 hq2
  clear M1 M2 c0 d0
  go_wp2
  go_ret3
  exact⟨⟨_,_,rfl⟩,hQ2⟩
def zk7(x y:Rat):Bool:=lim (x.num*y.den) || lim (y.num*(x.den:Int)) || lim (x.num*y.den+y.num*x.den) || lim ((x.den:Int)*y.den)
theorem zds(a b c d:Int)(ha:lim a=false)(hb:lim b=false)(hc:lim c=false)(hd:lim d=false)(h:(lim (a*d) || lim (c*b) || lim (a*d+c*b) || lim (b*d))=true)(w:World)(hE:Env w)
  (p:Nat)(hpc:w.cell? ⟨p,0,none⟩=some (.func (.func 276) #[] #[]))(_hp:p<w.heap.size) :
  CR 140 #[.agg #[.string ⟨(Lib.itoa a).toArray⟩,.string ⟨(Lib.itoa b).toArray⟩],.agg #[.string ⟨(Lib.itoa c).toArray⟩,.string ⟨(Lib.itoa d).toArray⟩],.pointer (some ⟨p,0,none⟩)] w (.tuple #[.string ⟨#[]⟩,.int .i64 4]):=by
 have M3:=LH (fun w hw=>zaO b d hb hd w hw)
 by_cases hx:lim (a*d)=true∨lim (c*b)=true
 ·have M1:=LH (fun w hw=>ze8 a b c d ha hb hc hd hx w hw)
  clear ha hb hc hd hx h M3
  generalize Lib.itoa a=A at *
  generalize Lib.itoa b=B at *
  generalize Lib.itoa c=C at *
  generalize Lib.itoa d=D at *
  go_enter Tryz.func140,Tryz.ntmps140
  go_wp2_with fail
  refine(M1.out _ (hE.q bt)).mono ?_
  rintro e w1⟨⟨u,v,rfl⟩,hq1⟩
  have hQ1:Q w w1:=Q.trans (show Below w.heap.size w _ from bt) hq1
  go_wp2
  go_ret2
  exact⟨rfl,hQ1⟩
 ·have h1:lim (a*d)=false:=by
   cases hh:lim (a*d);· rfl
   exact absurd (.inl hh) hx
  have h2:lim (c*b)=false:=by
   cases hh:lim (c*b);· rfl
   exact absurd (.inr hh) hx
  have M1:=LH (fun w hw=>zbp a b c d ha hb hc hd h1 h2 w hw)
  have M2:=LH (fun w hw=>ziS (a*d) (c*b) h1 h2 w hw)
  rw[h1,h2,Bool.false_or,Bool.false_or]at h
  cases h3:lim (a*d+c*b)with
  | true =>
   rw[zgM h3]at M2
   clear ha hb hc hd h1 h2 h3 h hx M3
   generalize Lib.itoa (a*d)=X at *
   generalize Lib.itoa (c*b)=Y at *
   generalize Lib.itoa a=A at *
   generalize Lib.itoa b=B at *
   generalize Lib.itoa c=C at *
   generalize Lib.itoa d=D at *
   go_enter Tryz.func140,Tryz.ntmps140
   go_wp2_with fail
   refine cx (M1.out _ (hE.q bt)) fun w1 hq1=>?_
   have hQ1:Q w w1:=Q.trans (show Below w.heap.size w _ from bt) hq1
   have pc1:=za hQ1 hpc
   go_wp2_with fail
   refine cx (M2.out _ (hE.q hQ1)) fun w2 hq2=>?_
   have hQ2:=Q.trans hQ1 hq2
   go_wp2
   go_ret2
   exact⟨rfl,hQ2⟩
  | false =>
   rw[h3,Bool.false_or]at h
   rw[zei h3]at M2
   rw[zgM h]at M3
   clear ha hb hc hd h1 h2 h3 h hx
   generalize Lib.itoa (a*d+c*b)=Z at *
   generalize Lib.itoa (a*d)=X at *
   generalize Lib.itoa (c*b)=Y at *
   generalize Lib.itoa a=A at *
   generalize Lib.itoa b=B at *
   generalize Lib.itoa c=C at *
   generalize Lib.itoa d=D at *
   go_enter Tryz.func140,Tryz.ntmps140
   go_wp2_with fail
   refine cx (M1.out _ (hE.q bt)) fun w1 hq1=>?_
   have B1:=((Blk.new w [.string ⟨A.toArray⟩,.string ⟨B.toArray⟩] 133).alloc (.cells #[.string ⟨C.toArray⟩,.string ⟨D.toArray⟩] 133)).keep hq1 (by simp;omega)
   have B2:=(Blk.new (w.alloc (.cells #[.string ⟨A.toArray⟩,.string ⟨B.toArray⟩] 133)) [.string ⟨C.toArray⟩,.string ⟨D.toArray⟩] 133).keep hq1 (by simp)
   rw[World.size_alloc]at B2
   have hQ1:Q w w1:=Q.trans (show Below w.heap.size w _ from bt) hq1
   have pc1:=za hQ1 hpc
   go_wp2_with fail
   refine cx (M2.out _ (hE.q hQ1)) fun w2 hq2=>?_
   have hQ2:=Q.trans hQ1 hq2
   have C1:=B1.keep hq2 B1.lt
   have C2:=B2.keep hq2 B2.lt
   have c0:=C1.cell
   have d0:=C2.cell
   clear pc1 M1 M2
   go_wp2_with fail
   refine cx (M3.out _ (hE.q hQ2)) fun w3 hq3=>?_
   have hQ3:=Q.trans hQ2 hq3
   clear c0 d0 M3
   go_wp2
   go_ret2
   exact⟨rfl,hQ3⟩
theorem zhG(x y:Rat)(hx:zam x=false)(hy:zam y=false)(h:zk7 x y=true)(w:World)(hE:Env w) :
  CR 212 #[.string ⟨(ze x).toArray⟩,.string ⟨(ze y).toArray⟩] w (.tuple #[.string ⟨#[]⟩,.int .i64 4]):=by
 have hs:¬ (zR x∧zR y):=by
  rintro⟨a,b⟩
  have hb:∀ q:Rat,zR q→Bd 8 q:=fun q hq=>⟨by have:=hq.1;omega,by have:=hq.2;omega⟩
  have hxb:=hb x a
  have hyb:=hb y b
  unfold zk7 at h
  rw[zbw (zbF hxb hyb) (by decide),zbw (zbF hyb hxb) (by decide),zbw (sum_lt hxb hyb).1 (by decide),zbw (n:=16) (by rw[← Int.natCast_mul,Int.natAbs_natCast];exact zcr hxb hyb) (by decide)]at h
  cases h
 have HQ:=LH (fun w=>zaF (ze x) (ze y) (.func (.func 275) #[] #[]) (by have:=zaA hx;omega) (by have:=zaA hy;omega) (zbm hs) w)
 have HF:=fun w' hw' p hp hpc=>zds x.num (x.den:Int) y.num (y.den:Int) (zx hx).1 (zx hx).2 (zx hy).1 (zx hy).2 h w' hw' p hpc hp
 have HB:=LH (fun w (hw:Env w) p (hp:p<w.heap.size) (hpc:w.cell? ⟨p,0,none⟩=some (.func (.func 276) #[] #[]))=>zb7 x y hx hy p _ _ w hw (fun w' hq=>HF w' (hw.q hq) p (Nat.lt_of_lt_of_le hp hq.size) (za hq hpc)))
 have HC:=LH (fun w=>zbH 276 w)
 clear HF hs hx hy h
 go_enter Tryz.func212,Tryz.ntmps212
 go_wp2_with fail
 refine cx (HQ.out _) fun w1 hq1=>?_
 go_wp2_with fail
 refine(HC.out _).mono ?_
 rintro e w2⟨rfl,hq2,hp,hpc⟩
 have hQ2:=Q.trans hq1 hq2
 go_wp2_with fail
 refine cx (HB.out _ (hE.q hQ2) _ hp hpc) fun w3 hq3=>?_
 have hQ3:=Q.trans hQ2 hq3
 go_wp2
 go_ret2
 exact⟨rfl,hQ3⟩
def mulL(x y:Rat):Bool:=lim (x.num*y.num) || lim ((x.den:Int)*y.den)
theorem zgT(a b c d:Int)(ha:lim a=false)(hb:lim b=false)(hc:lim c=false)(hd:lim d=false)(h:(lim (a*c) || lim (b*d))=true)(w:World)(hE:Env w) :
  CR 76 #[.agg #[.string ⟨(Lib.itoa a).toArray⟩,.string ⟨(Lib.itoa b).toArray⟩],.agg #[.string ⟨(Lib.itoa c).toArray⟩,.string ⟨(Lib.itoa d).toArray⟩]] w (.tuple #[.string ⟨#[]⟩,.int .i64 4]):=by
 have M1:=LH (fun w hw=>zaO a c ha hc w hw)
 have M2:=LH (fun w hw=>zaO b d hb hd w hw)
 cases h1:lim (a*c)with
 | true =>
  rw[zgM h1]at M1
  clear ha hb hc hd h1 h M2
  generalize Lib.itoa a=A at *
  generalize Lib.itoa b=B at *
  generalize Lib.itoa c=C at *
  generalize Lib.itoa d=D at *
  go_enter Tryz.func76,Tryz.ntmps76
  go_wp2_with fail
  refine cx (M1.out _ (hE.q bt)) fun w1 hq1=>?_
  have hQ1:Q w w1:=Q.trans (show Below w.heap.size w _ from bt) hq1
  go_wp2
  go_ret2
  exact⟨rfl,hQ1⟩
 | false =>
  rw[h1,Bool.false_or]at h
  rw[zei h1]at M1
  rw[zgM h]at M2
  clear ha hb hc hd h1 h
  generalize Lib.itoa (a*c)=X at *
  generalize Lib.itoa a=A at *
  generalize Lib.itoa b=B at *
  generalize Lib.itoa c=C at *
  generalize Lib.itoa d=D at *
  go_enter Tryz.func76,Tryz.ntmps76
  go_wp2_with fail
  refine cx (M1.out _ (hE.q bt)) fun w1 hq1=>?_
  have B1:=((Blk.new w [.string ⟨A.toArray⟩,.string ⟨B.toArray⟩] 133).alloc (.cells #[.string ⟨C.toArray⟩,.string ⟨D.toArray⟩] 133)).keep hq1 (by simp;omega)
  have B2:=(Blk.new (w.alloc (.cells #[.string ⟨A.toArray⟩,.string ⟨B.toArray⟩] 133)) [.string ⟨C.toArray⟩,.string ⟨D.toArray⟩] 133).keep hq1 (by simp)
  rw[World.size_alloc]at B2
  have hQ1:Q w w1:=Q.trans (show Below w.heap.size w _ from bt) hq1
  have c0:=B1.cell
  have d0:=B2.cell
  go_wp2_with fail
  refine cx (M2.out _ (hE.q hQ1)) fun w2 hq2=>?_
  have hQ2:=Q.trans hQ1 hq2
  clear M1 M2 c0 d0
  go_wp2
  go_ret2
  exact⟨rfl,hQ2⟩
theorem zhF(x y:Rat)(hx:zam x=false)(hy:zam y=false)(h:mulL x y=true)(w:World)(hE:Env w) :
  CR 43 #[.string ⟨(ze x).toArray⟩,.string ⟨(ze y).toArray⟩] w (.tuple #[.string ⟨#[]⟩,.int .i64 4]):=by
 have hs:¬ (zR x∧zR y):=by
  rintro⟨a,b⟩
  have hb:∀ q:Rat,zR q→Bd 8 q:=fun q hq=>⟨by have:=hq.1;omega,by have:=hq.2;omega⟩
  have hxb:=hb x a
  have hyb:=hb y b
  unfold mulL at h
  rw[zbw (zcS hxb.1 hyb.1) (by decide),zbw (n:=16) (by rw[← Int.natCast_mul,Int.natAbs_natCast];exact zcr hxb hyb) (by decide)]at h
  cases h
 have HQ:=LH (fun w=>zaF (ze x) (ze y) (.func (.func 75) #[] #[]) (by have:=zaA hx;omega) (by have:=zaA hy;omega) (zbm hs) w)
 have HF:=fun w' hw'=>zgT x.num (x.den:Int) y.num (y.den:Int) (zx hx).1 (zx hx).2 (zx hy).1 (zx hy).2 h w' hw'
 have HB:=LH (fun w (hw:Env w)=>zdK x y hx hy _ _ w hw (fun w' hq=>HF w' (hw.q hq)))
 clear HF hs hx hy h
 go_enter Tryz.func43,Tryz.ntmps43
 go_wp2_with fail
 refine cx (HQ.out _) fun w1 hq1=>?_
 go_wp2_with fail
 refine cx (HB.out _ (hE.q hq1)) fun w2 hq2=>?_
 have hQ2:=Q.trans hq1 hq2
 go_wp2
 go_ret2
 exact⟨rfl,hQ2⟩
def ztx(x y:Rat):Value:=if mulL x y=true then .tuple #[.string ⟨#[]⟩,.int .i64 4]else .tuple #[.string ⟨(ze (x*y)).toArray⟩,.int .i64 0]
def zt3(x y:Rat):Value:=if zk7 x y=true then .tuple #[.string ⟨#[]⟩,.int .i64 4]else .tuple #[.string ⟨(ze (x+y)).toArray⟩,.int .i64 0]
theorem zcI(x y:Rat)(hx:zam x=false)(hy:zam y=false)(w:World)(hE:Env w) :
  CR 43 #[.string ⟨(ze x).toArray⟩,.string ⟨(ze y).toArray⟩] w (ztx x y):=by
 unfold ztx
 cases h:mulL x y with
 | true=>exact zhF x y hx hy h w hE
 | false =>
  have h':=h
  unfold mulL at h'
  rw[Bool.or_eq_false_iff]at h'
  exact zhl x y hx hy h'.1 h'.2 w hE
theorem zhH(x y:Rat)(hx:zam x=false)(hy:zam y=false)(w:World)(hE:Env w) :
  CR 212 #[.string ⟨(ze x).toArray⟩,.string ⟨(ze y).toArray⟩] w (zt3 x y):=by
 unfold zt3
 cases h:zk7 x y with
 | true=>exact zhG x y hx hy h w hE
 | false =>
  have h':=h
  unfold zk7 at h'
  simp only[Bool.or_eq_false_iff]at h'
  exact zhn x y hx hy h'.1.1.1 h'.1.1.2 h'.1.2 h'.2 w hE
theorem zij{n d:Int}(hn:lim n=false)(hd:lim d=false)(h0:0<d):zam (Rat.divInt n d)=false:=by
 obtain⟨k,rfl⟩:=Int.eq_ofNat_of_zero_le (show 0≤d by omega)
 obtain⟨e1,e2⟩:=zcp n k (by omega)
 unfold zam
 rw[e1,e2,zcj hn ?_,zcj hd ?_]
 ·rfl
 ·rw[Int.natAbs_natCast];exact Nat.div_le_self ..
 ·rw[Int.natAbs_tdiv];exact Nat.div_le_self ..
theorem zgi{x y:Rat}(h:mulL x y=false):zam (x*y)=false:=by
 unfold mulL at h
 rw[Bool.or_eq_false_iff]at h
 rw[← Rat.mul_is]
 exact zij h.1 h.2 (Int.mul_pos (by have:=x.den_pos;omega) (by have:=y.den_pos;omega))
theorem zpk{x y:Rat}(h:zk7 x y=false):zam (x+y)=false:=by
 unfold zk7 at h
 simp only[Bool.or_eq_false_iff]at h
 rw[← Rat.add_is]
 exact zij h.1.2 h.2 (Int.mul_pos (by have:=x.den_pos;omega) (by have:=y.den_pos;omega))
end
end Go.Proofs.YtapnkgdnflofbaaGreatDoor
