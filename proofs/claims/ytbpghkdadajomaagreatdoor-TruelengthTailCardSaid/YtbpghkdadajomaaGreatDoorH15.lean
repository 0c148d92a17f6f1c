/-
  Walks of package plan, at any plan: Check, Sides.; Walks of package front: the front of a side.
-/
import Derived.Test.YtbpghkdadajomaaGreatDoorHPT
import Derived.Test.YtbpghkdadajomaaGreatDoorH13
set_option maxRecDepth 100000
set_option maxHeartbeats 4000000
namespace Go.Proofs.YtbpghkdadajomaaGreatDoor
section
open Go.RowKit Go.Shelf Kp
attribute [local go_sem] Oper.semAt_some
def zk2(R:List (List Sd))(k:Nat):Nat:=((R.take k).map List.length).sum
theorem zl7{R:List (List Sd)}{k:Nat}(h:k<R.length):zk2 R (k+1)=zk2 R k+(ringAt R k).length:=by
 unfold zk2
 rw[List.take_succ_eq_append_getElem h,List.map_append,List.sum_append,zaG h]
 simp
theorem znq(R:List (List Sd)):zk2 R R.length=zaP R:=by unfold zk2 zaP;rw[List.take_length]
theorem zp2(R:List (List Sd))(k:Nat):zk2 R k≤zaP R:=by
 have:=congrArg (fun l:List (List Sd)=>(l.map List.length).sum) (List.take_append_drop k R)
 simp only[List.map_append,List.sum_append]at this
 unfold zk2 zaP
 omega
def zrM(u s c p j:Bool):Int:=if u then 2 else if s then 14 else if c then 15 else if !p || !j then 14 else 0
theorem zro{R:List (List Sd)}(hl:∀ k,k<R.length→0<(ringAt R k).length):¬ (R.any fun r=>decide (r.length=0))=true:=by
 intro h
 obtain⟨r,hr,h⟩:=List.any_eq_true.1 h
 obtain⟨k,hk,rfl⟩:=List.mem_iff_getElem.1 hr
 have:=hl k hk
 rw[zaG hk]at this
 rw[decide_eq_true_eq]at h
 omega
theorem zn5{R:List (List Sd)}{k:Nat}(hk:k<R.length)(h:(ringAt R k).length=0):zdX R=5:=by
 unfold zdX
 rw[if_pos]
 rw[zaG hk]at h
 exact List.any_eq_true.2 ⟨_,List.getElem_mem hk,by rw[decide_eq_true_eq];exact h⟩
theorem zn7{R:List (List Sd)}(h:zaP R=0):zdX R=5:=by
 unfold zdX
 split
 ·rfl
 ·rfl
theorem zn8{R:List (List Sd)}(hl:∀ k,k<R.length→0<(ringAt R k).length)(h:24<zaP R):zdX R=4:=by
 unfold zdX
 rw[if_neg (zro hl),if_neg (by omega),if_pos h]
theorem zn6{R:List (List Sd)}(hl:∀ k,k<R.length→0<(ringAt R k).length)(h0:0<zaP R)(h:zaP R≤24) :
  zdX R=zrM (R.flatten.any fun s=>!zam s) (R.any fun r=>!zar r) (zdy R) (zb4 R) (zdK R):=by
 unfold zdX zrM
 rw[if_neg (zro hl),if_neg (by omega),if_neg (by omega)]
theorem zqv{R:List (List Sd)}(hl:∀ r∈R,0<r.length):R.length≤zaP R:=by
 unfold zaP
 induction R with
 | nil=>simp
 | cons r R ih =>
  have h1:=hl r (by simp)
  have h2:=ih (fun s hs=>hl s (by simp[hs]))
  simp only[List.map_cons,List.sum_cons,List.length_cons]
  omega
theorem zpi{R:List (List Sd)}{r:List Sd}(h:r∈R):r.length≤zaP R:=by
 unfold zaP
 induction R with
 | nil=>cases h
 | cons s R ih =>
  simp only[List.map_cons,List.sum_cons]
  rcases List.mem_cons.1 h with rfl | h
  ·omega
  ·have:=ih h
   omega
theorem zjH(R:List (List Sd))(hn:R.length≤1000)(hcn:zaP R≤1000)(v:Value)(w:World)(hv:zf9 w v R) :
  Calls Tryz.prog 69 #[.agg #[v]] w fun e w'=>e=.returned (.int .i64 (zdX R))∧Q w w':=by
 have HV:=LH hv
 have HC0:Hid (∀ k,k<R.length→∃ a cap b o a2 c2,v=.slice a R.length cap∧a=some ⟨b,o,none⟩∧w.cell? ⟨b,o+k,none⟩=some (.slice a2 (ringAt R k).length c2)∧b<w.heap.size):=LH (fun k hk=>by
  obtain⟨a,cap,rfl,hc⟩:=hv
  obtain⟨b,o,vi,rfl,hb,hcell,hrs⟩:=hc k hk
  obtain⟨a2,c2,rfl,-⟩:=hrs
  rw[zaG hk]
  exact⟨_,_,_,_,_,_,rfl,rfl,hcell,hb⟩)
 have H5:Hid (∀ k,k<R.length→(ringAt R k).length=0→zdX R=5):=LH (fun k hk h=>zn5 hk h)
 have H0:Hid (zaP R=0→zdX R=5):=LH zn7
 have H4:Hid ((∀ k,k<R.length→0<(ringAt R k).length)→24<zaP R→zdX R=4):=LH zn8
 have HE:Hid ((∀ k,k<R.length→0<(ringAt R k).length)→0<zaP R→zaP R≤24→zdX R=zrM (R.flatten.any fun s=>!zam s) (R.any fun r=>!zar r) (zdy R) (zb4 R) (zdK R)):=LH zn6
 have HS1:Hid (∀ k,k<R.length→zk2 R (k+1)=zk2 R k+(ringAt R k).length):=LH (fun k hk=>zl7 hk)
 have HSl:Hid (∀ k,zk2 R k≤1000):=LH (fun k=>Nat.le_trans (zp2 R k) hcn)
 have HSe:=LH (znq R)
 have HS0:Hid (zk2 R 0=0):=LH rfl
 generalize zdX R=E at *
 obtain⟨a0,cap0,rfl,-⟩:=id hv
 have hRz:(R.length:Int)≤1000:=by omega
 have B:=Blk.new w [.slice a0 R.length cap0] 24
 have hq1:Q w (w.alloc (.cells [Value.slice a0 R.length cap0].toArray 24)):=(Below.refl _ w).alloc (Nat.le_refl _) _
 have c0:=B.cell 0
 simp only[List.getElem?_cons_zero]at c0
 obtain⟨W0,hW0⟩:∃ W0,w.alloc (.cells #[Value.slice a0 R.length cap0] 24)=W0:=⟨_,rfl⟩
 have hW0':w.alloc (.cells [Value.slice a0 R.length cap0].toArray 24)=W0:=hW0
 rw[hW0']at B hq1 c0
 clear hW0' hv hn
 go_enter Tryz.func69,Tryz.ntmps69
 go_wp2
 clear hW0
 go_loop [3,9] (fun c i=>∃ k:Nat,k≤R.length∧i=.int .i64 k∧c=.int .i64 (zk2 R k:Nat)∧Hid (∀ j,j<k→0<(ringAt R j).length)) (fun _ i=>R.length - (intOf i).toNat)
 case atStart=>exact⟨0,by omega,rfl,by rw[HS0.out];rfl,LH (fun j hj=>absurd hj (Nat.not_lt_zero _))⟩
 case round =>
  obtain⟨k,hk,rfl,rfl,HA⟩:=hrel
  by_cases hlt:k<R.length
  ·obtain⟨a',cap',b,o,a2,c2,he,ha,hcell,hbl⟩:=HC0.out k hlt
   injection he with he1 he2 he3
   subst he1 he3
   subst ha
   have hcell:=ze hq1 hcell
   have hs:=HS1.out k hlt
   have hp1:=HSl.out (k+1)
   have H5k:=LH (H5.out k hlt)
   have HAk:Hid (0<(ringAt R k).length→∀ j,j<k+1→0<(ringAt R j).length):=LH (fun h j hj=>by
    rcases Nat.lt_or_ge j k with h1 | h1
    ·exact HA.out j h1
    ·obtain rfl:j=k:=by omega
     exact h)
   have HSk:=LH hs
   have w1i:=Go.IntWalk.i64_in ((zk2 R k:Int)+((ringAt R k).length:Int)) (by omega)
   have hkz:(k:Int)<R.length:=by omega
   have hk0:(0:Int)≤k:=by omega
   clear hs hp1 H5 H0 H4 HE
   generalize zk2 R k=p at *
   generalize (ringAt R k).length=n at *
   rcases Nat.eq_zero_or_pos n with h0 | h0
   ·have h5:=H5k.out h0
    subst h5
    subst h0
    clear HAk HSk H5k w1i
    go_wp2
    go_ret
    exact⟨rfl,hq1⟩
   ·have HB:=LH (HAk.out h0)
    have hn0:¬ n=0:=by omega
    have hn1:((n:Int) == 0)=false:=by rw[beq_eq_false_iff_ne];omega
    clear HAk H5k
    go_wp2
    go_round
    case rel=>exact⟨k+1,by omega,by go_num,by rw[HSk.out];go_num,HB⟩
    case measure=>simp[intOf];omega
  ·obtain rfl:k=R.length:=by omega
   rw[HSe.out]
   have hA:=HA.out
   have hlen:∀ r∈R,0<r.length:=fun r hr=>by
    obtain⟨k,hk,rfl⟩:=List.mem_iff_getElem.1 hr
    rw[← zaG hk]
    exact hA k hk
   clear HC0 HS1 HSl HSe HS0 H5 hlt hk HA
   by_cases hz:zaP R=0
   ·have h5:=H0.out hz
    subst h5
    rw[hz]
    clear H0 H4 HE hA hlen hz hcn
    go_wp2
    go_ret
    exact⟨rfl,hq1⟩
   by_cases hm:24<zaP R
   ·have h4:=H4.out hA hm
    subst h4
    have hz1:((zaP R:Int) == 0)=false:=by rw[beq_eq_false_iff_ne];omega
    have hm1:decide ((24:Int)<(zaP R:Int))=true:=by rw[decide_eq_true_eq];omega
    clear H0 H4 HE hA hlen
    generalize zaP R=cf at *
    go_wp2
    go_ret
    exact⟨rfl,hq1⟩
   have HQ:=LH (HE.out hA (by omega) (by omega))
   have hz1:((zaP R:Int) == 0)=false:=by rw[beq_eq_false_iff_ne];omega
   have hm1:decide ((24:Int)<(zaP R:Int))=false:=by rw[decide_eq_false_iff_not];omega
   have hfl:=count_flatten R
   have hR:=zqv hlen
   have hR0:0<R.length:=by
    rcases Nat.eq_zero_or_pos R.length with h | h
    ·rw[List.length_eq_zero_iff.1 h]at hz
     exact absurd rfl hz
    ·exact h
   have hln:∀ r∈R,0<r.length∧r.length≤1000:=fun r hr=>⟨hlen r hr,Nat.le_trans (zpi hr) hcn⟩
   have HC:Hid (∀ W,Q w W→Calls Tryz.prog 70 #[.slice a0 R.length cap0] W fun e w'=>∃ v',e=.returned v'∧Q W w'∧zcS 7 sdC w' v' R.flatten):=LH (fun W hq=>zhy R hlen (by omega) (by omega) (by omega) _ W (HV.out.keep hq))
   have HS:Hid (∀ v' W,zcS 7 sdC W v' R.flatten→Calls Tryz.prog 122 #[v',.func (.func 123) #[] #[]] W fun e w'=>e=.returned (.bool (R.flatten.any fun s=>!zam s))∧Q W w'):=LH (fun v' W hs=>by
    obtain⟨a,cap,rfl,hx⟩:=id hs
    obtain⟨-,hrow,hba⟩:=zcS.at hs
    exact zjy R.flatten (by omega) a cap W hrow (fun k hk=>hba k hk (by omega)))
   have hok:(R.flatten.any fun s=>!zam s)=false→∀ r∈R,∀ i,i<r.length→ArnOk (arn r i):=fun h r hr i hi=>zrg (fun s hs=>zrm (by
    have:=List.any_eq_false.1 h s (List.mem_flatten.2 ⟨r,hr,hs⟩)
    simpa using this)) i hi
   have HR:Hid ((R.flatten.any fun s=>!zam s)=false→∀ W,Q w W→Calls Tryz.prog 125 #[.slice a0 R.length cap0,.func (.func 126) #[] #[]] W fun e w'=>e=.returned (.bool (R.any fun r=>!zar r))∧Q W w'):=LH (fun h W hq=>zjz R (by omega) hln (hok h) _ W (HV.out.keep hq))
   have HX:Hid (∀ W,Q w W→Calls Tryz.prog 128 #[.slice a0 R.length cap0] W fun e w'=>e=.returned (.bool (zdy R))∧Q W w'):=LH (fun W hq=>callsIn_wide.1 (zmU R (by omega) hln hcn _ W (HV.out.keep hq) hR0))
   have HP:Hid ((R.flatten.any fun s=>!zam s)=false→∀ W,Q w W→Calls Tryz.prog 129 #[.slice a0 R.length cap0] W fun e w'=>e=.returned (.bool (zb4 R))∧Q W w'):=LH (fun h W hq=>zmB R (by omega) hln (hok h) _ W (HV.out.keep hq))
   have HJ:Hid ((R.flatten.any fun s=>!zam s)=false→∀ W,Q w W→Calls Tryz.prog 130 #[.slice a0 R.length cap0] W fun e w'=>e=.returned (.bool (zdK R))∧Q W w'):=LH (fun h W hq=>callsIn_wide.1 (zoo R (by omega) hln (hok h) _ W (HV.out.keep hq) hR0))
   clear H0 H4 HE hA hlen HV hfl hln hok hz hm hR hcn
   generalize (R.flatten.any fun s=>!zam s)=ru at *
   generalize (R.any fun r=>!zar r)=rs at *
   generalize zdy R=rc at *
   generalize zb4 R=rp at *
   generalize zdK R=rj at *
   generalize zaP R=cf at *
   generalize R.flatten=F at *
   generalize R.length=n at *
   go_wp2_with fail
   refine(HC.out _ hq1).mono ?_
   rintro e w2⟨v',rfl,hq,hs⟩
   replace B:=B.keep hq B.lt
   replace c0:=B.cell 0
   simp only[List.getElem?_cons_zero]at c0
   have hq2:=Q.trans hq1 hq
   clear hq hq1 HC
   go_wp2_with fail
   refine(HS.out _ _ hs).mono ?_
   rintro e w3⟨rfl,hq⟩
   replace B:=B.keep hq B.lt
   replace c0:=B.cell 0
   simp only[List.getElem?_cons_zero]at c0
   have hq3:=Q.trans hq2 hq
   clear hq hq2 hs HS
   cases ru
   case true =>
    obtain rfl:E=2:=HQ.out
    clear HR HX HP HJ HQ
    go_wp2
    go_ret
    exact⟨rfl,hq3⟩
   have HR1:=LH (HR.out rfl)
   have HP1:=LH (HP.out rfl)
   have HJ1:=LH (HJ.out rfl)
   clear HR HP HJ
   go_wp2_with fail
   refine(HR1.out _ hq3).mono ?_
   rintro e w4⟨rfl,hq⟩
   replace B:=B.keep hq B.lt
   replace c0:=B.cell 0
   simp only[List.getElem?_cons_zero]at c0
   have hq4:=Q.trans hq3 hq
   clear hq hq3 HR1
   cases rs
   case true =>
    obtain rfl:E=14:=HQ.out
    clear HX HP1 HJ1 HQ
    go_wp2
    go_ret
    exact⟨rfl,hq4⟩
   go_wp2_with fail
   refine(HX.out _ hq4).mono ?_
   rintro e w5⟨rfl,hq⟩
   replace B:=B.keep hq B.lt
   replace c0:=B.cell 0
   simp only[List.getElem?_cons_zero]at c0
   have hq5:=Q.trans hq4 hq
   clear hq hq4 HX
   cases rc
   case true =>
    obtain rfl:E=15:=HQ.out
    clear HP1 HJ1 HQ
    go_wp2
    go_ret
    exact⟨rfl,hq5⟩
   go_wp2_with fail
   refine(HP1.out _ hq5).mono ?_
   rintro e w6⟨rfl,hq⟩
   replace B:=B.keep hq B.lt
   replace c0:=B.cell 0
   simp only[List.getElem?_cons_zero]at c0
   have hq6:=Q.trans hq5 hq
   clear hq hq5 HP1
   cases rp
   case false =>
    obtain rfl:E=14:=HQ.out
    clear HJ1 HQ
    go_wp2
    go_ret
    exact⟨rfl,hq6⟩
   go_wp2_with fail
   refine(HJ1.out _ hq6).mono ?_
   rintro e w7⟨rfl,hq⟩
   have hq7:=Q.trans hq6 hq
   cases rj
   case false =>
    obtain rfl:E=14:=HQ.out
    clear HQ
    go_wp2
    go_ret
    exact⟨rfl,hq7⟩
   obtain rfl:E=0:=HQ.out
   clear HQ
   go_wp2
   go_ret
   exact⟨rfl,hq7⟩
theorem zjG(R:List (List Sd))(h:zdX R=0)(hn:R.length≤1000)(v:Value)(w:World)(hv:zf9 w v R) :
  Calls Tryz.prog 25 #[.agg #[v]] w fun e w'=>∃ v',e=.returned (.tuple #[v',.int .i64 0])∧Q w w'∧zcS 7 sdC w' v' R.flatten:=by
 have ok:=zm8 h
 have hfl:=count_flatten R
 have hle:=ok.le
 have hp:=ok.pos
 have HK:Hid (∀ W,Q w W→Calls Tryz.prog 69 #[.agg #[v]] W fun e w'=>e=.returned (.int .i64 0)∧Q W w'):=LH (fun W hq=>by
  have:=zjH R hn (by omega) v W (hv.keep hq)
  rw[h]at this
  exact this)
 have HC:Hid (∀ W,Q w W→Calls Tryz.prog 70 #[v] W fun e w'=>∃ v',e=.returned v'∧Q W w'∧zcS 7 sdC w' v' R.flatten):=LH (fun W hq=>zhy R (fun r hr=>by have:=ok.four r hr;omega) (by omega) (by omega) hn _ W (hv.keep hq))
 obtain⟨a0,cap0,rfl,-⟩:=hv
 clear ok hfl hle hp h hn
 have B:=Blk.new w [.slice a0 R.length cap0] 24
 have hq1:Q w (w.alloc (.cells [Value.slice a0 R.length cap0].toArray 24)):=(Below.refl _ w).alloc (Nat.le_refl _) _
 have c0:=B.cell 0
 simp only[List.getElem?_cons_zero]at c0
 generalize R.length=n at *
 generalize R.flatten=F at *
 go_enter Tryz.func25,Tryz.ntmps25
 go_wp2_with fail
 refine(HK.out _ hq1).mono ?_
 rintro e w2⟨rfl,hq⟩
 replace B:=B.keep hq B.lt
 replace c0:=B.cell 0
 simp only[List.getElem?_cons_zero]at c0
 have hq2:=Q.trans hq1 hq
 clear hq hq1 HK
 go_wp2_with fail
 refine(HC.out _ hq2).mono ?_
 rintro e w3⟨v',rfl,hq,hs⟩
 have hq3:=Q.trans hq2 hq
 clear hq hq2 HC
 go_wp2
 go_ret2
 exact⟨_,rfl,hq3,hs⟩
end
section
open Go.RowKit Go.Shelf Kp
attribute [local go_sem] Oper.semAt_some
theorem znl(s n:Sd):zh1 s n<4:=by
 unfold zh1
 split
 ·omega
 ·split
  ·omega
  ·split <;> omega
theorem Env.dirAt{w:World}(h:Env w){k:Nat}(hk:k<4):w.cell? ⟨1,k*2,none⟩=some (.bool (upF k))∧w.cell? ⟨1,k*2+1,none⟩=some (.int .i64 (zsR k)):=by
 obtain⟨t,f,hd⟩:=h.dirs
 have hc:∀ i,w.cell? ⟨1,i,none⟩=zq6[i]?:=fun i=>by simp[World.cell?,hd]
 rw[hc,hc]
 match k,hk with
 | 0,_=>exact⟨rfl,rfl⟩
 | 1,_=>exact⟨rfl,rfl⟩
 | 2,_=>exact⟨rfl,rfl⟩
 | 3,_=>exact⟨rfl,rfl⟩
theorem zc2{W:World}{b:Nat}{x y z u v:Value}(h:Blk W b [x,y,z,u,v] 76)(fn:Func)(m:Nat)(hf:fn.results=#[.cell m 76])(tmps:Array Value)(hp:tmps.getD m undef=.pointer (some ⟨b,0,none⟩)) :
  (results fn tmps).run Tryz.prog W=.ok (.agg #[x,y,z,u,v]) W:=by
 exact results_cell_row hf tmps W b _ #[x,y,z,u,v] (0,0) _ hp h Tryz.underlying76 rfl (by kernel_rfl)
theorem zqU(s n:Sd)(hs:Rgd s)(w:World)(hE:Env w) :
  Calls Tryz.prog 71 #[.agg (sdC s).toArray,.agg (sdC n).toArray] w fun e w'=>e=.returned (.agg (frC (zjT s n)).toArray)∧Q w w':=by
 have HH:=LH (fun w (_:Env w)=>zkZ s n w)
 have HP:=LH (fun w hw=>zaH s.plate 1 (by decide) (by have:=hs.p0;have:=hs.p1;omega) (by decide) w hw)
 rw[zfn]at HP
 have HD:Hid (∀ W,Env W→W.cell? ⟨1,zh1 s n*2,none⟩=some (.bool (upF (zh1 s n)))∧W.cell? ⟨1,zh1 s n*2+1,none⟩=some (.int .i64 (zsR (zh1 s n)))):=LH (fun W hW=>hW.dirAt (znl s n))
 have hk4:=znl s n
 obtain⟨SP,hSP⟩:∃ SP,za (if s.gable then(0:Rat)else Rat.divInt s.run s.rise)=SP:=⟨_,rfl⟩
 have H1:Hid (s.gable=true→SP=[48]):=LH (fun hg=>by rw[← hSP,if_pos hg];exact zI)
 have HN:Hid (s.gable=false→∃ k:Nat,s.rise=k∧∀ W,Env W→Calls Tryz.prog 10 #[.int .i64 s.run,.int .i64 (k:Nat)] W fun e w'=>e=.returned (.tuple #[.string ⟨SP.toArray⟩,.int .i64 0])∧Q W w'):=LH (fun hg=>by
  rw[← hSP,hg]
  have h1:=hs.n hg
  obtain⟨k,hk⟩:=Int.eq_ofNat_of_zero_le (show 0≤s.rise by omega)
  refine⟨k,hk,fun W hW=>?_⟩
  rw[hk]
  exact zaH s.run k (by omega) (by omega) (by omega) W hW)
 unfold zjT frC
 simp only[hSP]
 clear hSP
 generalize zh1 s n=hd at *
 generalize upF hd=up at *
 generalize zsR hd=dr at *
 obtain⟨x1,y1,r1,n1,g1,p1,o1⟩:=s
 obtain⟨x2,y2,r2,n2,g2,p2,o2⟩:=n
 simp only at HN H1 HP ⊢
 clear hs
 generalize za (p1:Rat)=PL at *
 obtain⟨co,hco⟩:∃ co,(if up=true then x1 else y1)=co:=⟨_,rfl⟩
 rw[hco]
 have hdz:(hd:Int)<4:=by omega
 have hd0:(0:Int)≤hd:=by omega
 have BS:=((Blk.new w [.int .i64 x1,.int .i64 y1,.int .i64 r1,.int .i64 n1,.bool g1,.int .i64 p1,.int .i64 o1] 36).alloc (.cells #[.int .i64 x2,.int .i64 y2,.int .i64 r2,.int .i64 n2,.bool g2,.int .i64 p2,.int .i64 o2] 36)).alloc (.cells #[.bool false,.int .i64 0,.int .i64 0,.string ⟨#[]⟩,.string ⟨#[]⟩] 76)
 have BZ:=Blk.new ((w.alloc (.cells #[.int .i64 x1,.int .i64 y1,.int .i64 r1,.int .i64 n1,.bool g1,.int .i64 p1,.int .i64 o1] 36)).alloc (.cells #[.int .i64 x2,.int .i64 y2,.int .i64 r2,.int .i64 n2,.bool g2,.int .i64 p2,.int .i64 o2] 36)) [.bool false,.int .i64 0,.int .i64 0,.string ⟨#[]⟩,.string ⟨#[]⟩] 76
 rw[World.size_alloc,World.size_alloc]at BZ
 unfold sdC at *
 simp only
 have BN:=(Blk.new (w.alloc (.cells #[.int .i64 x1,.int .i64 y1,.int .i64 r1,.int .i64 n1,.bool g1,.int .i64 p1,.int .i64 o1] 36)) [.int .i64 x2,.int .i64 y2,.int .i64 r2,.int .i64 n2,.bool g2,.int .i64 p2,.int .i64 o2] 36).alloc (.cells #[.bool false,.int .i64 0,.int .i64 0,.string ⟨#[]⟩,.string ⟨#[]⟩] 76)
 rw[World.size_alloc]at BN
 obtain⟨W0,hW0⟩:∃ W0,((w.alloc (.cells #[.int .i64 x1,.int .i64 y1,.int .i64 r1,.int .i64 n1,.bool g1,.int .i64 p1,.int .i64 o1] 36)).alloc (.cells #[.int .i64 x2,.int .i64 y2,.int .i64 r2,.int .i64 n2,.bool g2,.int .i64 p2,.int .i64 o2] 36)).alloc (.cells #[.bool false,.int .i64 0,.int .i64 0,.string ⟨#[]⟩,.string ⟨#[]⟩] 76)=W0:=⟨_,rfl⟩
 have hq0:Q w W0:=by rw[← hW0];exact bt
 have hEw:=hE.ofQ hq0
 have hs0:W0.heap.size=w.heap.size+3:=by rw[← hW0];simp
 rw[hW0]at BS BN BZ
 clear hE
 have hE:=hEw
 clear hEw
 have hQ0:=Q.refl W0
 replace s0:=BS.cell 0
 replace s1:=BS.cell 1
 replace s2:=BS.cell 2
 replace s3:=BS.cell 3
 replace s4:=BS.cell 4
 replace s5:=BS.cell 5
 replace s6:=BS.cell 6
 simp only[zs4,zs5]at s0 s1 s2 s3 s4 s5 s6
 replace lBS:=BS.lt
 replace t0:=BN.cell 0
 replace t1:=BN.cell 1
 replace t2:=BN.cell 2
 replace t3:=BN.cell 3
 replace t4:=BN.cell 4
 replace t5:=BN.cell 5
 replace t6:=BN.cell 6
 simp only[zs4,zs5]at t0 t1 t2 t3 t4 t5 t6
 replace lBN:=BN.lt
 replace z0:=BZ.cell 0
 replace z1:=BZ.cell 1
 replace z2:=BZ.cell 2
 replace z3:=BZ.cell 3
 replace z4:=BZ.cell 4
 simp only[zs4,zs5]at z0 z1 z2 z3 z4
 replace lBZ:=BZ.lt
 go_enter Tryz.func71,Tryz.ntmps71
 go_wp2_with fail
 clear hW0
 refine(HH.out _ (hE.ofQ bt)).mono ?_
 rintro e Y1⟨rfl,hq1⟩
 have hs1:Q W0 Y1:=Q.trans bt hq1
 have hQ1:Q W0 Y1:=Q.trans hQ0 hs1
 replace BS:=BS.keep hs1 BS.lt
 replace s0:=BS.cell 0
 replace s1:=BS.cell 1
 replace s2:=BS.cell 2
 replace s3:=BS.cell 3
 replace s4:=BS.cell 4
 replace s5:=BS.cell 5
 replace s6:=BS.cell 6
 simp only[zs4,zs5]at s0 s1 s2 s3 s4 s5 s6
 replace lBS:=BS.lt
 replace BN:=BN.keep hs1 BN.lt
 replace t0:=BN.cell 0
 replace t1:=BN.cell 1
 replace t2:=BN.cell 2
 replace t3:=BN.cell 3
 replace t4:=BN.cell 4
 replace t5:=BN.cell 5
 replace t6:=BN.cell 6
 simp only[zs4,zs5]at t0 t1 t2 t3 t4 t5 t6
 replace lBN:=BN.lt
 replace BZ:=BZ.keep hs1 BZ.lt
 replace z0:=BZ.cell 0
 replace z1:=BZ.cell 1
 replace z2:=BZ.cell 2
 replace z3:=BZ.cell 3
 replace z4:=BZ.cell 4
 simp only[zs4,zs5]at z0 z1 z2 z3 z4
 replace lBZ:=BZ.lt
 obtain⟨d0,d1⟩:=HD.out _ (hE.ofQ hQ1)
 clear BN lBN t0 t1 t2 t3 t4 t5 t6
 have lY:=hQ1.size
 cases up <;> cases g1
 case false.false =>
  obtain rfl:y1=co:=hco
  have F:=Blk.new (Y1.alloc (.cells #[.bool false,.int .i64 dr] 196)) [.bool false,.int .i64 y1,.int .i64 dr,.string ⟨#[48]⟩,.string ⟨#[]⟩] 76
  rw[World.size_alloc]at F
  obtain⟨k,rfl,hN⟩:=HN.out rfl
  have HO:=LH hN
  clear hN
  clear HN HD HH H1
  have F1:=F
  clear F
  have BS1:=BS
  have BZ1:=BZ
  go_wp2_with fail
  refine(HO.out _ (hE.ofQ bt)).mono ?_
  rintro e Y2⟨rfl,hq2⟩
  have hs2:Q Y1 Y2:=Q.trans bt hq2
  replace BS:=BS.keep hs2 BS.lt
  replace BZ:=BZ.keep hs2 BZ.lt
  replace s0:=BS.cell 0
  replace s1:=BS.cell 1
  replace s2:=BS.cell 2
  replace s3:=BS.cell 3
  replace s4:=BS.cell 4
  replace s5:=BS.cell 5
  replace s6:=BS.cell 6
  replace z0:=BZ.cell 0
  replace z1:=BZ.cell 1
  replace z2:=BZ.cell 2
  replace z3:=BZ.cell 3
  replace z4:=BZ.cell 4
  simp only[zs4,zs5]at s0 s1 s2 s3 s4 s5 s6 z0 z1 z2 z3 z4
  replace F1:=F1.keep hq2 F1.lt
  have f0:=F1.cell 0
  have f1:=F1.cell 1
  have f2:=F1.cell 2
  have f3:=F1.cell 3
  have f4:=F1.cell 4
  simp only[zs4,zs5]at f0 f1 f2 f3 f4
  have g3:=F1.frozen 3
  have F2:=F1.set 3 (.string ⟨SP.toArray⟩)
  simp only[List.set_cons_zero,List.set_cons_succ]at F2
  clear HO
  clear F1
  go_wp2_with fail
  clear f0 f1 f2 f3 f4 g3
  have hB2:Below Y1.heap.size Y1 (Y2.setCell ⟨Y1.heap.size+1,3,none⟩ (.string ⟨SP.toArray⟩)):=hs2.setCell (p:=⟨Y1.heap.size+1,3,none⟩) (by simp) _
  have hQ2s:Q W0 (Y2.setCell ⟨Y1.heap.size+1,3,none⟩ (.string ⟨SP.toArray⟩)):=Below.trans hQ1 (hB2.mono lY)
  refine(HP.out _ (hE.ofQ hQ2s)).mono ?_
  rintro e Y3⟨rfl,hq3⟩
  have hB3:Below Y1.heap.size Y1 Y3:=Below.trans hB2 (hq3.mono hB2.size)
  have hQ3:Q W0 Y3:=Below.trans hQ1 (hB3.mono lY)
  replace BS:=BS1.keep hB3 BS1.lt
  replace BZ:=BZ1.keep hB3 BZ1.lt
  replace s0:=BS.cell 0
  replace s1:=BS.cell 1
  replace s2:=BS.cell 2
  replace s3:=BS.cell 3
  replace s4:=BS.cell 4
  replace s5:=BS.cell 5
  replace s6:=BS.cell 6
  replace z0:=BZ.cell 0
  replace z1:=BZ.cell 1
  replace z2:=BZ.cell 2
  replace z3:=BZ.cell 3
  replace z4:=BZ.cell 4
  simp only[zs4,zs5]at s0 s1 s2 s3 s4 s5 s6 z0 z1 z2 z3 z4
  clear BS1 BZ1 hB2 hQ2s
  replace F2:=F2.keep hq3 F2.lt
  have f0:=F2.cell 0
  have f1:=F2.cell 1
  have f2:=F2.cell 2
  have f3:=F2.cell 3
  have f4:=F2.cell 4
  simp only[zs4,zs5]at f0 f1 f2 f3 f4
  have g4:=F2.frozen 4
  have k0:=BZ.frozen 0
  have k1:=BZ.frozen 1
  have k2:=BZ.frozen 2
  have k3:=BZ.frozen 3
  have k4:=BZ.frozen 4
  have hne:Y1.heap.size+1≠w.heap.size+1+1:=by omega
  have hne2:w.heap.size+1+1≠Y1.heap.size+1:=by omega
  have hy:w.heap.size≤Y1.heap.size+1:=by omega
  have hy2:w.heap.size≤w.heap.size+1+1:=by omega
  generalize Y1.heap.size+1=bf at *
  generalize w.heap.size+1+1=bz at *
  have Z:=((((((BZ.setOther hne 4 (.string ⟨PL.toArray⟩)).set 0 (.bool false)).set 1 (.int .i64 y1)).set 2 (.int .i64 dr)).set 3 (.string ⟨SP.toArray⟩)).set 4 (.string ⟨PL.toArray⟩))
  simp only[List.set_cons_zero,List.set_cons_succ]at Z
  have hQe:=((((((Q.trans hq0 hQ3).setCell (p:=⟨bf,4,none⟩) hy (.string ⟨PL.toArray⟩)).setCell (p:=⟨bz,0,none⟩) hy2 (.bool false)).setCell (p:=⟨bz,1,none⟩) hy2 (.int .i64 y1)).setCell (p:=⟨bz,2,none⟩) hy2 (.int .i64 dr)).setCell (p:=⟨bz,3,none⟩) hy2 (.string ⟨SP.toArray⟩)).setCell (p:=⟨bz,4,none⟩) hy2 (.string ⟨PL.toArray⟩)
  clear HP F2
  have HR:=zc2 Z
  go_wp2_with (exact bodyPost_ret (HR Tryz.f71 4 rfl _ rfl) rfl ⟨rfl,hQe⟩)
 case false.true =>
  obtain rfl:y1=co:=hco
  have F:=Blk.new (Y1.alloc (.cells #[.bool false,.int .i64 dr] 196)) [.bool false,.int .i64 y1,.int .i64 dr,.string ⟨#[48]⟩,.string ⟨#[]⟩] 76
  rw[World.size_alloc]at F
  obtain rfl:=H1.out rfl
  clear HN HD HH H1
  have F1:=F
  clear F
  have F2:=F1
  clear F1
  go_wp2_with fail
  refine(HP.out _ (hE.ofQ bt)).mono ?_
  rintro e Y3⟨rfl,hq3⟩
  have hB3:Q Y1 Y3:=Q.trans bt hq3
  have hQ3:Q W0 Y3:=Q.trans hQ1 hB3
  replace BS:=BS.keep hB3 BS.lt
  replace BZ:=BZ.keep hB3 BZ.lt
  replace s0:=BS.cell 0
  replace s1:=BS.cell 1
  replace s2:=BS.cell 2
  replace s3:=BS.cell 3
  replace s4:=BS.cell 4
  replace s5:=BS.cell 5
  replace s6:=BS.cell 6
  replace z0:=BZ.cell 0
  replace z1:=BZ.cell 1
  replace z2:=BZ.cell 2
  replace z3:=BZ.cell 3
  replace z4:=BZ.cell 4
  simp only[zs4,zs5]at s0 s1 s2 s3 s4 s5 s6 z0 z1 z2 z3 z4
  replace F2:=F2.keep hq3 F2.lt
  have f0:=F2.cell 0
  have f1:=F2.cell 1
  have f2:=F2.cell 2
  have f3:=F2.cell 3
  have f4:=F2.cell 4
  simp only[zs4,zs5]at f0 f1 f2 f3 f4
  have g4:=F2.frozen 4
  have k0:=BZ.frozen 0
  have k1:=BZ.frozen 1
  have k2:=BZ.frozen 2
  have k3:=BZ.frozen 3
  have k4:=BZ.frozen 4
  have hne:Y1.heap.size+1≠w.heap.size+1+1:=by omega
  have hne2:w.heap.size+1+1≠Y1.heap.size+1:=by omega
  have hy:w.heap.size≤Y1.heap.size+1:=by omega
  have hy2:w.heap.size≤w.heap.size+1+1:=by omega
  generalize Y1.heap.size+1=bf at *
  generalize w.heap.size+1+1=bz at *
  have Z:=((((((BZ.setOther hne 4 (.string ⟨PL.toArray⟩)).set 0 (.bool false)).set 1 (.int .i64 y1)).set 2 (.int .i64 dr)).set 3 (.string ⟨#[48]⟩)).set 4 (.string ⟨PL.toArray⟩))
  simp only[List.set_cons_zero,List.set_cons_succ]at Z
  have hQe:=((((((Q.trans hq0 hQ3).setCell (p:=⟨bf,4,none⟩) hy (.string ⟨PL.toArray⟩)).setCell (p:=⟨bz,0,none⟩) hy2 (.bool false)).setCell (p:=⟨bz,1,none⟩) hy2 (.int .i64 y1)).setCell (p:=⟨bz,2,none⟩) hy2 (.int .i64 dr)).setCell (p:=⟨bz,3,none⟩) hy2 (.string ⟨#[48]⟩)).setCell (p:=⟨bz,4,none⟩) hy2 (.string ⟨PL.toArray⟩)
  clear HP F2
  have HR:=zc2 Z
  go_wp2_with (exact bodyPost_ret (HR Tryz.f71 4 rfl _ rfl) rfl ⟨rfl,hQe⟩)
 case true.false =>
  obtain rfl:x1=co:=hco
  have F:=Blk.new (Y1.alloc (.cells #[.bool true,.int .i64 dr] 196)) [.bool true,.int .i64 x1,.int .i64 dr,.string ⟨#[48]⟩,.string ⟨#[]⟩] 76
  rw[World.size_alloc]at F
  obtain⟨k,rfl,hN⟩:=HN.out rfl
  have HO:=LH hN
  clear hN
  clear HN HD HH H1
  have F1:=F
  clear F
  have BS1:=BS
  have BZ1:=BZ
  go_wp2_with fail
  refine(HO.out _ (hE.ofQ bt)).mono ?_
  rintro e Y2⟨rfl,hq2⟩
  have hs2:Q Y1 Y2:=Q.trans bt hq2
  replace BS:=BS.keep hs2 BS.lt
  replace BZ:=BZ.keep hs2 BZ.lt
  replace s0:=BS.cell 0
  replace s1:=BS.cell 1
  replace s2:=BS.cell 2
  replace s3:=BS.cell 3
  replace s4:=BS.cell 4
  replace s5:=BS.cell 5
  replace s6:=BS.cell 6
  replace z0:=BZ.cell 0
  replace z1:=BZ.cell 1
  replace z2:=BZ.cell 2
  replace z3:=BZ.cell 3
  replace z4:=BZ.cell 4
  simp only[zs4,zs5]at s0 s1 s2 s3 s4 s5 s6 z0 z1 z2 z3 z4
  replace F1:=F1.keep hq2 F1.lt
  have f0:=F1.cell 0
  have f1:=F1.cell 1
  have f2:=F1.cell 2
  have f3:=F1.cell 3
  have f4:=F1.cell 4
  simp only[zs4,zs5]at f0 f1 f2 f3 f4
  have g3:=F1.frozen 3
  have F2:=F1.set 3 (.string ⟨SP.toArray⟩)
  simp only[List.set_cons_zero,List.set_cons_succ]at F2
  clear HO
  clear F1
  go_wp2_with fail
  clear f0 f1 f2 f3 f4 g3
  have hB2:Below Y1.heap.size Y1 (Y2.setCell ⟨Y1.heap.size+1,3,none⟩ (.string ⟨SP.toArray⟩)):=hs2.setCell (p:=⟨Y1.heap.size+1,3,none⟩) (by simp) _
  have hQ2s:Q W0 (Y2.setCell ⟨Y1.heap.size+1,3,none⟩ (.string ⟨SP.toArray⟩)):=Below.trans hQ1 (hB2.mono lY)
  refine(HP.out _ (hE.ofQ hQ2s)).mono ?_
  rintro e Y3⟨rfl,hq3⟩
  have hB3:Below Y1.heap.size Y1 Y3:=Below.trans hB2 (hq3.mono hB2.size)
  have hQ3:Q W0 Y3:=Below.trans hQ1 (hB3.mono lY)
  replace BS:=BS1.keep hB3 BS1.lt
  replace BZ:=BZ1.keep hB3 BZ1.lt
  replace s0:=BS.cell 0
  replace s1:=BS.cell 1
  replace s2:=BS.cell 2
  replace s3:=BS.cell 3
  replace s4:=BS.cell 4
  replace s5:=BS.cell 5
  replace s6:=BS.cell 6
  replace z0:=BZ.cell 0
  replace z1:=BZ.cell 1
  replace z2:=BZ.cell 2
  replace z3:=BZ.cell 3
  replace z4:=BZ.cell 4
  simp only[zs4,zs5]at s0 s1 s2 s3 s4 s5 s6 z0 z1 z2 z3 z4
  clear BS1 BZ1 hB2 hQ2s
  replace F2:=F2.keep hq3 F2.lt
  have f0:=F2.cell 0
  have f1:=F2.cell 1
  have f2:=F2.cell 2
  have f3:=F2.cell 3
  have f4:=F2.cell 4
  simp only[zs4,zs5]at f0 f1 f2 f3 f4
  have g4:=F2.frozen 4
  have k0:=BZ.frozen 0
  have k1:=BZ.frozen 1
  have k2:=BZ.frozen 2
  have k3:=BZ.frozen 3
  have k4:=BZ.frozen 4
  have hne:Y1.heap.size+1≠w.heap.size+1+1:=by omega
  have hne2:w.heap.size+1+1≠Y1.heap.size+1:=by omega
  have hy:w.heap.size≤Y1.heap.size+1:=by omega
  have hy2:w.heap.size≤w.heap.size+1+1:=by omega
  generalize Y1.heap.size+1=bf at *
  generalize w.heap.size+1+1=bz at *
  have Z:=((((((BZ.setOther hne 4 (.string ⟨PL.toArray⟩)).set 0 (.bool true)).set 1 (.int .i64 x1)).set 2 (.int .i64 dr)).set 3 (.string ⟨SP.toArray⟩)).set 4 (.string ⟨PL.toArray⟩))
  simp only[List.set_cons_zero,List.set_cons_succ]at Z
  have hQe:=((((((Q.trans hq0 hQ3).setCell (p:=⟨bf,4,none⟩) hy (.string ⟨PL.toArray⟩)).setCell (p:=⟨bz,0,none⟩) hy2 (.bool true)).setCell (p:=⟨bz,1,none⟩) hy2 (.int .i64 x1)).setCell (p:=⟨bz,2,none⟩) hy2 (.int .i64 dr)).setCell (p:=⟨bz,3,none⟩) hy2 (.string ⟨SP.toArray⟩)).setCell (p:=⟨bz,4,none⟩) hy2 (.string ⟨PL.toArray⟩)
  clear HP F2
  have HR:=zc2 Z
  go_wp2_with (exact bodyPost_ret (HR Tryz.f71 4 rfl _ rfl) rfl ⟨rfl,hQe⟩)
 case true.true =>
  obtain rfl:x1=co:=hco
  have F:=Blk.new (Y1.alloc (.cells #[.bool true,.int .i64 dr] 196)) [.bool true,.int .i64 x1,.int .i64 dr,.string ⟨#[48]⟩,.string ⟨#[]⟩] 76
  rw[World.size_alloc]at F
  obtain rfl:=H1.out rfl
  clear HN HD HH H1
  have F1:=F
  clear F
  have F2:=F1
  clear F1
  go_wp2_with fail
  refine(HP.out _ (hE.ofQ bt)).mono ?_
  rintro e Y3⟨rfl,hq3⟩
  have hB3:Q Y1 Y3:=Q.trans bt hq3
  have hQ3:Q W0 Y3:=Q.trans hQ1 hB3
  replace BS:=BS.keep hB3 BS.lt
  replace BZ:=BZ.keep hB3 BZ.lt
  replace s0:=BS.cell 0
  replace s1:=BS.cell 1
  replace s2:=BS.cell 2
  replace s3:=BS.cell 3
  replace s4:=BS.cell 4
  replace s5:=BS.cell 5
  replace s6:=BS.cell 6
  replace z0:=BZ.cell 0
  replace z1:=BZ.cell 1
  replace z2:=BZ.cell 2
  replace z3:=BZ.cell 3
  replace z4:=BZ.cell 4
  simp only[zs4,zs5]at s0 s1 s2 s3 s4 s5 s6 z0 z1 z2 z3 z4
  replace F2:=F2.keep hq3 F2.lt
  have f0:=F2.cell 0
  have f1:=F2.cell 1
  have f2:=F2.cell 2
  have f3:=F2.cell 3
  have f4:=F2.cell 4
  simp only[zs4,zs5]at f0 f1 f2 f3 f4
  have g4:=F2.frozen 4
  have k0:=BZ.frozen 0
  have k1:=BZ.frozen 1
  have k2:=BZ.frozen 2
  have k3:=BZ.frozen 3
  have k4:=BZ.frozen 4
  have hne:Y1.heap.size+1≠w.heap.size+1+1:=by omega
  have hne2:w.heap.size+1+1≠Y1.heap.size+1:=by omega
  have hy:w.heap.size≤Y1.heap.size+1:=by omega
  have hy2:w.heap.size≤w.heap.size+1+1:=by omega
  generalize Y1.heap.size+1=bf at *
  generalize w.heap.size+1+1=bz at *
  have Z:=((((((BZ.setOther hne 4 (.string ⟨PL.toArray⟩)).set 0 (.bool true)).set 1 (.int .i64 x1)).set 2 (.int .i64 dr)).set 3 (.string ⟨#[48]⟩)).set 4 (.string ⟨PL.toArray⟩))
  simp only[List.set_cons_zero,List.set_cons_succ]at Z
  have hQe:=((((((Q.trans hq0 hQ3).setCell (p:=⟨bf,4,none⟩) hy (.string ⟨PL.toArray⟩)).setCell (p:=⟨bz,0,none⟩) hy2 (.bool true)).setCell (p:=⟨bz,1,none⟩) hy2 (.int .i64 x1)).setCell (p:=⟨bz,2,none⟩) hy2 (.int .i64 dr)).setCell (p:=⟨bz,3,none⟩) hy2 (.string ⟨#[48]⟩)).setCell (p:=⟨bz,4,none⟩) hy2 (.string ⟨PL.toArray⟩)
  clear HP F2
  have HR:=zc2 Z
  go_wp2_with (exact bodyPost_ret (HR Tryz.f71 4 rfl _ rfl) rfl ⟨rfl,hQe⟩)
end
end Go.Proofs.YtbpghkdadajomaaGreatDoor
