/-
  Walks of package plan: loops over the sides of a ring that end early.; Walks of package plan: the rectangles of the sides.; Walks of package plan: the ranges of a side.
-/
import Derived.Test.YtapnkgdnflofbaaGreatDoorCH14
set_option maxRecDepth 100000
set_option maxHeartbeats 4000000
namespace Go.Proofs.YtapnkgdnflofbaaGreatDoor
section
open Go.RowKit Go.Shelf Kp
attribute [local go_sem] Oper.semAt_some
theorem zcz(fn:Func)(m:Nat)(hf:fn.results=#[.cell m 4])(tmps:Array Value)(W:World)(b:Nat)(v:Value)(hp:tmps.getD m undef=.pointer (some ⟨b,0,none⟩))(hc:W.cell? ⟨b,0,none⟩=some v) :
  (results fn tmps).run Tryz.prog W=.ok v W:=by
 simp only[Array.getD_eq_getD_getElem?]at hp
 simp[results,hf,go_sem,hp,hc]
theorem zkP{b g:Nat}{x y:Value}(hg:b≤g)(w:World):(zrw b).r w ((w.setCell ⟨g,0,none⟩ x).setCell ⟨g,1,none⟩ y):=fun _ =>
 ((Below.refl _ _).setCell (p:=⟨g,0,none⟩) hg _).setCell (p:=⟨g,1,none⟩) hg _
theorem zot{r:List Sd}(h4:4≤r.length)(h:∀ i,i<r.length→zfb (arn r i)=false):zan r=true:=by
 unfold zan
 rw[Bool.and_eq_true]
 refine⟨by simpa using h4,?_⟩
 rw[List.all_eq_true]
 intro i hi
 rw[h i (List.mem_range.1 hi)]
 rfl
theorem zpH{r:List Sd}{i:Nat}(hi:i<r.length)(h:zfb (arn r i)=true):zan r=false:=by
 rw[Bool.eq_false_iff]
 intro hs
 unfold zan at hs
 rw[Bool.and_eq_true,List.all_eq_true]at hs
 have:=hs.2 i (List.mem_range.2 hi)
 rw[h]at this
 exact absurd this (by decide)
theorem zpI(r:List Sd)(hr:∀ i,i<r.length→ArnOk (arn r i))(hlen:r.length≤1000)(a:Option Addr)(cap:Nat)(w:World)(hrow:zci w a r)(hba:∀ k∈zbM a,k<w.heap.size) :
  CallsIn Fence.wide 9 Tryz.prog 187 #[.slice a r.length cap] w fun e w'=>e=.returned (.bool (zan r))∧Q w w':=by
 by_cases h4:r.length<4
 ·have hs:zan r=false:=by
   unfold zan
   rw[show decide (4≤r.length)=false by rw[decide_eq_false_iff_not];omega]
   rfl
  have hz:(r.length:Int)<4:=by omega
  rw[hs]
  refine callsIn_of_wp Tryz.func187 rfl trivial ?_ rfl
  simp only[Tryz.ntmps187,List.size_toArray,List.length_cons,List.length_nil,Nat.reduceAdd,Nat.reduceSub,Array.replicate_succ,Array.replicate_zero,List.push_toArray,List.append_toArray,List.nil_append,List.cons_append]
  clear hr hrow
  generalize r.length=n at *
  gi_wp2
  exact bodyPost_ret (zcz _ 2 rfl _ _ w.heap.size _ rfl (Boxed.new w 4 (.bool false)).cell) rfl ⟨rfl,(Below.refl _ w).alloc (Nat.le_refl _) _⟩
 ·have hz:¬ (r.length:Int)<4:=by omega
  have h4':4≤r.length:=by omega
  refine callsIn_of_wp_marks Tryz.func187 rfl trivial ?_ rfl
  simp only[Tryz.ntmps187,List.size_toArray,List.length_cons,List.length_nil,Nat.reduceAdd,Nat.reduceSub,Array.replicate_succ,Array.replicate_zero,List.push_toArray,List.append_toArray,List.nil_append,List.cons_append]
  refine wpIn_wide.2 ?_
  go_wp2_with fail
  refine(zdM a r.length cap _).mono ?_
  rintro e w2⟨rfl,rfl⟩
  obtain⟨W2,hW2⟩:∃ W2,(w.alloc (.cells #[.bool false] 4)).alloc (.cells #[.slice a r.length cap] 75)=W2:=⟨_,rfl⟩
  have hq2:Q w W2:=by rw[← hW2];exact bt
  have hs2:W2.heap.size=w.heap.size+2:=by rw[← hW2];simp
  have bI:Boxed W2 w.heap.size 4 (.bool false):=by
   have:=(Boxed.new w 4 (.bool false)).alloc (.cells #[.slice a r.length cap] 75)
   rw[hW2]at this;exact this
  have bS:Boxed W2 (w.heap.size+1) 75 (.slice a r.length cap):=by
   have:=Boxed.new (w.alloc (.cells #[.bool false] 4)) 75 (.slice a r.length cap)
   rw[World.size_alloc,hW2]at this;exact this
  rw[World.size_alloc,hW2]
  clear hW2
  have hrow2:=hrow.q hq2
  go_wp2_with fail
  refine(wpIn_wide (n:=9)).1 ?_
  refine zbb (m:=9) (gf:=288) (lb:=#[.pointer (some ⟨w.heap.size+1,0,none⟩)]) (by omega) rfl (enters_of Tryz.func288 (by kernel_rfl) rfl)
   (zdH (w.heap.size+1) r a cap hlen W2 8 (by omega) bS.cell hrow2) (fun k hk=>by
    rw[List.mem_cons]at hk
    rcases hk with rfl | hk
    ·omega
    ·have:=hba k hk;omega) (fun _=>rfl)
   (fun k W=>Boxed W w.heap.size 4 (.bool false)∧(∀ i,i<k→zfb (arn r i)=false)∧Q w W)
   (fun c W=>c=.ret∧Boxed W w.heap.size 4 (.bool false)∧zan r=false∧Q w W)
   (fun k W W' h kc hb=>⟨zu h.1 kc,h.2.1,Below.trans h.2.2 (hb.mono hq2.size)⟩) (fun c W W' h kc hb=>⟨h.1,zu h.2.1 kc,h.2.2.1,Below.trans h.2.2.2 (hb.mono hq2.size)⟩) ⟨bI,fun i hi=>absurd hi (Nat.not_lt_zero _),hq2⟩
   (fun x a1 W=>∃ b,w.heap.size+2≤b∧a1={ tmps:=#[.slice a r.length cap,undef,.pointer (some ⟨w.heap.size,0,none⟩),undef,.pointer (some ⟨b,0,none⟩),undef,undef,.slice a r.length cap,.int .i64 (r.length:Nat),.bool false,.slice a r.length cap,.func (.func 288) #[] #[.pointer (some ⟨w.heap.size+1,0,none⟩)],.int .i64 (x.1:Nat),.agg (zfN (arn r x.1)).toArray,undef,undef,undef,undef,undef,undef,undef,undef,undef,undef,undef,undef,undef,undef,undef,undef,undef,undef,undef,undef,undef,undef,undef,undef,undef],defers:=[] }∧Blk W b (zfN (arn r x.1)) 305)
   (fun x a1 W W' h kc=>by
    obtain⟨b,h1,h2,h3⟩:=h
    exact⟨b,h1,h2,h3.kc kc⟩)
   ?assign ?body ?done ?stop
  case assign =>
   intro l x W K hW hK
   have hk:=hK _ (W.alloc (.cells (zfN (arn r x.1)).toArray 305)) ((Below.refl _ W).alloc (Nat.le_refl _) _) ⟨W.heap.size,by omega,rfl,Blk.new W _ _⟩
   clear hK
   have hst:=fun W=>zew (arn r x.1) W
   gi_wp2
   exact hk
  case stop =>
   rintro D c W hD⟨rfl,hb,hsf,hQ⟩ hK
   have c0:=hb.cell
   gi_wp2
   have kc:=KC.put (.deferred none) hK rfl
   refine⟨by simp,.inl ⟨_,_,rfl,run_takeDeferred hK,?_⟩⟩
   exact⟨_,zcz _ 2 rfl _ _ w.heap.size _ rfl (zu hb kc).cell,by rw[hsf],Below.trans hQ (zaQ (by omega) hK _)⟩
  case body =>
   rintro l k hk a1 W⟨hb,hall,hQ⟩ ⟨b,hbb,rfl,hA⟩
   have hmix:Tryz.prog.follows .mixedOrders=true:=by kernel_rfl
   simp only at hA ⊢
   have hok:=hr k hk
   have HN:Hid (zfb (arn r k)=false→∀ i,i<k+1→zfb (arn r i)=false):=LH (fun h i hi=>by
    rcases Nat.lt_or_ge i k with h1 | h1
    ·exact hall i h1
    ·obtain rfl:i=k:=by omega
     exact h)
   have HY:Hid (zfb (arn r k)=true→zan r=false):=LH (zpH hk)
   clear hall
   generalize arn r k=ar at *
   have HB:=LH (fun w=>zaM ar.b.x ar.b.y ar.b.rise ar.b.run ar.b.gable ar.b.plate ar.b.over w)
   have HO:=LH (fun w=>zaM ar.o.x ar.o.y ar.o.rise ar.o.run ar.o.gable ar.o.plate ar.o.over w)
   have ht:=fun w=>zmU ar.b.x ar.b.y ar.o.x ar.o.y (by have:=hok.b;omega) (by have:=hok.b;omega) (by have:=hok.o;omega) (by have:=hok.o;omega) w
   have HW:=LH (fun w=>zky ar hok w)
   obtain⟨vx,hvx⟩:∃ v,ar.o.x - ar.b.x=v:=⟨_,rfl⟩
   obtain⟨vy,hvy⟩:∃ v,ar.o.y - ar.b.y=v:=⟨_,rfl⟩
   have hbent:zfb ar=(((ar.wx == 0) == (ar.wy == 0)) || ((vx == 0) == (ar.wx == 0))):=by rw[← hvx];rfl
   rw[hvx,hvy]at ht
   have HT:=LH ht
   clear ht hvx hvy
   have d0:W.drew.cell? ⟨b,0,none⟩=some (.int .i64 ar.b.x):=hA.cell 0
   have d1:W.drew.cell? ⟨b,1,none⟩=some (.int .i64 ar.b.y):=hA.cell 1
   have d2:W.drew.cell? ⟨b,2,none⟩=some (.int .i64 ar.b.rise):=hA.cell 2
   have d3:W.drew.cell? ⟨b,3,none⟩=some (.int .i64 ar.b.run):=hA.cell 3
   have d4:W.drew.cell? ⟨b,4,none⟩=some (.bool ar.b.gable):=hA.cell 4
   have d5:W.drew.cell? ⟨b,5,none⟩=some (.int .i64 ar.b.plate):=hA.cell 5
   have d6:W.drew.cell? ⟨b,6,none⟩=some (.int .i64 ar.b.over):=hA.cell 6
   have d7:W.drew.cell? ⟨b,7,none⟩=some (.int .i64 ar.o.x):=hA.cell 7
   have d8:W.drew.cell? ⟨b,8,none⟩=some (.int .i64 ar.o.y):=hA.cell 8
   have d9:W.drew.cell? ⟨b,9,none⟩=some (.int .i64 ar.o.rise):=hA.cell 9
   have d10:W.drew.cell? ⟨b,10,none⟩=some (.int .i64 ar.o.run):=hA.cell 10
   have d11:W.drew.cell? ⟨b,11,none⟩=some (.bool ar.o.gable):=hA.cell 11
   have d12:W.drew.cell? ⟨b,12,none⟩=some (.int .i64 ar.o.plate):=hA.cell 12
   have d13:W.drew.cell? ⟨b,13,none⟩=some (.int .i64 ar.o.over):=hA.cell 13
   have hqd:Q W W.drew:=Below.drew (Q.refl W)
   gi_wp2
   refine RF.zaG (ρ:=zrw W.drew.heap.size) 13 hmix (by kernel_rfl) rfl (by kernel_rfl) ?_
   refine RF.svp 0 ?_
   refine RF.svq 1 rfl (by intro w' hq;have hc0:=za (hq (Nat.le_refl _)) d0;have hc1:=za (hq (Nat.le_refl _)) d1;have hc2:=za (hq (Nat.le_refl _)) d2;have hc3:=za (hq (Nat.le_refl _)) d3;have hc4:=za (hq (Nat.le_refl _)) d4;have hc5:=za (hq (Nat.le_refl _)) d5;have hc6:=za (hq (Nat.le_refl _)) d6;go_simp;try with_reducible rfl) ?_
   refine RF.zk (i:=2) (v:=_) rfl rfl (by kernel_rfl) (by kernel_rfl) (fun _ _ _ h=>h) (by rfl) ?_ (fun w' hq=>HB.out w') ?_
   ·(intro w' hq;go_simp;try with_reducible rfl)
   simp only[Act.put,zs1,zs2,zs3]
   refine RF.svp 3 ?_
   refine RF.svq 4 rfl (by intro w' hq;have hc0:=za (hq (Nat.le_refl _)) d7;have hc1:=za (hq (Nat.le_refl _)) d8;have hc2:=za (hq (Nat.le_refl _)) d9;have hc3:=za (hq (Nat.le_refl _)) d10;have hc4:=za (hq (Nat.le_refl _)) d11;have hc5:=za (hq (Nat.le_refl _)) d12;have hc6:=za (hq (Nat.le_refl _)) d13;go_simp;try with_reducible rfl) ?_
   refine RF.zk (i:=5) (v:=_) rfl rfl (by kernel_rfl) (by kernel_rfl) (fun _ _ _ h=>h) (by rfl) ?_ (fun w' hq=>HO.out w') ?_
   ·(intro w' hq;go_simp;try with_reducible rfl)
   simp only[Act.put,zs1,zs2,zs3]
   refine RF.zk (i:=6) (v:=_) rfl rfl (by kernel_rfl) (by kernel_rfl) (fun _ _ _ h=>h) (by rfl) ?_ (fun w' hq=>HT.out w') ?_
   ·(intro w' hq;go_simp;try with_reducible rfl)
   simp only[Act.put,zs1,zs2,zs3]
   refine RF.zS (i:=7) (v:=_) rfl rfl (by kernel_rfl) (by kernel_rfl) (fun _ _ _ h=>h) (by rfl) (fun w' hq=>zcT 305 (.tmp 4) rfl b rfl (hA.keep (Q.trans hqd (hq (Nat.le_refl _))) hA.lt) _ Tryz.underlying305 rfl (by kernel_rfl)) ?_
   simp only[Act.put,zs1,zs2,zs3]
   refine RF.zk (i:=8) (v:=_) rfl rfl (by kernel_rfl) (by kernel_rfl) (fun _ _ _ h=>h) (by rfl) ?_ (fun w' hq=>HW.out w') ?_
   ·(intro w' hq;go_simp;try with_reducible rfl)
   simp only[Act.put,zs1,zs2,zs3]
   clear d0 d1 d2 d3 d4 d5 d6 d7 d8 d9 d10 d11 d12 d13 HB HO HT HW
   refine RF.zex (i:=9) (j:=10) (.cells #[.int .i64 0,.int .i64 0] 307) (.cells #[.int .i64 0,.int .i64 0] 307) rfl rfl rfl rfl (by kernel_rfl) (by rfl) (by rfl) (fun w' hq=>?ex1) (fun w' hq=>?ex2) (fun w1 hq1=>?br1) (fun w1 hq1=>?br2)
   case ex1=>go_simp;try with_reducible rfl
   case ex2=>go_simp;try with_reducible rfl
   case' br1 =>
    simp only[Act.put,zs1,zs2,zs3]
    refine RF.zaI (i:=10) (.cells #[.int .i64 0,.int .i64 0] 307) rfl rfl (by kernel_rfl) (by rfl) (fun w' hq=>?ey10) (fun w2 hq2=>?ez10)
    case ey10=>go_simp;try with_reducible rfl
    simp only[Act.put,zs1,zs2,zs3]
    have hT:=((Blk.new w1 [.int .i64 0,.int .i64 0] 307).keep hq2 (by simp)).alloc (.cells #[.int .i64 0,.int .i64 0] 307)
    have hU:=Blk.new w2 [.int .i64 0,.int .i64 0] 307
    have hq6:Q W.drew (w2.alloc (.cells #[.int .i64 0,.int .i64 0] 307)):=Q.trans hq1 (Q.trans ((Below.refl _ w1).alloc (Nat.le_refl _) (.cells #[.int .i64 0,.int .i64 0] 307)) (Q.trans hq2 ((Below.refl _ w2).alloc (Nat.le_refl _) (.cells #[.int .i64 0,.int .i64 0] 307))))
    have hz:=hq2.size
    rw[World.size_alloc]at hz
    have hbp:W.drew.heap.size≤w1.heap.size:=by have:=hq1.size;omega
    have hbq:W.drew.heap.size≤w2.heap.size:=by have:=hq1.size;omega
    have hpq:w1.heap.size≠w2.heap.size:=by omega
    generalize w2.alloc _=W6 at *
    generalize w1.heap.size=p at *
    generalize w2.heap.size=q at *
    clear hz hq1 hq2
   case' br2 =>
    simp only[Act.put,zs1,zs2,zs3]
    refine RF.zaI (i:=9) (.cells #[.int .i64 0,.int .i64 0] 307) rfl rfl (by kernel_rfl) (by rfl) (fun w' hq=>?ey9) (fun w2 hq2=>?ez9)
    case ey9=>go_simp;try with_reducible rfl
    simp only[Act.put,zs1,zs2,zs3]
    have hU:=((Blk.new w1 [.int .i64 0,.int .i64 0] 307).keep hq2 (by simp)).alloc (.cells #[.int .i64 0,.int .i64 0] 307)
    have hT:=Blk.new w2 [.int .i64 0,.int .i64 0] 307
    have hq6:Q W.drew (w2.alloc (.cells #[.int .i64 0,.int .i64 0] 307)):=Q.trans hq1 (Q.trans ((Below.refl _ w1).alloc (Nat.le_refl _) (.cells #[.int .i64 0,.int .i64 0] 307)) (Q.trans hq2 ((Below.refl _ w2).alloc (Nat.le_refl _) (.cells #[.int .i64 0,.int .i64 0] 307))))
    have hz:=hq2.size
    rw[World.size_alloc]at hz
    have hbp:W.drew.heap.size≤w2.heap.size:=by have:=hq1.size;omega
    have hbq:W.drew.heap.size≤w1.heap.size:=by have:=hq1.size;omega
    have hpq:w2.heap.size≠w1.heap.size:=by omega
    generalize w2.alloc _=W6 at *
    generalize w2.heap.size=p at *
    generalize w1.heap.size=q at *
    clear hz hq1 hq2
   all_goals
    refine RF.zaT (i:=11) (fun w'=>(w'.setCell ⟨p,0,none⟩ (.int .i64 vx)).setCell ⟨p,1,none⟩ (.int .i64 vy)) rfl rfl (by kernel_rfl) (by rfl) (fun w' hq=>?es1) (fun w'=>zkP hbp w') (fun w7 hq7=>?_)
    case es1 =>
     have hc:=hT.keep hq hT.lt
     have e0:=hc.cell 0
     have e1:=hc.cell 1
     simp only[zs4,zs5]at e0 e1
     have f0:=hc.frozen 0
     have f1:=hc.frozen 1
     go_simp;try with_reducible rfl
    simp only[Act.put]
    have hT7:=((hT.keep hq7 hT.lt).set 0 (.int .i64 vx)).set 1 (.int .i64 vy)
    have hU7:=((hU.keep hq7 hU.lt).setOther hpq 0 (.int .i64 vx)).setOther hpq 1 (.int .i64 vy)
    simp only[List.set_cons_zero,List.set_cons_succ]at hT7
    have hl7:Below W.drew.heap.size W.drew ((w7.setCell ⟨p,0,none⟩ (.int .i64 vx)).setCell ⟨p,1,none⟩ (.int .i64 vy)):=((Q.trans hq6 hq7).setCell (p:=⟨p,0,none⟩) hbp _).setCell (p:=⟨p,1,none⟩) hbp _
    clear hT hU hq6 hq7
    generalize (w7.setCell ⟨p,0,none⟩ (.int .i64 vx)).setCell ⟨p,1,none⟩ (.int .i64 vy)=w8 at *
    refine RF.zaT (i:=12) (fun w'=>(w'.setCell ⟨q,0,none⟩ (.int .i64 ar.wx)).setCell ⟨q,1,none⟩ (.int .i64 ar.wy)) rfl rfl (by kernel_rfl) (by rfl) (fun w' hq=>?es2) (fun w'=>zkP hbq w') (fun w9 hq9=>?_)
    case es2 =>
     have hc:=hU7.keep hq hU7.lt
     have e0:=hc.cell 0
     have e1:=hc.cell 1
     simp only[zs4,zs5]at e0 e1
     have f0:=hc.frozen 0
     have f1:=hc.frozen 1
     go_simp;try with_reducible rfl
    simp only[Act.put]
    have hT9:=((hT7.keep hq9 hT7.lt).setOther (Ne.symm hpq) 0 (.int .i64 ar.wx)).setOther (Ne.symm hpq) 1 (.int .i64 ar.wy)
    have hU9:=((hU7.keep hq9 hU7.lt).set 0 (.int .i64 ar.wx)).set 1 (.int .i64 ar.wy)
    simp only[List.set_cons_zero,List.set_cons_succ]at hU9
    have hl9:Below W.drew.heap.size W.drew ((w9.setCell ⟨q,0,none⟩ (.int .i64 ar.wx)).setCell ⟨q,1,none⟩ (.int .i64 ar.wy)):=((Below.trans hl7 (hq9.mono hl7.size)).setCell (p:=⟨q,0,none⟩) hbq _).setCell (p:=⟨q,1,none⟩) hbq _
    clear hT7 hU7 hl7 hq9
    generalize (w9.setCell ⟨q,0,none⟩ (.int .i64 ar.wx)).setCell ⟨q,1,none⟩ (.int .i64 ar.wy)=w10 at *
    refine RF.zh (by kernel_rfl) (fun w3 hq3=>?_)
    simp only[List.drop_succ_cons,List.drop_nil]
    have hT3:=hT9.keep hq3 hT9.lt
    have hU3:=hU9.keep hq3 hU9.lt
    have t0:=hT3.cell
    have u0:=hU3.cell
    have hqq:Q W w3:=Q.trans hqd (Below.trans hl9 (hq3.mono hl9.size))
    have hQ5:Q w w3:=Q.trans hQ hqq
    have b5:=zu hb (KC.q hqq)
    have c5:=b5.cell
    have f5:=b5.frozen
    have b6:=b5.set (.bool false)
    have hQ6:=hQ5.setCell (p:=⟨w.heap.size,0,none⟩) (by simp) (.bool false)
    have kf5:KeepsFrom W2.heap.size W w3:=(KeepsOthers.of_grownBy (zas hqq none) (fun j o e=>by cases e)).from _
    have kf6:=kf5.trans ((KeepsOthers.setCell _ ⟨w.heap.size,0,none⟩ (.bool false)).from W2.heap.size)
    have kb5:zI ((w.heap.size+1)::zbM a) W w3:=zI.q hqq
    clear hr hrow hrow2 hA hT9 hU9 hl9 hq3
    cases e1:(ar.wx == 0) <;> cases e2:(ar.wy == 0) <;> cases e3:(vx == 0)
    ·have hb':zfb ar=true:=by rw[hbent,e1,e2,e3];rfl
     clear hbent
     go_wp2
     simp only[zbC]
     gi_wp2
     exact⟨kf6,rfl,b6,HY.out hb',hQ6⟩
    ·have hb':zfb ar=true:=by rw[hbent,e1,e2,e3];rfl
     clear hbent
     go_wp2
     simp only[zbC]
     gi_wp2
     exact⟨kf6,rfl,b6,HY.out hb',hQ6⟩
    ·have hb':zfb ar=true:=by rw[hbent,e1,e2,e3];rfl
     clear hbent
     go_wp2
     simp only[zbC]
     gi_wp2
     exact⟨kf6,rfl,b6,HY.out hb',hQ6⟩
    ·have hb':zfb ar=false:=by rw[hbent,e1,e2,e3];rfl
     clear hbent
     go_wp2
     simp only[zbC]
     gi_wp2
     exact⟨kf5,kb5,b5,HN.out hb',hQ5⟩
    ·have hb':zfb ar=false:=by rw[hbent,e1,e2,e3];rfl
     clear hbent
     go_wp2
     simp only[zbC]
     gi_wp2
     exact⟨kf5,kb5,b5,HN.out hb',hQ5⟩
    ·have hb':zfb ar=true:=by rw[hbent,e1,e2,e3];rfl
     clear hbent
     go_wp2
     simp only[zbC]
     gi_wp2
     exact⟨kf6,rfl,b6,HY.out hb',hQ6⟩
    ·have hb':zfb ar=true:=by rw[hbent,e1,e2,e3];rfl
     clear hbent
     go_wp2
     simp only[zbC]
     gi_wp2
     exact⟨kf6,rfl,b6,HY.out hb',hQ6⟩
    ·have hb':zfb ar=true:=by rw[hbent,e1,e2,e3];rfl
     clear hbent
     go_wp2
     simp only[zbC]
     gi_wp2
     exact⟨kf6,rfl,b6,HY.out hb',hQ6⟩
  case done =>
   rintro D W hD⟨hb,hall,hQ⟩ hK
   have hsf:=zot h4' hall
   have c0:=hb.cell
   have f0:=hb.frozen
   go_wp2
   have hK2:=(KeepsOthers.setCell W ⟨w.heap.size,0,none⟩ (.bool true)).same D _ hK rfl
   have kc:=KC.put (.deferred none) hK2 rfl
   have hQ2:Q w (W.setCell ⟨w.heap.size,0,none⟩ (.bool true)):=hQ.setCell (p:=⟨w.heap.size,0,none⟩) (by simp) _
   refine⟨by simp,.inl ⟨_,_,rfl,run_takeDeferred hK2,?_⟩⟩
   exact⟨_,zcz _ 2 rfl _ _ w.heap.size _ rfl (zu (hb.set (.bool true)) kc).cell,by rw[hsf],Below.trans hQ2 (zaQ (by omega) hK2 _)⟩
def bxC(b:Bx):List Value:=[.int .i64 b.lx,.int .i64 b.ly,.int .i64 b.hx,.int .i64 b.hy]
theorem zoF(a b:Bx)(w:World):CR 254 #[.agg (bxC a).toArray,.agg (bxC b).toArray] w (.bool (zlQ a b)):=by
 obtain⟨lx,ly,hx,hy⟩:=a
 obtain⟨mx,my,gx,gy⟩:=b
 unfold bxC zlQ
 simp only
 by_cases h1:lx≤gx
 ·by_cases h2:mx≤hx
  ·by_cases h3:ly≤gy
   ·by_cases h4:my≤hy
    all_goals
     simp only[h1,h2,h3,h4,decide_true,decide_false,Bool.and_true,Bool.and_false]
     go_enter Tryz.func254,Tryz.ntmps254
     go_wp2
     go_ret
     exact⟨rfl,bt⟩
   ·simp only[h1,h2,h3,decide_true,decide_false,Bool.and_false,Bool.false_and]
    go_enter Tryz.func254,Tryz.ntmps254
    go_wp2
    go_ret
    exact⟨rfl,bt⟩
  ·simp only[h1,h2,decide_true,decide_false,Bool.and_false,Bool.false_and]
   go_enter Tryz.func254,Tryz.ntmps254
   go_wp2
   go_ret
   exact⟨rfl,bt⟩
 ·simp only[h1,decide_false,Bool.false_and]
  go_enter Tryz.func254,Tryz.ntmps254
  go_wp2
  go_ret
  exact⟨rfl,bt⟩
theorem zmI{W:World}{b:Nat}{x y z u:Value}(h:Blk W b [x,y,z,u] 314)(fn:Func)(m:Nat)(hf:fn.results=#[.cell m 314])(tmps:Array Value)(hp:tmps.getD m undef=.pointer (some ⟨b,0,none⟩)) :
  (results fn tmps).run Tryz.prog W=.ok (.agg #[x,y,z,u]) W:=by
 exact results_cell_row hf tmps W b _ #[x,y,z,u] (0,0) _ hp h Tryz.underlying314 rfl (by kernel_rfl)
theorem zoG(a:Arn)(w:World):CR 253 #[.agg (zfN a).toArray] w (.agg (bxC (zta a)).toArray):=by
 obtain⟨⟨x1,y1,r1,n1,g1,p1,q1⟩,⟨x2,y2,r2,n2,g2,p2,q2⟩,⟨x3,y3,r3,n3,g3,p3,q3⟩⟩:=a
 unfold bxC zta zfN sdC
 simp only
 have HO:=LH (fun w=>zaM x2 y2 r2 n2 g2 p2 q2 w)
 have HH:=LH (fun w=>zaM x3 y3 r3 n3 g3 p3 q3 w)
 go_enter Tryz.func253,Tryz.ntmps253
 go_wp2_with fail
 have A:=(Blk.new w [.int .i64 x1,.int .i64 y1,.int .i64 r1,.int .i64 n1,.bool g1,.int .i64 p1,.int .i64 q1,.int .i64 x2,.int .i64 y2,.int .i64 r2,.int .i64 n2,.bool g2,.int .i64 p2,.int .i64 q2,.int .i64 x3,.int .i64 y3,.int .i64 r3,.int .i64 n3,.bool g3,.int .i64 p3,.int .i64 q3] 305).alloc (.cells #[.int .i64 0,.int .i64 0,.int .i64 0,.int .i64 0] 314)
 have Z:=Blk.new (w.alloc (.cells #[.int .i64 x1,.int .i64 y1,.int .i64 r1,.int .i64 n1,.bool g1,.int .i64 p1,.int .i64 q1,.int .i64 x2,.int .i64 y2,.int .i64 r2,.int .i64 n2,.bool g2,.int .i64 p2,.int .i64 q2,.int .i64 x3,.int .i64 y3,.int .i64 r3,.int .i64 n3,.bool g3,.int .i64 p3,.int .i64 q3] 305)) [.int .i64 0,.int .i64 0,.int .i64 0,.int .i64 0] 314
 rw[World.size_alloc]at Z
 obtain⟨W,hW⟩:∃ W,(w.alloc (.cells #[.int .i64 x1,.int .i64 y1,.int .i64 r1,.int .i64 n1,.bool g1,.int .i64 p1,.int .i64 q1,.int .i64 x2,.int .i64 y2,.int .i64 r2,.int .i64 n2,.bool g2,.int .i64 p2,.int .i64 q2,.int .i64 x3,.int .i64 y3,.int .i64 r3,.int .i64 n3,.bool g3,.int .i64 p3,.int .i64 q3] 305)).alloc (.cells #[.int .i64 0,.int .i64 0,.int .i64 0,.int .i64 0] 314)=W:=⟨_,rfl⟩
 have hq0:Q w W:=by rw[← hW];exact bt
 have hsz:W.heap.size=w.heap.size+2:=by rw[← hW];simp
 rw[hW]at A Z ⊢
 clear hW
 have d7:=A.drew.cell 7
 have d8:=A.drew.cell 8
 have d9:=A.drew.cell 9
 have d10:=A.drew.cell 10
 have d11:=A.drew.cell 11
 have d12:=A.drew.cell 12
 have d13:=A.drew.cell 13
 have d14:=A.drew.cell 14
 have d15:=A.drew.cell 15
 have d16:=A.drew.cell 16
 have d17:=A.drew.cell 17
 have d18:=A.drew.cell 18
 have d19:=A.drew.cell 19
 have d20:=A.drew.cell 20
 simp only[zs4,zs5]at d7 d8 d9 d10 d11 d12 d13 d14 d15 d16 d17 d18 d19 d20
 have hqd:Q W W.drew:=Below.drew (Q.refl W)
 refine RF.zn (ρ:=zrw W.drew.heap.size) 10 (by kernel_rfl) (by kernel_rfl) rfl ?_
 refine RF.svp 0 ?_
 refine RF.svq 1 rfl (by intro w' hq;have hc0:=za (hq (Nat.le_refl _)) d7;have hc1:=za (hq (Nat.le_refl _)) d8;have hc2:=za (hq (Nat.le_refl _)) d9;have hc3:=za (hq (Nat.le_refl _)) d10;have hc4:=za (hq (Nat.le_refl _)) d11;have hc5:=za (hq (Nat.le_refl _)) d12;have hc6:=za (hq (Nat.le_refl _)) d13;go_simp;try with_reducible rfl) ?_
 refine RF.zk (i:=2) (v:=_) rfl rfl (by kernel_rfl) (by kernel_rfl) (fun _ _ _ h=>h) (by rfl) ?_ (fun w' hq=>HO.out w') ?_
 ·(intro w' hq;go_simp;try with_reducible rfl)
 simp only[Act.put,zs1,zs2,zs3]
 refine RF.svp 3 ?_
 refine RF.svq 4 rfl (by intro w' hq;have hc0:=za (hq (Nat.le_refl _)) d14;have hc1:=za (hq (Nat.le_refl _)) d15;have hc2:=za (hq (Nat.le_refl _)) d16;have hc3:=za (hq (Nat.le_refl _)) d17;have hc4:=za (hq (Nat.le_refl _)) d18;have hc5:=za (hq (Nat.le_refl _)) d19;have hc6:=za (hq (Nat.le_refl _)) d20;go_simp;try with_reducible rfl) ?_
 refine RF.zk (i:=5) (v:=_) rfl rfl (by kernel_rfl) (by kernel_rfl) (fun _ _ _ h=>h) (by rfl) ?_ (fun w' hq=>HH.out w') ?_
 ·(intro w' hq;go_simp;try with_reducible rfl)
 simp only[Act.put,zs1,zs2,zs3]
 clear d7 d8 d9 d10 d11 d12 d13 d14 d15 d16 d17 d18 d19 d20 HO HH A
 refine RF.zex (i:=6) (j:=7) (.cells #[.int .i64 0,.int .i64 0] 307) (.cells #[.int .i64 0,.int .i64 0] 307) rfl rfl rfl rfl (by kernel_rfl) (by rfl) (by rfl) (fun w' hq=>?ex1) (fun w' hq=>?ex2) (fun w1 hq1=>?br1) (fun w1 hq1=>?br2)
 case ex1=>go_simp;try with_reducible rfl
 case ex2=>go_simp;try with_reducible rfl
 case' br1 =>
  simp only[Act.put,zs1,zs2,zs3]
  refine RF.zaI (i:=7) (.cells #[.int .i64 0,.int .i64 0] 307) rfl rfl (by kernel_rfl) (by rfl) (fun w' hq=>?ey7) (fun w2 hq2=>?ez7)
  case ey7=>go_simp;try with_reducible rfl
  simp only[Act.put,zs1,zs2,zs3]
  have hT:=((Blk.new w1 [.int .i64 0,.int .i64 0] 307).keep hq2 (by simp)).alloc (.cells #[.int .i64 0,.int .i64 0] 307)
  have hU:=Blk.new w2 [.int .i64 0,.int .i64 0] 307
  have hq6:Q W.drew (w2.alloc (.cells #[.int .i64 0,.int .i64 0] 307)):=Q.trans hq1 (Q.trans ((Below.refl _ w1).alloc (Nat.le_refl _) (.cells #[.int .i64 0,.int .i64 0] 307)) (Q.trans hq2 ((Below.refl _ w2).alloc (Nat.le_refl _) (.cells #[.int .i64 0,.int .i64 0] 307))))
  have hz:=hq2.size
  rw[World.size_alloc]at hz
  have hbp:W.drew.heap.size≤w1.heap.size:=by have:=hq1.size;omega
  have hbq:W.drew.heap.size≤w2.heap.size:=by have:=hq1.size;omega
  have hpq:w1.heap.size≠w2.heap.size:=by omega
  generalize w2.alloc _=W6 at *
  generalize w1.heap.size=p at *
  generalize w2.heap.size=q at *
  clear hz hq1 hq2
 case' br2 =>
  simp only[Act.put,zs1,zs2,zs3]
  refine RF.zaI (i:=6) (.cells #[.int .i64 0,.int .i64 0] 307) rfl rfl (by kernel_rfl) (by rfl) (fun w' hq=>?ey6) (fun w2 hq2=>?ez6)
  case ey6=>go_simp;try with_reducible rfl
  simp only[Act.put,zs1,zs2,zs3]
  have hU:=((Blk.new w1 [.int .i64 0,.int .i64 0] 307).keep hq2 (by simp)).alloc (.cells #[.int .i64 0,.int .i64 0] 307)
  have hT:=Blk.new w2 [.int .i64 0,.int .i64 0] 307
  have hq6:Q W.drew (w2.alloc (.cells #[.int .i64 0,.int .i64 0] 307)):=Q.trans hq1 (Q.trans ((Below.refl _ w1).alloc (Nat.le_refl _) (.cells #[.int .i64 0,.int .i64 0] 307)) (Q.trans hq2 ((Below.refl _ w2).alloc (Nat.le_refl _) (.cells #[.int .i64 0,.int .i64 0] 307))))
  have hz:=hq2.size
  rw[World.size_alloc]at hz
  have hbp:W.drew.heap.size≤w2.heap.size:=by have:=hq1.size;omega
  have hbq:W.drew.heap.size≤w1.heap.size:=by have:=hq1.size;omega
  have hpq:w2.heap.size≠w1.heap.size:=by omega
  generalize w2.alloc _=W6 at *
  generalize w2.heap.size=p at *
  generalize w1.heap.size=q at *
  clear hz hq1 hq2
 all_goals
  refine RF.zaT (i:=8) (fun w'=>(w'.setCell ⟨p,0,none⟩ (.int .i64 x2)).setCell ⟨p,1,none⟩ (.int .i64 y2)) rfl rfl (by kernel_rfl) (by rfl) (fun w' hq=>?es1) (fun w'=>zkP hbp w') (fun w7 hq7=>?_)
  case es1 =>
   have hc:=hT.keep hq hT.lt
   have e0:=hc.cell
   have f0:=hc.frozen 0
   have f1:=hc.frozen 1
   go_simp;try with_reducible rfl
  simp only[Act.put]
  have hT7:=((hT.keep hq7 hT.lt).set 0 (.int .i64 x2)).set 1 (.int .i64 y2)
  have hU7:=((hU.keep hq7 hU.lt).setOther hpq 0 (.int .i64 x2)).setOther hpq 1 (.int .i64 y2)
  simp only[List.set_cons_zero,List.set_cons_succ]at hT7
  have hl7:Below W.drew.heap.size W.drew ((w7.setCell ⟨p,0,none⟩ (.int .i64 x2)).setCell ⟨p,1,none⟩ (.int .i64 y2)):=((Q.trans hq6 hq7).setCell (p:=⟨p,0,none⟩) hbp _).setCell (p:=⟨p,1,none⟩) hbp _
  clear hT hU hq6 hq7
  generalize (w7.setCell ⟨p,0,none⟩ (.int .i64 x2)).setCell ⟨p,1,none⟩ (.int .i64 y2)=w8 at *
  refine RF.zaT (i:=9) (fun w'=>(w'.setCell ⟨q,0,none⟩ (.int .i64 x3)).setCell ⟨q,1,none⟩ (.int .i64 y3)) rfl rfl (by kernel_rfl) (by rfl) (fun w' hq=>?es2) (fun w'=>zkP hbq w') (fun w9 hq9=>?_)
  case es2 =>
   have hc:=hU7.keep hq hU7.lt
   have e0:=hc.cell
   have f0:=hc.frozen 0
   have f1:=hc.frozen 1
   go_simp;try with_reducible rfl
  simp only[Act.put]
  have hT9:=((hT7.keep hq9 hT7.lt).setOther (Ne.symm hpq) 0 (.int .i64 x3)).setOther (Ne.symm hpq) 1 (.int .i64 y3)
  have hU9:=((hU7.keep hq9 hU7.lt).set 0 (.int .i64 x3)).set 1 (.int .i64 y3)
  simp only[List.set_cons_zero,List.set_cons_succ]at hU9
  have hl9:Below W.drew.heap.size W.drew ((w9.setCell ⟨q,0,none⟩ (.int .i64 x3)).setCell ⟨q,1,none⟩ (.int .i64 y3)):=((Below.trans hl7 (hq9.mono hl7.size)).setCell (p:=⟨q,0,none⟩) hbq _).setCell (p:=⟨q,1,none⟩) hbq _
  clear hT7 hU7 hl7 hq9
  generalize (w9.setCell ⟨q,0,none⟩ (.int .i64 x3)).setCell ⟨q,1,none⟩ (.int .i64 y3)=w10 at *
  refine RF.zh (by kernel_rfl) (fun w3 hq3=>?_)
  simp only[List.drop_succ_cons,List.drop_nil]
  have hT3:=hT9.keep hq3 hT9.lt
  have hU3:=hU9.keep hq3 hU9.lt
  have t0:=hT3.cell
  have u0:=hU3.cell
  have hqq:Q W w3:=Q.trans hqd (Below.trans hl9 (hq3.mono hl9.size))
  have hQ3:Q w w3:=Q.trans hq0 hqq
  have Z3:=Z.keep hqq Z.lt
  have z0:=Z3.cell
  have f0:=Z3.frozen 0
  have f1:=Z3.frozen 1
  have f2:=Z3.frozen 2
  have f3:=Z3.frozen 3
  clear hT9 hU9 hl9 hq3 hT3 hU3
  go_wp2
  have Z4:=(((Z3.set 0 (.int .i64 (min x2 x3))).set 1 (.int .i64 (min y2 y3))).set 2 (.int .i64 (max x2 x3))).set 3 (.int .i64 (max y2 y3))
  simp only[List.set_cons_zero,List.set_cons_succ]at Z4
  have hQ4:=(((hQ3.setCell (p:=⟨w.heap.size+1,0,none⟩) (by simp) (.int .i64 (min x2 x3))).setCell (p:=⟨w.heap.size+1,1,none⟩) (by simp) (.int .i64 (min y2 y3))).setCell (p:=⟨w.heap.size+1,2,none⟩) (by simp) (.int .i64 (max x2 x3))).setCell (p:=⟨w.heap.size+1,3,none⟩) (by simp) (.int .i64 (max y2 y3))
  have HR:=zmI Z4
  refine bodyPost_ret (HR Tryz.f253 2 rfl _ rfl) rfl ⟨rfl,hQ4⟩
def zhT(v:Int):Bool:=decide (0≤v) && decide (v≤65536)
def zlm(s:Sd):Bool:=if s.gable then s.rise == 0 && s.run == 0 else decide (1≤s.rise) && decide (s.rise≤48) && (decide (1≤s.run) && decide (s.run≤48))
theorem zir(s:Sd):zah s=(zlm s && (zhT s.x && zhT s.y && zhT s.plate && zhT s.over)):=rfl
theorem zoC{s:Sd}(hh:zlm s=true)(h:∀ j,j<4→zhT ([s.x,s.y,s.plate,s.over].getD j 0)=true):zah s=true:=by
 have h0:zhT s.x=true:=h 0 (by omega)
 have h1:zhT s.y=true:=h 1 (by omega)
 have h2:zhT s.plate=true:=h 2 (by omega)
 have h3:zhT s.over=true:=h 3 (by omega)
 rw[zir,hh,h0,h1,h2,h3];rfl
theorem zpX{s:Sd}{j:Nat}(hj:j<4)(h:zhT ([s.x,s.y,s.plate,s.over].getD j 0)=false):zah s=false:=by
 have hc:j=0∨j=1∨j=2∨j=3:=by omega
 rw[zir]
 rcases hc with rfl | rfl | rfl | rfl
 ·have h0:zhT s.x=false:=h
  rw[h0];simp
 ·have h0:zhT s.y=false:=h
  rw[h0];simp
 ·have h0:zhT s.plate=false:=h
  rw[h0];simp
 ·have h0:zhT s.over=false:=h
  rw[h0];simp
theorem zmO{s:Sd}(h:zlm s=false):zah s=false:=by rw[zir,h];rfl
theorem zmW(s:Sd)(w:World):CR 184 #[.agg (sdC s).toArray] w (.bool (zah s)):=by
 have HY:=LH (zoC (s:=s))
 have HN:=LH (fun j=>zpX (s:=s) (j:=j))
 have HH:=LH (zmO (s:=s))
 have hhd:zlm s=(if s.gable then s.rise == 0 && s.run == 0 else decide (1≤s.rise) && decide (s.rise≤48) && (decide (1≤s.run) && decide (s.run≤48))):=rfl
 obtain⟨L,hL⟩:∃ L:List Int,[s.x,s.y,s.plate,s.over]=L:=⟨_,rfl⟩
 rw[hL]at HY HN
 generalize zah s=rg at *
 generalize zlm s=hd at *
 obtain⟨x,y,rise,run,gable,plate,over⟩:=s
 simp only at hhd hL
 unfold sdC
 simp only
 have HB:=LH (fun w=>zeG rise 1 48 w)
 have HC:=LH (fun w=>zeG run 1 48 w)
 have HL:=LH (fun(v:Int) w=>zeG v 0 65536 w)
 generalize (decide (1≤rise) && decide (rise≤48))=b1 at *
 generalize (decide (1≤run) && decide (run≤48))=b2 at *
 go_enter Tryz.func184,Tryz.ntmps184
 cases gable
 ·simp only[Bool.false_eq_true,if_false]at hhd
  go_wp2_with fail
  refine cx (HB.out _) fun w2 hq2=>?_
  have A:=(Blk.new w [.int .i64 x,.int .i64 y,.int .i64 rise,.int .i64 run,.bool false,.int .i64 plate,.int .i64 over] 82).keep hq2 (by simp)
  replace hq2:Q w w2:=Q.trans ((Below.refl _ w).alloc (Nat.le_refl _) _) hq2
  have d3:=A.cell 3
  simp only[zs4,zs5]at d3
  cases b1
  ·have hr:=HH.out hhd
   subst hr
   go_wp2
   go_ret
   exact⟨rfl,hq2⟩
  ·go_wp2_with fail
   refine cx (HC.out _) fun w3 hq3=>?_
   clear d3
   replace A:=A.keep hq3 A.lt
   replace hq2:=Q.trans hq2 hq3
   clear hq3
   cases b2
   ·have hr:=HH.out hhd
    subst hr
    go_wp2
    go_ret
    exact⟨rfl,hq2⟩
   ·replace HY:=LH (HY.out hhd)
    have d0:=A.cell 0
    have d1:=A.cell 1
    have d5:=A.cell 5
    have d6:=A.cell 6
    simp only[zs4,zs5]at d0 d1 d5 d6
    clear HH hhd HB HC
    go_wp2
    clear A d0 d1 d5 d6
    have hW0:Q w (w3.alloc (.cells #[.int .i64 x,.int .i64 y,.int .i64 plate,.int .i64 over] 3)):=Q.trans hq2 ((Below.refl _ w3).alloc (Nat.le_refl _) _)
    have hB:=Blk.new w3 [.int .i64 x,.int .i64 y,.int .i64 plate,.int .i64 over] 3
    generalize w3.alloc (.cells #[.int .i64 x,.int .i64 y,.int .i64 plate,.int .i64 over] 3)=W0 at *
    clear hq2
    generalize w3.heap.size=B at *
    go_loopw [35] (fun iv wr=>∃ k:Nat,k≤4∧iv=.int .i64 k∧Hid (∀ j,j<k→zhT (L.getD j 0)=true)∧Q W0 wr) (fun iv _=>4 - (intOf iv).toNat)
    case atStart=>exact⟨0,by omega,rfl,LH (fun j hj=>absurd hj (Nat.not_lt_zero _)),Q.refl _⟩
    case round =>
     obtain⟨k,hk,rfl,HA,hQr⟩:=hrel
     have hBr:=hB.keep hQr hB.lt
     by_cases hlt:k<4
     ·have hc:wr.cell? ⟨B,k,none⟩=some (.int .i64 (L.getD k 0)):=by
       have hcc:=hBr.cell k
       rw[hcc,← hL]
       have h4:k=0∨k=1∨k=2∨k=3:=by omega
       rcases h4 with rfl | rfl | rfl | rfl <;> rfl
      have hkz:(k:Int)<4:=by omega
      have hk0:(0:Int)≤k:=by omega
      have HV:=LH (HL.out (L.getD k 0))
      have HNk:=LH (HN.out k hlt)
      have HAk:Hid (zhT (L.getD k 0)=true→∀ j,j<k+1→zhT (L.getD j 0)=true):=LH (fun h j hj=>by
       rcases Nat.lt_or_ge j k with h1 | h1
       ·exact HA.out j h1
       ·obtain rfl:j=k:=by omega
        exact h)
      have hin:zhT (L.getD k 0)=(decide (0≤L.getD k 0) && decide (L.getD k 0≤65536)):=rfl
      generalize (decide (0≤L.getD k 0) && decide (L.getD k 0≤65536))=bb at *
      generalize zhT (L.getD k 0)=b7 at *
      generalize L.getD k 0=v at *
      subst hin
      clear HN HL HA hL hB
      go_wp2_with fail
      refine cx (HV.out _) fun w5 hq5=>?_
      cases b7
      ·have hr:=HNk.out rfl
       subst hr
       go_wp2
       go_ret
       exact⟨rfl,Q.trans hW0 (Q.trans hQr hq5)⟩
      ·have HK:=LH (HAk.out rfl)
       clear HAk HNk HV
       go_wp2
       go_roundw
       case rel=>exact⟨k+1,by omega,by go_num,HK,Q.trans hQr hq5⟩
       case measure=>simp[intOf];omega
     ·obtain rfl:k=4:=by omega
      have hr:=HY.out HA.out
      subst hr
      go_wp2
      go_ret
      exact⟨rfl,Q.trans hW0 hQr⟩
 ·simp only[if_true]at hhd
  by_cases c1:rise=0
  ·have e1:(rise == 0)=true:=by rw[c1];rfl
   have e1':(rise != 0)=false:=by rw[c1];rfl
   by_cases c2:run=0
   ·have e2:(run == 0)=true:=by rw[c2];rfl
    have e2':(run != 0)=false:=by rw[c2];rfl
    replace HY:=LH (HY.out (by rw[hhd,e1,e2];rfl))
    clear HH hhd HB HC e1 e1' e2 e2'
    subst c1 c2
    go_wp2
    have hqa:Q w (w.alloc (.cells #[.int .i64 x,.int .i64 y,.int .i64 0,.int .i64 0,.bool true,.int .i64 plate,.int .i64 over] 82)):=(Below.refl _ w).alloc (Nat.le_refl _) _
    have hW0:Q w ((w.alloc (.cells #[.int .i64 x,.int .i64 y,.int .i64 0,.int .i64 0,.bool true,.int .i64 plate,.int .i64 over] 82)).alloc (.cells #[.int .i64 x,.int .i64 y,.int .i64 plate,.int .i64 over] 3)):=Q.trans hqa ((Below.refl _ (w.alloc (.cells #[.int .i64 x,.int .i64 y,.int .i64 0,.int .i64 0,.bool true,.int .i64 plate,.int .i64 over] 82))).alloc (Nat.le_refl _) _)
    have hB:=Blk.new (w.alloc (.cells #[.int .i64 x,.int .i64 y,.int .i64 0,.int .i64 0,.bool true,.int .i64 plate,.int .i64 over] 82)) [.int .i64 x,.int .i64 y,.int .i64 plate,.int .i64 over] 3
    rw[World.size_alloc]at hB
    generalize (w.alloc (.cells #[.int .i64 x,.int .i64 y,.int .i64 0,.int .i64 0,.bool true,.int .i64 plate,.int .i64 over] 82)).alloc (.cells #[.int .i64 x,.int .i64 y,.int .i64 plate,.int .i64 over] 3)=W0 at *
    clear hqa
    generalize (w.heap.size+1)=B at *
    go_loopw [35] (fun iv wr=>∃ k:Nat,k≤4∧iv=.int .i64 k∧Hid (∀ j,j<k→zhT (L.getD j 0)=true)∧Q W0 wr) (fun iv _=>4 - (intOf iv).toNat)
    case atStart=>exact⟨0,by omega,rfl,LH (fun j hj=>absurd hj (Nat.not_lt_zero _)),Q.refl _⟩
    case round =>
     obtain⟨k,hk,rfl,HA,hQr⟩:=hrel
     have hBr:=hB.keep hQr hB.lt
     by_cases hlt:k<4
     ·have hc:wr.cell? ⟨B,k,none⟩=some (.int .i64 (L.getD k 0)):=by
       have hcc:=hBr.cell k
       rw[hcc,← hL]
       have h4:k=0∨k=1∨k=2∨k=3:=by omega
       rcases h4 with rfl | rfl | rfl | rfl <;> rfl
      have hkz:(k:Int)<4:=by omega
      have hk0:(0:Int)≤k:=by omega
      have HV:=LH (HL.out (L.getD k 0))
      have HNk:=LH (HN.out k hlt)
      have HAk:Hid (zhT (L.getD k 0)=true→∀ j,j<k+1→zhT (L.getD j 0)=true):=LH (fun h j hj=>by
       rcases Nat.lt_or_ge j k with h1 | h1
       ·exact HA.out j h1
       ·obtain rfl:j=k:=by omega
        exact h)
      have hin:zhT (L.getD k 0)=(decide (0≤L.getD k 0) && decide (L.getD k 0≤65536)):=rfl
      generalize (decide (0≤L.getD k 0) && decide (L.getD k 0≤65536))=bb at *
      generalize zhT (L.getD k 0)=b7 at *
      generalize L.getD k 0=v at *
      subst hin
      clear HN HL HA hL hB
      go_wp2_with fail
      refine cx (HV.out _) fun w5 hq5=>?_
      cases b7
      ·have hr:=HNk.out rfl
       subst hr
       go_wp2
       go_ret
       exact⟨rfl,Q.trans hW0 (Q.trans hQr hq5)⟩
      ·have HK:=LH (HAk.out rfl)
       clear HAk HNk HV
       go_wp2
       go_roundw
       case rel=>exact⟨k+1,by omega,by go_num,HK,Q.trans hQr hq5⟩
       case measure=>simp[intOf];omega
     ·obtain rfl:k=4:=by omega
      have hr:=HY.out HA.out
      subst hr
      go_wp2
      go_ret
      exact⟨rfl,Q.trans hW0 hQr⟩
   ·have e2:(run == 0)=false:=by simpa using c2
    have e2':(run != 0)=true:=by simpa using c2
    have hr:=HH.out (by rw[hhd,e1,e2];rfl)
    subst hr
    clear hhd HY HN HH
    go_wp2
    go_ret
    exact⟨rfl,bt⟩
  ·have e1:(rise == 0)=false:=by simpa using c1
   have e1':(rise != 0)=true:=by simpa using c1
   have hr:=HH.out (by rw[hhd,e1];rfl)
   subst hr
   clear hhd HY HN HH
   go_wp2
   go_ret
   exact⟨rfl,bt⟩
end
end Go.Proofs.YtapnkgdnflofbaaGreatDoor
