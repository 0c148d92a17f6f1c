/-
  Walks of package plan: whether the corners of any plan are right.; Regions that draw their order, in which rows of one's own grow.; Walks of package plan, at a plan of one ring: whether its sides cross.; The rectangles of the sides of any plan, and what the program holds of them. Mathematics, and what stays.
-/
import Derived.Test.YtapnkgdnflofbaaGreatDoorCH16
import Derived.Test.YtapnkgdnflofbaaGreatDoorCH14
import Derived.Maps.AppendAt
set_option maxRecDepth 100000
set_option maxHeartbeats 4000000
namespace Go.Proofs.YtapnkgdnflofbaaGreatDoor
section
open Go.RowKit Go.Shelf Kp
attribute [local go_sem] Oper.semAt_some
def zkg(R:List (List Sd))(k:Nat):Bool:=(List.range k).any fun i=>ztt (ringAt R i)
theorem zoo(R:List (List Sd))(k:Nat):zkg R (k+1)=(zkg R k || zkh (ringAt R k) (ringAt R k).length):=zff _ _
theorem zo5{R:List (List Sd)}{i:Nat}(hi:i<R.length)(h:ziM (ringAt R i)=false):zdw R=false:=by
 unfold zdw
 rw[Bool.and_eq_false_iff]
 left
 rw[Bool.eq_false_iff]
 intro hc
 rw[List.all_eq_true]at hc
 have:=hc i (List.mem_range.2 hi)
 rw[h]at this
 exact absurd this (by decide)
theorem zm6{R:List (List Sd)}(h:∀ i,i<R.length→ziM (ringAt R i)=true):zdw R=zkg R R.length:=by
 unfold zdw zkg
 have:((List.range R.length).all fun i=>ziM (ringAt R i))=true:=by
  rw[List.all_eq_true]
  exact fun i hi=>h i (List.mem_range.1 hi)
 rw[this,Bool.true_and]
theorem Marks.below{B b:Nat}{w w':World}(hb:Below b w w'):∀ {N:Nat} {ds:List Deferred},N≤b→Marks B N ds w→Marks B N ds w'
 | _,[],_,_=>trivial
 | _,_::_,hN,⟨D,h1,h2,h3,h4,h5⟩=>⟨D,h1,h2,h3,(hb.block D (by omega)).trans h4,Marks.below hb (by omega) h5⟩
structure JoinAt (w:World) (R:List (List Sd)) (k:Nat) (W:World):Prop where
 r:Boxed W w.heap.size 4 (.bool false)
 s:Boxed W (w.heap.size+1) 4 (.bool (zkg R k))
 all:∀ j,j<k→ziM (ringAt R j)=true
 q:Q w W
 sz:w.heap.size+2≤W.heap.size
theorem zo4(R:List (List Sd))(hn:R.length≤1000)(hlen:∀ r∈R,0<r.length∧r.length≤1000)(hok:∀ r∈R,∀ i,i<r.length→ArnOk (arn r i))(v:Value)(w:World)(hv:zi9 w v R)(hl0:0<R.length) :
  CallsIn Fence.wide 9 Tryz.prog 190 #[v] w fun e w'=>e=.returned (.bool (zdw R))∧Q w w':=by
 have HRI:Hid (∀ W,Q w W→∃ a cap,v=.slice a R.length cap∧∀ i,i<R.length→∃ b o a2 c2,a=some ⟨b,o,none⟩∧W.cell? ⟨b,o+i,none⟩=some (.slice a2 (ringAt R i).length c2)∧zci W a2 (ringAt R i)∧∀ k∈zbM a2,k<w.heap.size):=LH (fun W hq=>by
  obtain⟨a,cap,rfl,hc⟩:=hv.ring (fun r hr=>(hlen r hr).1)
  refine⟨a,cap,rfl,fun i hi=>?_⟩
  obtain⟨b,o,a2,c2,h1,h2,h3,h4⟩:=hc i hi
  exact⟨b,o,a2,c2,h1,za hq h2,h3.q hq,h4⟩)
 have HR:Hid (∀ i,i<R.length→0<(ringAt R i).length∧(ringAt R i).length≤1000∧∀ j,j<(ringAt R i).length→ArnOk (arn (ringAt R i) j)):=LH (fun i hi=>by
  have hm:ringAt R i∈R:=by rw[zaE hi];exact List.getElem_mem hi
  exact⟨(hlen _ hm).1,(hlen _ hm).2,hok _ hm⟩)
 obtain⟨a0,cap0,rfl,hc⟩:=hv.ring (fun r hr=>(hlen r hr).1)
 obtain⟨b0,o0,-,-,rfl,-⟩:=hc 0 hl0
 clear hc hv hlen hok
 refine callsIn_of_wp_marks Tryz.func190 rfl trivial ?_ rfl
 simp only[Tryz.ntmps190,List.size_toArray,List.length_cons,List.length_nil,Nat.reduceAdd,Nat.reduceSub,Array.replicate_succ,Array.replicate_zero,List.push_toArray,List.append_toArray,List.nil_append,List.cons_append]
 refine wpIn_wide.2 ?_
 go_wp2
 obtain⟨W0,hW0⟩:∃ W0,(w.alloc (.cells #[.bool false] 4)).alloc (.cells #[.bool false] 4)=W0:=⟨_,rfl⟩
 have hq0:Q w W0:=by rw[← hW0];exact bt
 have hs0:W0.heap.size=w.heap.size+2:=by rw[← hW0];simp
 have bR:Boxed W0 w.heap.size 4 (.bool false):=by
  rw[← hW0]
  exact(Boxed.new w 4 (.bool false)).alloc _
 have bO:Boxed W0 (w.heap.size+1) 4 (.bool (zkg R 0)):=by
  rw[← hW0]
  have:=Boxed.new (w.alloc (.cells #[.bool false] 4)) 4 (.bool (zkg R 0))
  rw[World.size_alloc]at this;exact this
 rw[hW0]
 clear hW0
 refine wp_loop (fun a W=>∃ (k:Nat) (ds:List Deferred) (u5 u11 u12 u13 u14 u15 u47:Value),k≤R.length∧a={ tmps:=#[.slice (some ⟨b0,o0,none⟩) R.length cap0,undef,.pointer (some ⟨w.heap.size,0,none⟩),.pointer (some ⟨w.heap.size+1,0,none⟩),undef,u5,undef,undef,.slice (some ⟨b0,o0,none⟩) R.length cap0,.int .i64 (R.length:Nat),.int .i64 (k:Nat),u11,u12,u13,u14,u15,undef,undef,undef,undef,undef,undef,undef,undef,undef,undef,undef,undef,undef,undef,undef,undef,undef,undef,undef,undef,undef,undef,undef,undef,undef,undef,undef,undef,undef,undef,undef,u47,undef],defers:=ds }∧JoinAt w R k W∧Marks (w.heap.size+2) W.heap.size ds W) (fun a _=>R.length - (intOf (a.tmps.getD 10 undef)).toNat) ⟨0,[],undef,undef,undef,undef,undef,undef,undef,by omega,rfl,⟨bR,bO,fun j hj=>absurd hj (Nat.not_lt_zero _),hq0,by omega⟩,trivial⟩ ?_
 rintro ac W⟨k,ds,u5,u11,u12,u13,u14,u15,u47,hk,rfl,hJ,hM⟩
 by_cases hlt:k<R.length
 ·obtain⟨a',cap',he,hcc⟩:=HRI.out W hJ.q
  obtain⟨b1,o1,a,cap,ha,hcell,hrow,hba⟩:=hcc k hlt
  injection he with he1 he2 he3
  rw[ha]at he1
  injection he1 with he1
  injection he1 with he4 he5
  subst he3 he4 he5
  have hkz:(k:Int)<R.length:=by omega
  have hk0:(0:Int)≤k:=by omega
  obtain⟨hr0,hlenr,hr⟩:=HR.out k hlt
  have HNO:=LH (zo5 hlt)
  obtain⟨r,hrr⟩:∃ r,ringAt R k=r:=⟨_,rfl⟩
  rw[hrr]at hcell hrow hr0 hlenr hr HNO
  have HRR:=LH hrr
  clear hrr hcc ha
  go_wp2_with fail
  refine(zdM a r.length cap _).mono ?_
  rintro e w2⟨rfl,rfl⟩
  obtain⟨W2,hW2⟩:∃ W2,W.alloc (.cells #[.slice a r.length cap] 75)=W2:=⟨_,rfl⟩
  have hq2:Q W W2:=by rw[← hW2];exact(Below.refl _ W).alloc (Nat.le_refl _) _
  have hs2:W2.heap.size=W.heap.size+1:=by rw[← hW2];simp
  have bS:Boxed W2 W.heap.size 75 (.slice a r.length cap):=by rw[← hW2];exact Boxed.new W _ _
  obtain⟨jr,js,jall,jq,jz⟩:=hJ
  have hw2:Q w W2:=Q.trans jq hq2
  have bR:=zu jr (KC.q hq2)
  have bO:=zu js (KC.q hq2)
  have hM2:=Marks.below hq2 (Nat.le_refl _) hM
  obtain⟨s0,hs0'⟩:∃ s0,zkg R k=s0:=⟨_,rfl⟩
  rw[hs0']at bO
  have HS0:=LH hs0'
  clear hs0'
  rw[hW2]
  clear hW2
  go_wp2_with fail
  refine(wpIn_wide (n:=9)).1 ?_
  refine zbb (m:=9) (gf:=288) (lb:=#[.pointer (some ⟨W.heap.size,0,none⟩)]) (by omega) rfl (enters_of Tryz.func288 (by kernel_rfl) rfl)
   (zdH W.heap.size r a cap hlenr W2 8 (by omega) bS.cell (hrow.q hq2)) (fun k hk=>by
    rw[List.mem_cons]at hk
    rcases hk with rfl | hk
    ·omega
    ·have:=hba k hk;omega) (fun _=>rfl)
   (fun i V=>Boxed V w.heap.size 4 (.bool false)∧Boxed V (w.heap.size+1) 4 (.bool (s0 || zkh r i))∧(∀ j,j<i→zkb (arn r j)=true)∧Q w V∧Marks (w.heap.size+2) W.heap.size ds V)
   (fun c V=>c=.ret∧Boxed V w.heap.size 4 (.bool false)∧ziM r=false∧Q w V∧Marks (w.heap.size+2) W.heap.size ds V)
   (fun i V V' h kc hb=>⟨zu h.1 kc,zu h.2.1 kc,h.2.2.1,Below.trans h.2.2.2.1 (hb.mono hw2.size),Marks.below hb (by omega) h.2.2.2.2⟩) (fun c V V' h kc hb=>⟨h.1,zu h.2.1 kc,h.2.2.1,Below.trans h.2.2.2.1 (hb.mono hw2.size),Marks.below hb (by omega) h.2.2.2.2⟩) ⟨bR,by rw[show zkh r 0=false from rfl,Bool.or_false];exact bO,fun i hi=>absurd hi (Nat.not_lt_zero _),hw2,hM2⟩
   (fun x ac V=>∃ b,w.heap.size+2≤b∧ac={ tmps:=#[.slice (some ⟨b0,o0,none⟩) R.length cap0,undef,.pointer (some ⟨w.heap.size,0,none⟩),.pointer (some ⟨w.heap.size+1,0,none⟩),undef,.slice a r.length cap,undef,.pointer (some ⟨b,0,none⟩),.slice (some ⟨b0,o0,none⟩) R.length cap0,.int .i64 (R.length:Nat),.int .i64 (k:Nat),.bool true,.pointer (some ⟨b0,o0+k,none⟩),.slice a r.length cap,.slice a r.length cap,.func (.func 288) #[] #[.pointer (some ⟨W.heap.size,0,none⟩)],.int .i64 (x.1:Nat),.agg (zfN (arn r x.1)).toArray,undef,undef,undef,undef,undef,undef,undef,undef,undef,undef,undef,undef,undef,undef,undef,undef,undef,undef,undef,undef,undef,undef,undef,undef,undef,undef,undef,undef,undef,u47,undef],defers:=[] }∧Blk V b (zfN (arn r x.1)) 305)
   (fun x ac V V' h kc=>by
    obtain⟨b,h1,h2,h3⟩:=h
    exact⟨b,h1,h2,h3.kc kc⟩)
   ?assign ?body ?done ?stop
  case assign =>
   intro l x V K hV hK
   have hst:=fun V=>zew (arn r x.1) V
   have hk:=hK _ (V.alloc (.cells (zfN (arn r x.1)).toArray 305)) ((Below.refl _ V).alloc (Nat.le_refl _) _) ⟨V.heap.size,by omega,rfl,Blk.new V _ _⟩
   clear hK
   gi_wp2
   exact hk
  case stop =>
   rintro D c V hD⟨rfl,hb,hjf,hQ,hMV⟩ hK
   have hje:=HNO.out hjf
   gi_wp2
   exact zb0 _ (D+1) V ⟨D,rfl,by omega,by omega,hK,hMV.mono (by omega)⟩ (fun V' kc hb'=>⟨_,zcz _ 2 rfl _ _ w.heap.size _ rfl (zu hb kc).cell,by rw[hje],Below.trans hQ (hb'.mono (by omega))⟩)
  case body =>
   rintro l i hi a1 V⟨hbR,hbO,hall,hQ,hMV⟩ ⟨b,hbb,rfl,hA⟩
   simp only at hA ⊢
   have hok:=hr i hi
   have HN:Hid (zkb (arn r i)=true→∀ j,j<i+1→zkb (arn r j)=true):=LH (fun h j hj=>by
    rcases Nat.lt_or_ge j i with h1 | h1
    ·exact hall j h1
    ·obtain rfl:j=i:=by omega
     exact h)
   have HY:Hid (zkb (arn r i)=false→ziM r=false):=LH (zsI hi)
   have hsn:(s0 || zkh r (i+1))=((s0 || zkh r i) || !(arn r i).o.gable):=by rw[zop,Bool.or_assoc]
   obtain⟨so',hso'⟩:∃ x,(s0 || zkh r (i+1))=x:=⟨_,rfl⟩
   rw[hso']at hsn
   have HSO:=LH hso'
   clear hso'
   generalize (s0 || zkh r i)=so at *
   clear hall
   have hst:zkb (arn r i)=(zqb (arn r i) || !((arn r i).o.gable || ((arn r i).b.gable || ((arn r i).o.plate != (arn r i).b.plate)))):=rfl
   generalize zkb (arn r i)=sf at *
   generalize arn r i=ar at *
   have HL:=LH (fun w=>zp1 ar hok w)
   generalize zqb ar=lf at *
   have d4:V.cell? ⟨b,4,none⟩=some (.bool ar.b.gable):=hA.cell 4
   have d5:V.cell? ⟨b,5,none⟩=some (.int .i64 ar.b.plate):=hA.cell 5
   have d11:V.cell? ⟨b,11,none⟩=some (.bool ar.o.gable):=hA.cell 11
   have d12:V.cell? ⟨b,12,none⟩=some (.int .i64 ar.o.plate):=hA.cell 12
   have cO:=hbO.cell
   have fO:=hbO.frozen
   have hb1:b≠w.heap.size+1:=by omega
   have A1:=hA.setOther (b':=w.heap.size+1) (by omega) 0 (.bool so')
   have bO1:=hbO.set (.bool so')
   have bR1:=zbq hbR (g:=w.heap.size+1) (by omega) 0 (.bool so')
   have hQ1:Q w (V.setCell ⟨w.heap.size+1,0,none⟩ (.bool so')):=hQ.setCell (p:=⟨w.heap.size+1,0,none⟩) (by simp) _
   have ko1:KeepsOthers V (V.setCell ⟨w.heap.size+1,0,none⟩ (.bool so')):=KeepsOthers.setCell _ _ _
   have kf1:=ko1.from W2.heap.size
   have kb1:zI (W.heap.size::zbM a) V (V.setCell ⟨w.heap.size+1,0,none⟩ (.bool so')):=zI.set _ (fun k hk=>by
    rw[List.mem_cons]at hk
    rcases hk with rfl | hk
    ·omega
    ·have:=hba k hk;omega) _ _
   cases so <;> cases hog:ar.o.gable
   all_goals
    rw[hog]at d11 hst hsn
    simp only[Bool.true_or,Bool.false_or,Bool.not_true,Bool.not_false]at hsn
    subst hsn
    gi_wp2_with (refine zdE rfl 305 (.tmp 7) rfl b rfl A1 _ Tryz.underlying305 rfl (by kernel_rfl) ?_)
    refine⟨trivial,?_⟩
    with_reducible refine CallsIn.mono (CallsIn.inRound l (callsIn_wide.2 (HL.out _))) ?_
    rintro e w5⟨rfl,hq5⟩
    have A5:=A1.keep hq5 A1.lt
    have bO5:=zu bO1 (KC.q hq5)
    have bR5:=zu bR1 (KC.q hq5)
    have hQ5:Q w w5:=Below.trans hQ1 (hq5.mono hQ1.size)
    have ko5:KeepsOthers V w5:=ko1.trans (KeepsOthers.of_grownBy (zas hq5 none) (fun j o e=>by cases e))
    have kf5:=ko5.from W2.heap.size
    have kb5:=kb1.trans (zI.q (bs:=W.heap.size::zbM a) hq5)
    have e4:w5.cell? ⟨b,4,none⟩=some (.bool ar.b.gable):=A5.cell 4
    have e5:w5.cell? ⟨b,5,none⟩=some (.int .i64 ar.b.plate):=A5.cell 5
    have e11:w5.cell? ⟨b,11,none⟩=some (.bool ar.o.gable):=A5.cell 11
    have e12:w5.cell? ⟨b,12,none⟩=some (.int .i64 ar.o.plate):=A5.cell 12
    rw[hog]at e11
    have r5:=bR5.cell
    have f5:=bR5.frozen
    have bR6:=bR5.set (.bool false)
    have hQ6:Q w (w5.setCell ⟨w.heap.size,0,none⟩ (.bool false)):=hQ5.setCell (p:=⟨w.heap.size,0,none⟩) (by simp) _
    have ko6:KeepsOthers V (w5.setCell ⟨w.heap.size,0,none⟩ (.bool false)):=ko5.trans (KeepsOthers.setCell _ _ _)
    have kf6:=ko6.from W2.heap.size
    have hM5:=hMV.keep (ko5.from _)
    have hM6:=hMV.keep (ko6.from _)
    clear ko1 ko5 ko6 hMV A1 A5 bO1 bR1 hA hbO hbR d4 d5 d11 d12 HL hQ1 kf1 kb1 hq5
    cases lf
    ·simp only[Bool.false_or,Bool.true_or,Bool.not_true]at hst
     first
      | (
        have hs:sf=false:=hst
        gi_wp2
        exact⟨kf6,rfl,bR6,HY.out hs,hQ6,hM6⟩)
      | (
        cases hbg:ar.b.gable
        ·rw[hbg]at e4 hst
         by_cases hpl:ar.o.plate=ar.b.plate
         ·have hs:sf=true:=by rw[hst,hpl];simp
          have hp1:(ar.o.plate != ar.b.plate)=false:=by rw[hpl];simp
          have hp2:(ar.o.plate == ar.b.plate)=true:=by rw[hpl];simp
          gi_wp2
          exact⟨kf5,kb5,bR5,by rw[HSO.out];exact bO5,HN.out hs,hQ5,hM5⟩
         ·have hs:sf=false:=by rw[hst];simpa using hpl
          have hp1:(ar.o.plate != ar.b.plate)=true:=by simpa using hpl
          have hp2:(ar.o.plate == ar.b.plate)=false:=by simpa using hpl
          gi_wp2
          exact⟨kf6,rfl,bR6,HY.out hs,hQ6,hM6⟩
        ·rw[hbg]at e4 hst
         have hs:sf=false:=hst
         gi_wp2
         exact⟨kf6,rfl,bR6,HY.out hs,hQ6,hM6⟩)
    ·have hs:sf=true:=hst
     gi_wp2
     exact⟨kf5,kb5,bR5,by rw[HSO.out];exact bO5,HN.out hs,hQ5,hM5⟩
  case done =>
   rintro D V hD⟨hbR,hbO,hall,hQ,hMV⟩ hK
   have hjf:=zrB hall
   have hDz:D<V.heap.size:=(Array.getElem?_eq_some_iff.1 hK).1
   have hMn:Marks (w.heap.size+2) V.heap.size ({ target:=.collected D,args:=#[] }::ds) V:=⟨D,rfl,by omega,hDz,hK,hMV.mono (by omega)⟩
   have hJn:JoinAt w R (k+1) V:=⟨hbR,by rw[zoo,HS0.out,HRR.out];exact hbO,fun j hj=>by
    rcases Nat.lt_or_ge j k with h | h
    ·exact jall j h
    ·obtain rfl:j=k:=by omega
     rw[HRR.out];exact hjf,hQ,by omega⟩
   have wk:=Go.IntWalk.i64_in ((k:Int)+1) (by omega)
   clear hbR hbO hall hQ hMV hK
   go_wp2
   exact⟨⟨k+1,_,_,_,_,_,_,_,_,by omega,rfl,hJn,hMn⟩,by simp[intOf];omega⟩
 ·obtain rfl:k=R.length:=by omega
  obtain⟨jr,js,jall,jq,jz⟩:=hJ
  have hje:=zm6 jall
  have c3:=js.cell
  have c2:=jr.cell
  have f2:=jr.frozen
  obtain⟨so,hso⟩:∃ x,zkg R R.length=x:=⟨_,rfl⟩
  rw[hso]at c3 hje
  have HJE:=LH hje
  have bR2:=jr.set (.bool so)
  have hQ2:Q w (W.setCell ⟨w.heap.size,0,none⟩ (.bool so)):=jq.setCell (p:=⟨w.heap.size,0,none⟩) (by simp) _
  have hM2:=hM.keep ((KeepsOthers.setCell W ⟨w.heap.size,0,none⟩ (.bool so)).from _)
  clear hje hso
  go_wp2
  exact zb0 ds _ _ hM2 (fun V' kc hb'=>⟨_,zcz _ 2 rfl _ _ w.heap.size _ rfl (zu bR2 kc).cell,by rw[HJE.out],Below.trans hQ2 (hb'.mono (by simp))⟩)
end
section
open Go.RowKit Go Kp
theorem zcl{w:World}{B B' size n:Nat}{e:TypeId}{v:Value}{xs:List Value}(h:w.ownsRow B e size v n xs)(hB:B'≤B):w.ownsRow B' e size v n xs:=by
 refine⟨h.1,h.2.elim .inl ?_⟩
 rintro⟨g,cap,cur,hv,hg,r⟩
 exact .inr ⟨g,cap,cur,hv,Nat.le_trans hB hg,r⟩
theorem zcs{P:Program}(w:World){o:Oper}{a:Act}{K:Act→World→Prop}{R:Exit→Act→World→Prop}(s x:Operand)(t:TypeId)
  (ho:o.op=.call { callee:=.builtin .append,args:=#[s,x],argTypes:=#[t,t] })
  (base:Nat)(e:TypeId)(i:TypeInfo)(z:Value)(size bytes:Nat)(ht:P.underlying t=some (.slice e))(hi:P.info? e=some i)(hz:i.zero=some z)
  (hsize:i.size=size)(hby:i.bytes=bytes)(hzs:z.cells.size=size)(hsz:0<size)
  (v:Value)(n:Nat)(xs:List Value)(hs:a.eval s=v)(hown:w.ownsRow base e size v n xs)
  (ad:Addr)(m c:Nat)(news:List Value)(hx:a.eval x=.slice (some ad) m c)(hl:news.length=m*size)(hnews:∀ j u,news[j]? = some u→w.cell? (ad.add j)=some u)(h1:∀ u∈news,u.oneCell'=true)
  (h63:n+m≤maxLen)(hbytes:(n+m)*bytes≤140737488355328)(hbase:base≤w.heap.size)
  (h:∀ v' w',w'.ownsRow base e size v' (n+m) (xs++news)→w.grownBy w' v.ownBlock→K (a.put o.dst v') w'):Oper.wp P o a w K R:=by
 obtain⟨v',w',hr,h2,h3,h4,h5⟩:=run_append_own_at (P:=P) w base t o.type e i z size bytes ht hi hz hsize hby hzs hsz v n xs hown ad m c news hl hnews h1 h63 hbytes hbase
 unfold Oper.wp execOp
 simp only[ho,resolve,invoke,builtin,Sem.run_bind,Sem.run_pure,Result.andThen_ok,List.map_toArray,List.map_cons,List.map_nil,hs,hx,hr]
 exact h v' w' h2 h3
theorem RF.zaH{ρ:QRel}{P:Program}{l:List Oper}{R:Exit→Act→World→Prop}{md:Region.Mode}{n i:Nat}{oi:Oper}{f:Nat}{ls:Array Bool}{a:Act}{w:World}(val:World→Value)(o:Obj)(hi:l[i]? = some oi)(hin:decide (i<n)=true)
  (hr:Region.ready md l.toArray ls=[i])(hw:Region.wanted oi (yielded l.toArray a.tmps)=true)
  (hx:∀ w',Q w w'→(execOp a.eval oi).run P w'=.ok (.value (val w')) (w'.alloc o))
  (h:∀ w',Q w w'→RF.zl ρ P md l R n f (ls.setIfInBounds i true) (a.put oi.dst (val w')) (w'.alloc o)):RF.zl ρ P md l R n (f+1) ls a w :=
 RF.zad hi hin hr hw fun w' hq K hK=>by
  unfold Oper.wp
  rw[hx w' hq]
  exact hK _ _ (ρ.q ((Below.refl _ _).alloc (Nat.le_refl _) _)) (h w' hq)
theorem RF.steadily_both{ρ:QRel}{P:Program}{l:List Oper}{R:Exit→Act→World→Prop}{md:Region.Mode}{n i j:Nat}{oi oj:Oper}{f:Nat}{ls:Array Bool}{a:Act}{w:World}(hi:l[i]? = some oi)(hj:l[j]? = some oj)(hin:decide (i<n)=true)(hjn:decide (j<n)=true)
  (hr:Region.ready md l.toArray ls=[i,j])(hwi:Region.wanted oi (yielded l.toArray a.tmps)=true)(hwj:Region.wanted oj (yielded l.toArray a.tmps)=true)
  (h1:∀ w',Q w w'→∀ K:Act→World→Prop,(∀ v w'',ρ.r w' w''→RF.zl ρ P md l R n f (ls.setIfInBounds i true) (a.put oi.dst v) w''→K (a.put oi.dst v) w'')→Oper.wp P oi a w' K R)
  (h2:∀ w',Q w w'→∀ K:Act→World→Prop,(∀ v w'',ρ.r w' w''→RF.zl ρ P md l R n f (ls.setIfInBounds j true) (a.put oj.dst v) w''→K (a.put oj.dst v) w'')→Oper.wp P oj a w' K R):RF.zl ρ P md l R n (f+1) ls a w:=fun hB inv=>by
 have hri:i∈Region.ready md l.toArray ls:=by rw[hr];simp
 have hrj:j∈Region.ready md l.toArray ls:=by rw[hr];simp
 have hin':i<n:=by simpa using hin
 have hjn':j<n:=by simpa using hjn
 refine⟨fun h=>(by rw[h]at hr;cases hr),fun k hk=>?_⟩
 rw[hr]at hk
 have hk':k=i∨k=j:=by simpa using hk
 rcases hk' with rfl | rfl
 ·refine⟨hin',fun w' hq=>?_⟩
  unfold wpOp
  simp only[zbV hi]
  rw[if_pos hwi]
  exact .inl (h1 w' hq _ fun v w'' hq' hS=>⟨hq',hS hB (inv.set hri hin')⟩)
 ·refine⟨hjn',fun w' hq=>?_⟩
  unfold wpOp
  simp only[zbV hj]
  rw[if_pos hwj]
  exact .inl (h2 w' hq _ fun v w'' hq' hS=>⟨hq',hS hB (inv.set hrj hjn')⟩)
theorem zge{P:Program}{oi:Oper}{a:Act}{w:World}{K:Act→World→Prop}{R:Exit→Act→World→Prop}(v:Value)(o:Obj)(hx:(execOp a.eval oi).run P w=.ok (.value v) (w.alloc o))(h:K (a.put oi.dst v) (w.alloc o)):Oper.wp P oi a w K R:=by
 unfold Oper.wp
 rw[hx]
 exact h
theorem Blk.grown{W W':World}{row:Option Nat}{b:Nat}{cs:List Value}{t:TypeId}(h:Blk W b cs t)(hg:W.grownBy W' row)(hne:some b≠row):Blk W' b cs t:=(hg.block b h.lt hne).trans h
theorem Blk.not_row{W:World}{b:Nat}{cs:List Value}{t e:TypeId}(h:Blk W b cs t)(hte:t≠e){B size k:Nat}{v:Value}{xs:List Value}(hr:W.ownsRow B e size v k xs):some b≠v.ownBlock:=by
 rcases hr.2 with⟨rfl,_⟩|⟨g,cap,cur,rfl,_,hgb,_⟩
 ·simp[Value.ownBlock]
 ·intro e'
  obtain rfl:b=g:=by simpa[Value.ownBlock]using e'
  unfold Blk at h
  rw[h]at hgb
  injection hgb with hgb
  injection hgb with _ hgb _
  exact hte hgb
theorem zfX{w:World}{B1 B2 z1 z2 n1 n2:Nat}{e1 e2:TypeId}{v1 v2:Value}{xs1 xs2:List Value}(h1:w.ownsRow B1 e1 z1 v1 n1 xs1)(h2:w.ownsRow B2 e2 z2 v2 n2 xs2)(he:e1≠e2):v1.ownBlock=none∨v1.ownBlock≠v2.ownBlock:=by
 rcases h1.2 with⟨rfl,_⟩|⟨g1,c1,u1,rfl,_,k1,_⟩
 ·exact .inl rfl
 ·rcases h2.2 with⟨rfl,_⟩|⟨g2,c2,u2,rfl,_,k2,_⟩
  ·exact .inr (by simp[Value.ownBlock])
  ·right
   intro e
   simp only[Value.ownBlock,Option.some.injEq]at e
   subst e
   rw[k1]at k2
   injection k2 with k2
   injection k2 with _ k2 _
   exact he k2
theorem zkC{w:World}{B z n:Nat}{e:TypeId}{v:Value}{xs:List Value}(h:w.ownsRow B e z v n xs):∀ (j:Nat) (o:Obj),v.ownBlock=some j→w.heap[j]? = some o→o.isCells=true:=by
 intro j o hj ho
 rcases h.2 with⟨rfl,_⟩|⟨g,cap,cur,rfl,_,hc,_⟩
 ·cases hj
 ·simp only[Value.ownBlock,Option.some.injEq]at hj
  subst hj
  rw[hc]at ho
  injection ho with ho
  subst ho;rfl
structure Gr (b:Nat) (w w':World):Prop where
 low:Below b w w'
 oth:KeepsOthers w w'
theorem Gr.refl(b:Nat)(w:World):Gr b w w:=⟨Below.refl _ _,KeepsOthers.refl _⟩
theorem Gr.drew{b:Nat}{w w':World}(h:Gr b w w'):Gr b w w'.drew:=⟨Below.drew h.low,h.oth.trans (KeepsOthers.drew _)⟩
theorem Gr.q{b:Nat}{w w1 w2:World}(h:Gr b w w1)(hb:b≤w.heap.size)(hq:Q w1 w2):Gr b w w2 :=
 ⟨Below.trans h.low (hq.mono (Nat.le_trans hb h.low.size)),h.oth.trans (KeepsOthers.of_grownBy (zas hq none) (fun j o e=>by cases e))⟩
theorem Gr.alloc{b:Nat}{w w1:World}(h:Gr b w w1)(hb:b≤w.heap.size)(o:Obj):Gr b w (w1.alloc o):=⟨h.low.alloc (Nat.le_trans hb h.low.size) o,h.oth.trans (KeepsOthers.alloc _ _)⟩
theorem Gr.set{b:Nat}{w w1:World}(h:Gr b w w1){g:Nat}(hg:b≤g)(i:Nat)(v:Value):Gr b w (w1.setCell ⟨g,i,none⟩ v):=⟨h.low.setCell (p:=⟨g,i,none⟩) hg v,h.oth.trans (KeepsOthers.setCell _ _ _)⟩
theorem Gr.row{b:Nat}{w w1 w2:World}(h:Gr b w w1)(hb:b≤w.heap.size){B z n:Nat}{e:TypeId}{v:Value}{xs:List Value}(hr:w1.ownsRow B e z v n xs)(hB:b≤B)(hg:w1.grownBy w2 v.ownBlock):Gr b w w2 :=
 ⟨h.low.grown hg (Nat.le_trans hb h.low.size) (fun j hj=>Nat.le_trans hB (hr.lt j hj).1),h.oth.trans (KeepsOthers.of_grownBy hg (zkC hr))⟩
theorem Gr.trans{b:Nat}{w w1 w2:World}(h:Gr b w w1)(k:Gr b w1 w2):Gr b w w2:=⟨Below.trans h.low k.low,h.oth.trans k.oth⟩
end
section
open Go.RowKit Go.Shelf Kp
attribute [local go_sem] Oper.semAt_some
theorem zd6{w:World}{base size n:Nat}{e:TypeId}{v:Value}{xs:List Value}(h:w.ownsRow base e size v n xs){g:Nat}(hg:g<base)(i:Nat)(u:Value):(w.setCell ⟨g,i,none⟩ u).ownsRow base e size v n xs:=by
 refine⟨h.1,h.2.elim Or.inl ?_⟩
 rintro⟨g',cap,cur,hv,hg',hc,r⟩
 refine Or.inr ⟨g',cap,cur,hv,hg',?_,r⟩
 have hne:g'≠g:=by omega
 simp[World.setCell,Array.getElem?_modify,hc,Ne.symm hne]
theorem zki{w:World}{base size n:Nat}{e:TypeId}{v:Value}{xs:List Value}(h:w.ownsRow base e size v n xs)(hn:0<n):∃ g cap,v=.slice (some ⟨g,0,none⟩) n cap:=by
 cases n with
 | zero=>omega
 | succ k=>exact ownsRow_succ h
theorem zsK:(Tryz.prog.info? 314).map (fun i=>(i.zero,i.size,i.bytes))=some (some (.agg #[.int .i64 0,.int .i64 0,.int .i64 0,.int .i64 0]),4,32):=by kernel_rfl
theorem zql:(Tryz.prog.info? 317).map (fun i=>(i.zero,i.size,i.bytes))=some (some (.agg #[.int .i64 0,.int .i64 0]),2,16):=by kernel_rfl
def zsD(R:Exit→Act→World→Prop):Exit→Act→World→Prop
 | .panic _,_,_=>False
 | e,a,w=>R e a w
theorem zoU{R:Exit→Act→World→Prop}:∀ e a w,zsD R e a w→R e a w:=by
 intro e a w h
 cases e with
 | panic c=>exact h.elim
 | normal=>exact h
 | ret=>exact h
 | exit id=>exact h
 | goto t=>exact h
 | outgrown=>exact h
end
section
open Go.RowKit Go.Shelf Kp
def ztl(t:Bx × Nat × Nat):List Value:=bxC t.1
def ztQ(t:Bx × Nat × Nat):List Value:=[.int .i64 (t.2.1:Nat),.int .i64 (t.2.2:Nat)]
theorem zrJ(t:Bx × Nat × Nat):(ztl t).length=4:=rfl
theorem zn1(t:Bx × Nat × Nat):(ztQ t).length=2:=rfl
def sofar(R:List (List Sd))(k i:Nat):List (Bx × Nat × Nat):=zbD R k++(zik (ringAt R k) k).take i
theorem zoq(R:List (List Sd))(k:Nat):sofar R k 0=zbD R k:=by unfold sofar;simp
theorem zor(R:List (List Sd))(k:Nat){i:Nat}(h:i<(ringAt R k).length):sofar R k (i+1)=sofar R k i++[(zta (arn (ringAt R k) i),k,i)]:=by
 unfold sofar
 rw[List.append_assoc]
 congr 1
 have hl:i<(zik (ringAt R k) k).length:=by rw[zeA];exact h
 rw[List.take_succ_eq_append_getElem hl]
 congr 1
 have:=zrk (n:=k) h
 unfold zch at this
 rw[List.getD_eq_getElem?_getD,List.getElem?_eq_getElem hl]at this
 rw[← this];rfl
theorem zll(R:List (List Sd))(k:Nat):sofar R k (ringAt R k).length=zbD R (k+1):=by
 unfold sofar
 rw[List.take_of_length_le (by rw[zeA];exact Nat.le_refl _)]
 rfl
theorem zj3(R:List (List Sd)):∀ k,k≤R.length→(zbD R k).length≤zaK R
 | k,hk=>by
  have key:∀ k,(zbD R k).length=((R.take k).map List.length).sum:=by
   intro k
   induction k with
   | zero=>rfl
   | succ k ih =>
    show (zbD R k++zik (R.getD k []) k).length=_
    rw[List.length_append,ih,zeA]
    by_cases h:k<R.length
    ·rw[List.take_succ_eq_append_getElem h,List.map_append,List.sum_append,List.getD_eq_getElem?_getD,List.getElem?_eq_getElem h]
     simp
    ·rw[List.take_of_length_le (by omega),List.take_of_length_le (by omega),List.getD_eq_getElem?_getD,List.getElem?_eq_none (by omega)]
     simp
  rw[key]
  unfold zaK
  conv=>rhs;rw[← List.take_append_drop k R,List.map_append,List.sum_append]
  exact Nat.le_add_right _ _
theorem zj2(R:List (List Sd)):∀ k,∀ t∈zbD R k,t.2.1<k∧t.2.2<(ringAt R t.2.1).length∧t.1=zta (arn (ringAt R t.2.1) t.2.2)
 | 0,_,h=>by cases h
 | k+1,t,h=>by
  have h':t∈zbD R k++zik (ringAt R k) k:=h
  rcases List.mem_append.1 h' with h1 | h1
  ·have:=zj2 R k t h1
   exact⟨by omega,this.2⟩
  ·unfold zik at h1
   obtain⟨i,hi,rfl⟩:=List.mem_map.1 h1
   exact⟨Nat.lt_succ_self _,List.mem_range.1 hi,rfl⟩
theorem zpi(R:List (List Sd))(k:Nat)(h:0<(ringAt R k).length):0<(zbD R (k+1)).length:=by
 show 0<(zbD R k++zik (ringAt R k) k).length
 rw[List.length_append,zeA]
 omega
def zsa(B b c:Nat):QRel where
 r:=fun a d=>B≤a.heap.size→b<a.heap.size→c<a.heap.size→Below B a d∧d.heap[b]? = a.heap[b]?∧d.heap[c]? = a.heap[c]?
 refl:=fun _ _ _ _=>⟨Below.refl _ _,rfl,rfl⟩
 trans:=fun h k hB hb hc=>by
  have h1:=h hB hb hc
  have h2:=k (Nat.le_trans hB h1.1.size) (Nat.lt_of_lt_of_le hb h1.1.size) (Nat.lt_of_lt_of_le hc h1.1.size)
  exact⟨Below.trans h1.1 h2.1,h2.2.1.trans h1.2.1,h2.2.2.trans h1.2.2⟩
 q:=fun h hB hb hc=>⟨h.mono hB,h.block b hb,h.block c hc⟩
structure CrossR (w:World) (T:List (Bx × Nat × Nat)) (vA vP:Value) (W:World):Prop where
 bA:Boxed W w.heap.size 311 vA
 bP:Boxed W (w.heap.size+1) 312 vP
 oA:W.ownsRow (w.heap.size+2) 314 4 vA T.length (rowOf ztl T)
 oP:W.ownsRow (w.heap.size+2) 317 2 vP T.length (rowOf ztQ T)
 q:Q w W
 sz:w.heap.size+2≤W.heap.size
theorem CrossR.kc{w:World}{T:List (Bx × Nat × Nat)}{vA vP:Value}{W W':World}(h:CrossR w T vA vP W)(hk:KC W W')(hb:Below W.heap.size W W'):CrossR w T vA vP W' :=
 ⟨zu h.bA hk,zu h.bP hk,zJ h.oA hk,zJ h.oP hk,Below.trans h.q (hb.mono (Nat.le_trans (Nat.le_trans (by omega) h.sz) (Nat.le_refl _))),Nat.le_trans h.sz hb.size⟩
end
end Go.Proofs.YtapnkgdnflofbaaGreatDoor
