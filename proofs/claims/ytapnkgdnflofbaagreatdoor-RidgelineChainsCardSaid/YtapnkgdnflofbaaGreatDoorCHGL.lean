/-
  The law of chains.
-/
import Derived.Test.YtapnkgdnflofbaaGreatDoorCH24
import Derived.Test.YtapnkgdnflofbaaGreatDoorCH27
set_option maxRecDepth 100000
set_option maxHeartbeats 16000000
namespace Go.Proofs.YtapnkgdnflofbaaGreatDoor
open Go.RowKit Go.Shelf Kp
open Go.Lib (decDigits)
attribute [local go_sem] Oper.semAt_some
attribute [local irreducible] wpList
theorem zqe(n:Nat):List.replicate n (Value.int .i64 0)=ivs (List.replicate n 0):=by unfold ivs;rw[List.map_replicate];rfl
theorem zl1{s:List Nat}{i b:Nat}(h:s[i]? = some b):(ivs s)[i]? = some (.int .i64 (b:Int)):=by unfold ivs;rw[List.getElem?_map,h];rfl
theorem zsJ(s:List Nat)(i b:Nat):(ivs s).set i (.int .i64 (b:Int))=ivs (s.set i b):=by unfold ivs;rw[List.map_set]
theorem zlq{w:World}{B g cap:Nat}{x:List Nat}(h:w.ownsRow B 3 1 (.slice (some ⟨g,0,none⟩) x.length cap) x.length (ivs x)){p m:Nat}(hm:x[p]? = some m):w.cell? ⟨g,p,none⟩=some (.int .i64 (m:Int)):=by
 rw[World.ownsRow.cellAt h p (by have:=(List.getElem?_eq_some_iff.1 hm).1;omega)]
 exact zl1 hm
theorem zsv{w:World}{B z n g cap:Nat}{t:TypeId}{xs:List Value}(h:w.ownsRow B t z (.slice (some ⟨g,0,none⟩) n cap) n xs):n≤cap:=by
 rcases h.2 with⟨e,-⟩|⟨g',cap',cur,e,-,-,h1,-⟩
 ·cases e
 ·cases e
  exact h1
theorem zpO{w:World}{B z n:Nat}{t:TypeId}{v:Value}{xs:List Value}(h:w.ownsRow B t z v n xs):∃ a cap,v=.slice a n cap:=by
 rcases h.2 with⟨rfl,rfl⟩|⟨g,cap,cur,rfl,-⟩
 ·exact⟨none,0,rfl⟩
 ·exact⟨_,cap,rfl⟩
theorem zoR{P:Program}{R:Exit→Act→World→Prop}{op:Oper}{a:Act}{w:World}{K:Act→World→Prop}{g:FuncId}{args:Array Value}(hx:(execOp a.eval op).run P w=.ok (.enter g args) w)(h:Calls P g args w fun e w''=>∃ v,e=.returned v∧K (a.put op.dst v) w''):Oper.wp P op a w K R:=by
 unfold Oper.wp
 rw[hx]
 refine h.mono fun e w'' he=>?_
 obtain⟨v,rfl,h2⟩:=he
 exact h2
theorem zph(L:List Ln)(hn0:L.length<2 ^ 58)(k:Int)(v:Value)(w:World)(hE:Env w)(hv:zba 9 lnC w v L)(hS:za9 w) :
  CR 3 #[v,.int .i64 k] w (.bool true):=by
 obtain⟨W0,hW0⟩:∃ W0,w.alloc (.cells #[v] 22)=W0:=⟨_,rfl⟩
 have hq0:Q w W0:=by rw[← hW0];exact bt
 have BL:Blk W0 w.heap.size [v] 22:=by rw[← hW0];exact Blk.new w _ _
 have HV:=LH (hv.keep hq0)
 obtain⟨a,cap,rfl,-⟩:=hv
 have l0:=BL.cell 0
 simp only[List.getElem?_cons_zero]at l0
 have lBL:=BL.lt
 go_enter Tryz.func3,Tryz.ntmps3
 by_cases hn:L.length≤8
 ·have hd8:decide ((8:Int)<(L.length:Int))=false:=decide_eq_false (by omega)
  have HF:=LH (zo3 L hn _ W0 (hE.ofQ hq0) HV.out)
  go_wp2_with fail
  refine HF.out.mono ?_
  rintro e w1⟨bf,rfl,hq1,hb⟩
  have HB:=LH hb
  have hQ1:Q w w1:=Q.trans hq0 hq1
  clear hb hW0 HF l0
  cases bf
  ·clear HB
   go_wp2_with fail
   refine cx (znp _ (hE.ofQ hQ1) (hS.q hQ1)) fun w2 hq2=>?_
   have hQ2:=Q.trans hQ1 hq2
   go_wp2
   go_ret
   exact⟨rfl,hQ2⟩
  ·have HL:=LH (HB.out rfl)
   have HC:=LH (zlv L hn HL.out k _ w1 (hE.ofQ hQ1) (hS.q hQ1) (HV.out.keep hq1))
   replace BL:=BL.keep hq1 BL.lt
   have l1:=BL.cell 0
   simp only[List.getElem?_cons_zero]at l1
   replace lBL:=BL.lt
   clear HB
   go_wp2_with fail
   refine HC.out.mono ?_
   rintro e w2⟨vo,outs,s,rfl,hq2,hO,hC⟩
   replace BL:=BL.keep hq2 BL.lt
   have l2:=BL.cell 0
   simp only[List.getElem?_cons_zero]at l2
   replace lBL:=BL.lt
   have hQ2:Q w w2:=Q.trans hQ1 hq2
   have hcount:outs.length≤8:=by have:=hC.count;omega
   obtain⟨vs,hvl,hvo,hvr⟩:=hO
   obtain⟨ao,co,rfl⟩:=zpO hvo
   have HVO:=LH hvo
   have HVR:=LH hvr
   have HCC:=LH hC
   have HVL:=LH hvl
   replace HV:=LH ((HV.out.keep hq1).keep hq2)
   obtain⟨i0,hi,hz0,hz1,hz2⟩:=zbU zdz
   obtain⟨W5,hmk,hown,hgr⟩:=run_make_full (P:=Tryz.prog) w2 w.heap.size 29 3 i0 _ 1 Tryz.underlying29 hi hz0 hz1 .i64 .i64 L.length (by rw[hz2];omega) (by unfold maxLen;omega) hQ2.size
   rw[show (Value.int .i64 0).cells=#[Value.int .i64 0]from rfl,Nat.mul_one,toList_madeCells_one,zqe]at hown
   have BF0:=znF hown
   have hq5:Q w2 W5:=zjI hgr
   have hs5:w2.heap.size<W5.heap.size:=BF0.lt
   clear hown hgr HC l1 hq1 hvo hvr hC hvl hi hz0 hz1 hz2
   go_wp2_with fail
   clear hmk l2
   generalize w2=WA at *
   generalize hsn:WA.heap.size=sn at *
   have HSN:=LH hsn
   clear hsn hq2
   go_loopw [41] (fun i wr=>∃ (c:Nat) (of:List Nat),c≤outs.length∧i=.int .i64 (c:Int)∧Q WA wr∧sn<wr.heap.size∧Blk wr sn (ivs of) 3∧Mk L.length outs c 0 of) (fun i _=>outs.length - (intOf i).toNat)
   case atStart=>exact⟨0,_,Nat.zero_le _,rfl,hq5,hs5,BF0,Mk.start _ _⟩
   case round =>
    obtain⟨c,of,hco,rfl,hQA,hsw,BF,hM⟩:=hrel
    clear hq5 hs5 BF0
    by_cases hlt:c<outs.length
    ·obtain⟨x,hx⟩:∃ x,outs[c]? = some x:=⟨_,List.getElem?_eq_getElem hlt⟩
     obtain⟨vx,hvx⟩:∃ vx,vs[c]? = some vx:=⟨_,List.getElem?_eq_getElem (by rw[HVL.out];exact hlt)⟩
     have hok:ChOk (zjL L k) x:=HCC.out.each x (List.mem_of_getElem? hx)
     have hrx:=zi (HVR.out c vx x hvx hx) hQA
     have hxp:=hok.ne
     obtain⟨g,cu,rfl,-,-⟩:=hrx.form hxp
     have hcx:=zsv hrx
     have hvo:=zi HVO.out hQA
     obtain⟨go,co',e1,-,-⟩:=hvo.form (by omega)
     have e2:ao=some ⟨go,0,none⟩:=by injection e1
     subst e2
     clear e1
     have v0:wr.cell? ⟨go,c,none⟩=some (.slice (some ⟨g,0,none⟩) x.length cu):=by
      rw[World.ownsRow.cellAt hvo c (by omega)]
      exact hvx
     have hx8:x.length≤8:=by
      have:=ziA hok.nodup (n:=L.length) hok.lt
      omega
     have HOK:=LH hok
     have HX:=LH hx
     clear hok hx hvo hrx
     go_wp2_with fail
     clear v0
     go_loopw [48] (fun i wr=>∃ (p:Nat) (of:List Nat),p≤x.length∧i=.int .i64 (p:Int)∧Q WA wr∧sn<wr.heap.size∧Blk wr sn (ivs of) 3∧Mk L.length outs c p of) (fun i _=>x.length - (intOf i).toNat)
     case atStart=>exact⟨0,of,Nat.zero_le _,rfl,hQA,hsw,BF,hM⟩
     case round =>
      clear hQA hsw BF hM
      obtain⟨p,of2,hpl,rfl,hQA,hsw,BF,hM⟩:=hrel
      have hrx:=zi (HVR.out c _ x hvx HX.out) hQA
      by_cases hpx:p<x.length
      ·obtain⟨m,hm⟩:∃ m,x[p]? = some m:=⟨_,List.getElem?_eq_getElem hpx⟩
       have hmn:m<L.length:=HOK.out.lt m (List.mem_of_getElem? hm)
       have x1:=zlq hrx hm
       have o1:wr.cell? ⟨sn,m,none⟩=some (.int .i64 0):=by rw[BF.cell];exact zl1 (Mk.free HCC.out hM HX.out hm)
       have l3:=(BL.keep hQA BL.lt).cell 0
       simp only[List.getElem?_cons_zero]at l3
       obtain⟨a',cap',he,hc⟩:=HV.out.keep hQA
       cases he
       obtain⟨b,o,rfl,hb,hcell⟩:=hc m hmn
       obtain⟨y,e1,e2⟩:=(zho L k m).1 (HOK.out.own m (List.mem_of_getElem? hm))
       have k1:wr.cell? ⟨b,o+m*9,none⟩=some (.int .i64 k):=by
        have h1:=hcell 0 (.int .i64 k) (by rw[(List.getElem?_eq_some_iff.1 e1).2,← e2];rfl)
        exact h1
       clear hcell hc e1 e2 y hb
       obtain⟨V1,hV1⟩:∃ V1,wr.setCell ⟨sn,m,none⟩ (.int .i64 ((c:Int)+1))=V1:=⟨_,rfl⟩
       have BF3:Blk V1 sn (ivs (of2.set m (c+1))) 3:=by rw[← hV1,← zsJ];exact BF.set m _
       have f1:=BF.frozen m
       have hvg:wr.grownBy V1 (some sn):=by rw[← hV1];exact grownBy_set (World.grownBy.refl _ _) m _
       have hQV:Q WA V1:=Below.grown hQA hvg hQA.size (fun g e=>by cases e;rw[HSN.out];exact Nat.le_refl _)
       have HR:=LH (show Q WA V1∧sn<V1.heap.size∧Blk V1 sn (ivs (of2.set m (c+1))) 3∧Mk L.length outs c (p+1) (of2.set m (c+1))from⟨hQV,BF3.lt,BF3,hM.mark HX.out hm⟩)
       have hm0:(0:Int)≤m:=by omega
       have hml:(m:Int)<L.length:=by omega
       have hgl:=HCC.out.count
       have wc1:=Go.IntWalk.i64_in ((c:Int)+1) (by omega)
       have hd1:decide ((m:Int)<0)=false:=decide_eq_false (by omega)
       have hd2:decide ((L.length:Int)≤(m:Int))=false:=decide_eq_false (by omega)
       have hnle:¬ L.length≤m:=by omega
       clear hQV BF3 hvg
       by_cases hp0:p=0
       ·subst hp0
        by_cases hc0:c=0
        ·have hc1:decide ((0:Int)<(c:Int))=false:=decide_eq_false (by omega)
         have hnc:¬ 0<c:=by omega
         clear hc0
         go_wp2
         go_roundw
         case rel=>exact⟨0+1,_,by omega,by go_num,HR.out⟩
         case measure=>simp[intOf];omega
        ·obtain⟨c',hc'⟩:∃ c',c=c'+1:=⟨c - 1,by omega⟩
         obtain⟨x',hx'⟩:∃ x',outs[c']? = some x':=⟨_,List.getElem?_eq_getElem (by omega)⟩
         obtain⟨vx',hvx'⟩:∃ vx',vs[c']? = some vx':=⟨_,List.getElem?_eq_getElem (by rw[HVL.out];omega)⟩
         have hrx':=zi (HVR.out c' _ x' hvx' hx') hQA
         have hxp':=(HCC.out.each x' (List.mem_of_getElem? hx')).ne
         obtain⟨g',cu',rfl,-,-⟩:=hrx'.form hxp'
         have hvo:=zi HVO.out hQA
         have v1:wr.cell? ⟨go,c',none⟩=some (.slice (some ⟨g',0,none⟩) x'.length cu'):=by
          rw[World.ownsRow.cellAt hvo c' (by omega)]
          exact hvx'
         obtain⟨m',hm'⟩:∃ m',x'[0]? = some m':=⟨_,List.getElem?_eq_getElem hxp'⟩
         have x2:=zlq hrx' hm'
         have hlt2:m'<m:=HCC.out.headlt hx' (by rw[← hc'];exact HX.out) hm' hm
         have hd3:decide ((m:Int)≤(m':Int))=false:=decide_eq_false (by omega)
         have hnle2:¬ m≤m':=by omega
         have hd4:decide ((0:Int)<(x'.length:Int))=true:=decide_eq_true (by omega)
         have hc1:decide ((0:Int)<(c:Int))=true:=decide_eq_true (by omega)
         have hcc:(c:Int) - 1=(c':Int):=by omega
         have wc2:IntKind.i64.wrap ((c:Int) - 1)=(c':Int):=by rw[Go.IntWalk.i64_in ((c:Int) - 1) (by omega)];exact hcc
         have hcl:(c':Int)<outs.length:=by omega
         have hcl2:c'<outs.length:=by omega
         have hc0':(0:Int)≤c':=by omega
         have HCC':=LH hc'
         have hcpos:0<c:=by omega
         clear hc' hc0 hrx' hvo hcc hx' hvx' hm'
         go_wp2
         go_roundw
         case rel=>exact⟨0+1,_,by omega,by go_num,HR.out⟩
         case measure=>simp[intOf];omega
       ·have hp1:decide ((0:Int)<(p:Int))=true:=decide_eq_true (by omega)
        have hp2:((p:Int) == 0)=false:=beq_eq_false_iff_ne.2 (by omega)
        have hp3:(p == 0)=false:=beq_eq_false_iff_ne.2 hp0
        obtain⟨q,hq⟩:∃ q,p=q+1:=⟨p - 1,by omega⟩
        obtain⟨m',hm'⟩:∃ m',x[q]? = some m':=⟨_,List.getElem?_eq_getElem (by omega)⟩
        have x2:=zlq hrx hm'
        have hlt2:m'<m:=zsk HOK.out.asc hm' hm (by omega)
        have hd3:decide ((m:Int)≤(m':Int))=false:=decide_eq_false (by omega)
        have hnle2:¬ m≤m':=by omega
        have wc2:IntKind.i64.wrap ((p:Int) - 1)=(q:Int):=by rw[Go.IntWalk.i64_in ((p:Int) - 1) (by omega)];omega
        have hql:(q:Int)<x.length:=by omega
        have hql2:q<x.length:=by omega
        have hqz:(0:Int)≤q:=by omega
        have HPQ:=LH hq
        have hpos:0<p:=by omega
        clear hq hm'
        go_wp2
        go_roundw
        case rel=>exact⟨p+1,_,by omega,by go_num,HR.out⟩
        case measure=>simp[intOf];omega
      ·obtain rfl:p=x.length:=by omega
       have HM3:=LH (hM.next HX.out (Nat.le_refl _))
       have mn:=fun w=>zlp 1 (x.length:Int) w
       rw[show min (1:Int) (x.length:Int)=1 by omega]at mn
       obtain⟨m0,hm0⟩:∃ m0,x[0]? = some m0:=⟨_,List.getElem?_eq_getElem hxp⟩
       have x0:=zlq hrx hm0
       have hgl:=(hrx.lt g rfl).2
       have hI0:zba 1 inC wr (.slice (some ⟨g,0,none⟩) 1 cu) [m0]:=⟨_,cu,rfl,fun i hi=>⟨g,0,rfl,hgl,fun j u hu=>by
        have hi0:i=0:=by simpa using hi
        subst hi0
        have hj:j=0:=by
         have:=(List.getElem?_eq_some_iff.1 hu).1
         simpa[inC]using this
        subst hj
        cases hu
        exact x0⟩⟩
       have hR0:=zjc.start HOK.out hm0
       have hc1x:1≤cu:=by omega
       have l3:=(BL.keep hQA BL.lt).cell 0
       simp only[List.getElem?_cons_zero]at l3
       clear hM hm0 x0
       go_wp2_with fail
       clear mn
       generalize wr=WB at *
       go_loopw [12,131] (fun u i wr=>∃ (t:Nat) (r:List Nat),i=.int .i64 (t:Int)∧t≤x.length∧zjc L x t 0 r∧Q WB wr∧zba 1 inC wr u r) (fun _ i _=>x.length - (intOf i).toNat)
       case atStart=>exact⟨0,[m0],rfl,Nat.zero_le _,hR0,Q.refl _,hI0⟩
       case round =>
        obtain⟨t,r,rfl,htl,hRe,hQB,hIr⟩:=hrel
        clear hI0 hR0
        by_cases htx:t<x.length
        ·go_wp2_with fail
         go_loopw [12,135] (fun u i wr=>∃ (j:Nat) (r:List Nat),i=.int .i64 (j:Int)∧j≤x.length∧zjc L x t j r∧Q WB wr∧zba 1 inC wr u r) (fun _ i _=>x.length - (intOf i).toNat)
         case atStart=>exact⟨0,r,rfl,Nat.zero_le _,hRe,hQB,hIr⟩
         case round =>
          clear hRe hQB hIr
          obtain⟨j,r2,rfl,hjl,hRe,hQB,hIr⟩:=hrel
          by_cases hjx:j<x.length
          ·obtain⟨m,hm⟩:∃ m,x[j]? = some m:=⟨_,List.getElem?_eq_getElem hjx⟩
           have hmn:m<L.length:=HOK.out.lt m (List.mem_of_getElem? hm)
           have x1:=zlq (zi hrx hQB) hm
           have hr0:=hRe.pos hxp
           have hr8:r2.length≤8:=by have:=hRe.le;omega
           obtain⟨V1,hV1⟩:∃ V1,wr.alloc (.cells #[.int .i64 (m:Int)] 3)=V1:=⟨_,rfl⟩
           have hq1:Q wr V1:=by rw[← hV1];exact bt
           have BI:Blk V1 wr.heap.size [.int .i64 (m:Int)] 3:=by rw[← hV1];exact Blk.new wr _ _
           have i1:=BI.cell 0
           simp only[List.getElem?_cons_zero]at i1
           have hgl2:g<wr.heap.size:=Nat.lt_of_lt_of_le hgl hQB.size
           have hIr1:=hIr.keep hq1
           have HC7:=LH (znl r2 hr0 (by omega) m _ V1 hIr1)
           have HQV:=LH (Q.trans hQB hq1)
           have hQAV:Q WA V1:=Q.trans hQA (Q.trans hQB hq1)
           have HC8:=LH (znm (jnB L m) w.heap.size wr.heap.size r2 (by omega) _ V1 hIr1 (LH fun c hc W hW=>by
            have hcx:=hRe.sub c hc
            have hcl:=HOK.out.lt c hcx
            have e1:L[m]? = some L[m]:=List.getElem?_eq_getElem hmn
            have e2:L[c]? = some L[c]:=List.getElem?_eq_getElem hcl
            refine(zqQ L m c _ _ e1 e2 _ _ _ _ _ W (HV.out.keep (Q.trans hQAV hW)) (BL.keep (Q.trans hQAV hW) BL.lt) (BI.keep hW BI.lt)).mono ?_
            rintro e w'⟨d,h1,h2,h3⟩
            exact⟨d,h1,h2,h3.trans (zqd L e1 e2).symm⟩))
           have HCL:=LH (fun(W:World) (hW:Q V1 W)=>zrT r2 hr0 (by omega) _ W (hIr1.keep hW))
           have HPA:=LH (fun(h:r2.contains m=true)=>hRe.pass hm (.inl (List.contains_iff_mem.1 h)))
           have HPB:=LH (fun(h:r2.any (jnB L m)=false)=>hRe.pass hm (.inr (fun a ha=>by
            rw[List.any_eq_false]at h
            have:=h a ha
            cases hj:jnB L m a
            ·rfl
            ·exact absurd hj this)))
           have HAD:=LH (fun(h:r2.contains m=false)=>hRe.add hm (fun hc=>by rw[List.contains_iff_mem.2 hc]at h;cases h))
           generalize hcb:r2.contains m=cb at *
           generalize hab:r2.any (jnB L m)=ab at *
           clear hcb hab hIr hRe hm
           have hIr2:=hIr1
           obtain⟨ar,cr,rfl,-⟩:=hIr1
           go_wp2_with fail
           refine HC7.out.mono ?_
           rintro e w'⟨rfl,hw'⟩
           obtain rfl:V1=w':=hw'.symm
           clear hV1 x1
           cases cb
           ·have HAD2:=LH (HAD.out rfl)
            go_wp2_with fail
            refine HC8.out.mono ?_
            rintro e W2⟨rfl,hq2⟩
            have hQ2:Q WB W2:=Q.trans HQV.out hq2
            cases ab
            ·have HPB2:=LH (HPB.out rfl)
             have HI2:=LH (hIr2.keep hq2)
             go_wp2
             go_roundw
             case rel=>exact⟨j+1,r2,by go_num,by omega,HPB2.out,hQ2,HI2.out⟩
             case measure=>simp[intOf];omega
            ·have i2:=(BI.keep hq2 BI.lt).cell 0
             simp only[List.getElem?_cons_zero]at i2
             obtain⟨i0,hi,hz0,hz1,hz2⟩:=zbU zdz
             have HQ2:=LH hQ2
             have HQD:=LH (show Q V1 W2.drew from Q.trans hq2 (Below.drew (Q.refl W2)))
             have hbW:WB.heap.size≤W2.drew.heap.size:=hQ2.size
             clear hq2 hQ2
             go_wp2_with fail
             refine RF.zn (ρ:=zrw W2.drew.heap.size) 4 rfl (by kernel_rfl) rfl ?_
             refine RF.svp 0 ?_
             refine RF.svq 2 rfl (by intro w' hq;have hc0:=za (hq (Nat.le_refl _)) i2;go_simp;try with_reducible rfl) ?_
             clear i2
             refine RF.steadily_both (i:=1) (j:=3) rfl rfl rfl rfl (by kernel_rfl) (by rfl) (by rfl) (fun y1 hy1 K hK=>?ma) (fun y1 hy1 K hK=>?mb)
             case' ma =>
              refine zoR (by go_simp;try with_reducible rfl) ((HCL.out y1 (Q.trans HQD.out hy1)).mono ?_)
              rintro e y2⟨v',rfl,hy2,hro⟩
              refine⟨_,rfl,hK _ _ ((zrw _).q hy2) ?_⟩
              simp only[Act.put,zs1,zs2,zs3]
              clear hK
              refine RF.zaH (i:=3) (fun w'=>.slice (some ⟨w'.heap.size,0,none⟩) 1 1) (.cells #[.int .i64 (m:Int)] 3) rfl rfl (by kernel_rfl) (by rfl) (fun w' hq=>by go_simp;try with_reducible rfl) (fun y3 hy3=>?_)
              simp only[Act.put,zs1,zs2,zs3]
              have BN:=Blk.new y3 [.int .i64 (m:Int)] 3
              have hq3:Q y3 (y3.alloc (.cells ([.int .i64 (m:Int)]:List Value).toArray 3)):=(Below.refl _ y3).alloc (Nat.le_refl _) _
              have hro3:=zcl (zi hro (Q.trans hy3 hq3)) hy1.size
              have hQe:=Q.trans hy1 (Q.trans hy2 (Q.trans hy3 hq3))
              clear hy1 hy2 hy3 hq3 hro
              generalize y3.alloc _=Y at *
              generalize y3.heap.size=pb at *
             case' mb =>
              have hqa:Q y1 (y1.alloc (.cells ([.int .i64 (m:Int)]:List Value).toArray 3)):=(Below.refl _ y1).alloc (Nat.le_refl _) _
              refine zge (.slice (some ⟨y1.heap.size,0,none⟩) 1 1) (.cells #[.int .i64 (m:Int)] 3) (by go_simp;try with_reducible rfl) (hK _ _ ((zrw _).q hqa) ?_)
              have BN0:=Blk.new y1 [.int .i64 (m:Int)] 3
              simp only[Act.put,zs1,zs2,zs3]
              have hy1a:=Q.trans hy1 hqa
              clear hK hqa
              generalize y1.alloc _=y2 at *
              generalize y1.heap.size=pb at *
              refine RF.zaa (i:=1) rfl rfl (by kernel_rfl) (by rfl) (fun w' hq=>by go_simp;try with_reducible rfl) (fun y5 hy5=>(HCL.out y5 (Q.trans HQD.out (Q.trans hy1a hy5))).mono ?_)
              rintro e Y⟨v',rfl,hy6,hro⟩
              refine⟨_,rfl,hy6,?_⟩
              simp only[Act.put,zs1,zs2,zs3]
              have BN:=BN0.keep (Q.trans hy5 hy6) BN0.lt
              have hro3:=zcl hro (Q.trans hy1a hy5).size
              have hQe:=Q.trans hy1a (Q.trans hy5 hy6)
              clear hy1 hy1a hy5 hy6 BN0 hro
             all_goals
              refine RF.zh (by kernel_rfl) (fun w9 hq9=>?_)
              simp only[List.drop_succ_cons,List.drop_zero]
              replace BN:=BN.keep hq9 BN.lt
              replace hro3:=zi hro3 hq9
              replace hQe:=Q.trans hQe hq9
              have hQ9:Q WB w9:=Q.trans HQ2.out (Q.trans (Below.drew (Q.refl W2)) hQe)
              have HQ9:=LH hQ9
              have hbs:W2.drew.heap.size≤w9.heap.size:=hQe.size
              have hnc:∀ j u,([.int .i64 (m:Int)]:List Value)[j]? = some u→w9.cell? ((⟨pb,0,none⟩:Addr).add j)=some u:=fun j u h=>by
               match j,h with
               | 0,h =>
                rw[List.getElem?_cons_zero]at h
                rw[← Option.some.inj h]
                exact BN.cell 0
               | j+1,h=>simp at h
              clear hq9 hQe hQ9
              go_wp2_with (at_builtin;refine wpList_append_own_at _ rfl (.tmp 149) (.tmp 151) 29 rfl W2.drew.heap.size 3 i0 _ 1 8 Tryz.underlying29 hi hz0 hz1 hz2 rfl (by decide) _ _ _ rfl hro3 ⟨pb,0,none⟩ 1 1 [.int .i64 (m:Int)] rfl rfl hnc (by simp[Value.oneCell']) (by unfold maxLen;omega) (by omega) hbs ?_;intro v4 w4 hu4 hg4 _ _)
              go_roundw
              case rel=>exact⟨j+1,r2++[m],by go_num,by omega,HAD2.out,Below.grown HQ9.out hg4 HQ9.out.size (fun g e=>Nat.le_trans hbW (hro3.lt g e).1),ztA (by rw[List.length_append,List.length_singleton,show ivs (r2++[m])=ivs r2++[.int .i64 (m:Int)]from by rw[zm7];rfl];exact hu4)⟩
              case measure=>simp[intOf];omega
           ·have HPA2:=LH (HPA.out rfl)
            go_wp2
            go_roundw
            case rel=>exact⟨j+1,r2,by go_num,by omega,HPA2.out,HQV.out,hIr2⟩
            case measure=>simp[intOf];omega
          ·obtain rfl:j=x.length:=by omega
           go_wp2
           go_roundw
           case rel=>exact⟨t+1,r2,by go_num,by omega,hRe.round (Nat.le_refl _),hQB,hIr⟩
           case measure=>simp[intOf];omega
        ·obtain rfl:t=x.length:=by omega
         have hrl:r.length=x.length:=hRe.full HOK.out (Nat.le_refl _)
         obtain⟨ar,cr,rfl,-⟩:=hIr
         have HQE:=LH (Q.trans hQA hQB)
         have HBE:=LH (BF.keep hQB BF.lt)
         rw[hrl]
         have hxn:¬ x=[]:=fun e=>by rw[e]at hxp;exact absurd hxp (by decide)
         have hxl:(x.length == 0)=false:=beq_eq_false_iff_ne.2 (by omega)
         have hxl2:((x.length:Int) == 0)=false:=beq_eq_false_iff_ne.2 (by omega)
         clear hRe hrl
         go_wp2
         go_roundw
         case rel=>exact⟨c+1,_,by omega,by go_num,HQE.out,HBE.out.lt,HBE.out,HM3.out⟩
         case measure=>simp[intOf];omega
    ·obtain rfl:c=outs.length:=by omega
     have l3:=(BL.keep hQA BL.lt).cell 0
     simp only[List.getElem?_cons_zero]at l3
     have HMf:=LH hM
     have HQw:=LH (Q.trans hQ2 hQA)
     have hwr:w.heap.size<wr.heap.size:=Nat.lt_of_lt_of_le lBL (by have:=hQA.size;have:=HSN.out;omega)
     replace BL:=BL.keep hQA BL.lt
     replace HV:=LH (HV.out.keep hQA)
     clear hM hQA hcount hlt
     go_wp2_with fail
     clear l3
     generalize wr=WC at *
     go_loopw [168] (fun i wr=>∃ j:Nat,j≤L.length∧i=.int .i64 (j:Int)∧Q WC wr) (fun i _=>L.length - (intOf i).toNat)
     case atStart=>exact⟨0,Nat.zero_le _,rfl,Q.refl _⟩
     case round =>
      obtain⟨j,hjl,rfl,hQC⟩:=hrel
      by_cases hjx:j<L.length
      ·obtain⟨x,hx⟩:∃ x,L[j]? = some x:=⟨_,List.getElem?_eq_getElem hjx⟩
       obtain⟨u,hu⟩:∃ u,of[j]? = some u:=⟨_,List.getElem?_eq_getElem (by rw[HMf.out.len];exact hjx)⟩
       obtain⟨a',cap',he,hc⟩:=HV.out
       cases he
       obtain⟨b,o,rfl,hb,-⟩:=hc j hjx
       clear hc
       have HLC:=LH (fun(wq:World) (hq:Q WC wq) (j:Nat) (x:Ln) (hx:L[j]? = some x) (i:Nat) (u:Value) (hu:(lnC x)[i]? = some u)=>(show wq.cell? ⟨b,o+j*9+i,none⟩=some u from by
        obtain⟨hj,ej⟩:=List.getElem?_eq_some_iff.1 hx
        obtain⟨a2,c2,e2,h2⟩:=HV.out.keep hq
        cases e2
        obtain⟨b2,o2,e3,-,h3⟩:=h2 j hj
        cases e3
        exact h3 i u (by rw[ej];exact hu)))
       have hcell:=HLC.out wr hQC j x hx
       have hku:=Mk.kind HCC.out HMf.out hx hu
       have HAP:=LH (fun(q:Nat) (y:Ln) (v:Nat) (hy:L[q]? = some y) (hv:of[q]? = some v)=>Mk.apart HCC.out HMf.out hx hy hu hv)
       have HJ:=LH (fun(y:Ln) w=>zhp x y w)
       clear hx
       obtain⟨kk,X,Y,Z,X',Y',Z',l,rr⟩:=x
       unfold lnC at hcell HJ
       simp only at hcell hku HJ
       have c0:=hcell 0 _ rfl
       have c1:=hcell 1 _ rfl
       have c2:=hcell 2 _ rfl
       have c3:=hcell 3 _ rfl
       have c4:=hcell 4 _ rfl
       have c5:=hcell 5 _ rfl
       have c6:=hcell 6 _ rfl
       have c7:=hcell 7 _ rfl
       have c8:=hcell 8 _ rfl
       rw[Nat.add_zero]at c0
       clear hcell
       have hbr:b<wr.heap.size:=Nat.lt_of_lt_of_le hb hQC.size
       obtain⟨V1,hV1⟩:∃ V1,wr.alloc (.cells #[.int .i64 kk,.string ⟨X.toArray⟩,.string ⟨Y.toArray⟩,.string ⟨Z.toArray⟩,.string ⟨X'.toArray⟩,.string ⟨Y'.toArray⟩,.string ⟨Z'.toArray⟩,.int .i64 l,.int .i64 rr] 34)=V1:=⟨_,rfl⟩
       have BX:Blk V1 wr.heap.size [.int .i64 kk,.string ⟨X.toArray⟩,.string ⟨Y.toArray⟩,.string ⟨Z.toArray⟩,.string ⟨X'.toArray⟩,.string ⟨Y'.toArray⟩,.string ⟨Z'.toArray⟩,.int .i64 l,.int .i64 rr] 34:=by rw[← hV1];exact Blk.new wr _ _
       have hq1:Q wr V1:=by rw[← hV1];exact bt
       have hQ1':Q WC V1:=Q.trans hQC hq1
       have o1:V1.cell? ⟨sn,j,none⟩=some (.int .i64 (u:Int)):=by rw[(BF.keep hQ1' BF.lt).cell];exact zl1 hu
       have m0:=BX.cell 0
       simp only[List.getElem?_cons_zero]at m0
       obtain⟨bb,hb1,hb2,hb3⟩:∃ bb,(kk == k)=bb∧decide ((0:Int)<(u:Int))=bb∧decide (0<u)=bb:=by
        by_cases h0:0<u
        ·exact⟨true,beq_iff_eq.2 (hku.2 h0),decide_eq_true (by omega),decide_eq_true h0⟩
        ·exact⟨false,beq_eq_false_iff_ne.2 (fun e=>h0 (hku.1 e)),decide_eq_false (by omega),decide_eq_false h0⟩
       have HU:=LH hu
       clear hu hku
       have hjz:(0:Int)≤j:=by omega
       have hjz2:(j:Int)<L.length:=by omega
       go_wp2_with fail
       clear hV1 c0 c1 c2 c3 c4 c5 c6 c7 c8
       refine zn 10 rfl (by kernel_rfl) rfl ?_
       refine svp 0 ?_
       refine svq 1 rfl (by intro w' hq;have hc0:=za hq m0;go_simp;try with_reducible rfl) ?_
       refine svp 2 ?_
       refine svp 3 ?_
       refine svp 4 ?_
       refine svp 5 ?_
       refine svp 6 ?_
       refine svq 7 rfl (by intro w' hq;have hc0:=za hq o1;go_simp;try with_reducible rfl) ?_
       refine svp 8 ?_
       refine svp 9 ?_
       refine zh (by kernel_rfl) (fun w3 hq3=>?_)
       simp only[List.drop_succ_cons,List.drop_nil]
       replace hq3:Q V1 w3:=Q.trans (Below.drew (Q.refl V1)) hq3
       replace BX:=BX.keep hq3 BX.lt
       have hQ3:Q WC w3:=Q.trans hQ1' hq3
       have l4:=(BL.keep hQ3 BL.lt).cell 0
       simp only[List.getElem?_cons_zero]at l4
       clear m0 o1 hq3 hQ1' hq1 hQC hb1 hb2 hb3
       go_wp2_with fail
       have lBX:=BX.lt
       have HQ3:=LH hQ3
       have BFD:=BF.keep hQ3 BF.lt
       clear hQ3 l4
       generalize wr.heap.size=gx at *
       generalize w3=WD at *
       go_loopw [185] (fun i wr=>∃ q:Nat,q≤L.length∧i=.int .i64 (q:Int)∧Q WD wr) (fun i _=>L.length - (intOf i).toNat)
       case atStart=>exact⟨0,Nat.zero_le _,rfl,Q.refl _⟩
       case round =>
        obtain⟨q,hql,rfl,hQD⟩:=hrel
        by_cases hqx:q<L.length
        ·obtain⟨y,hy⟩:∃ y,L[q]? = some y:=⟨_,List.getElem?_eq_getElem hqx⟩
         obtain⟨v,hv⟩:∃ v,of[q]? = some v:=⟨_,List.getElem?_eq_getElem (by rw[HMf.out.len];exact hqx)⟩
         have hcell:=HLC.out wr (Q.trans HQ3.out hQD) q y hy
         have hap:=LH (HAP.out q y v hy hv)
         have hj:=LH (HJ.out y)
         clear hy
         obtain⟨k2,U,V,T,U',V',T',l2,r2⟩:=y
         unfold lnC at hcell
         simp only at hcell hj
         have d0:=hcell 0 _ rfl
         have d1:=hcell 1 _ rfl
         have d2:=hcell 2 _ rfl
         have d3:=hcell 3 _ rfl
         have d4:=hcell 4 _ rfl
         have d5:=hcell 5 _ rfl
         have d6:=hcell 6 _ rfl
         have d7:=hcell 7 _ rfl
         have d8:=hcell 8 _ rfl
         rw[Nat.add_zero]at d0
         clear hcell
         have hbr2:b<wr.heap.size:=Nat.lt_of_lt_of_le hb (Q.trans HQ3.out hQD).size
         obtain⟨V2,hV2⟩:∃ V2,wr.alloc (.cells #[.int .i64 k2,.string ⟨U.toArray⟩,.string ⟨V.toArray⟩,.string ⟨T.toArray⟩,.string ⟨U'.toArray⟩,.string ⟨V'.toArray⟩,.string ⟨T'.toArray⟩,.int .i64 l2,.int .i64 r2] 34)=V2:=⟨_,rfl⟩
         have BY:Blk V2 wr.heap.size [.int .i64 k2,.string ⟨U.toArray⟩,.string ⟨V.toArray⟩,.string ⟨T.toArray⟩,.string ⟨U'.toArray⟩,.string ⟨V'.toArray⟩,.string ⟨T'.toArray⟩,.int .i64 l2,.int .i64 r2] 34:=by rw[← hV2];exact Blk.new wr _ _
         have hqv:Q wr V2:=by rw[← hV2];exact bt
         have hQV:Q WD V2:=Q.trans hQD hqv
         have HQV:=LH hQV
         have BX2:=BX.keep hQV BX.lt
         have o1:V2.cell? ⟨sn,j,none⟩=some (.int .i64 (u:Int)):=by rw[(BFD.keep hQV BFD.lt).cell];exact zl1 HU.out
         have o2:V2.cell? ⟨sn,q,none⟩=some (.int .i64 (v:Int)):=by rw[(BFD.keep hQV BFD.lt).cell];exact zl1 hv
         have hqz:(0:Int)≤q:=by omega
         have hqz2:(q:Int)<L.length:=by omega
         clear hv hQV hqv hQD
         go_wp2_with fail
         clear hV2 d0 d1 d2 d3 d4 d5 d6 d7 d8
         have x0:=BX2.cell 0
         have x1:=BX2.cell 1
         have x2:=BX2.cell 2
         have x3:=BX2.cell 3
         have x4:=BX2.cell 4
         have x5:=BX2.cell 5
         have x6:=BX2.cell 6
         have x7:=BX2.cell 7
         have x8:=BX2.cell 8
         have y0:=BY.cell 0
         have y1:=BY.cell 1
         have y2:=BY.cell 2
         have y3:=BY.cell 3
         have y4:=BY.cell 4
         have y5:=BY.cell 5
         have y6:=BY.cell 6
         have y7:=BY.cell 7
         have y8:=BY.cell 8
         simp only[zs4,zs5]at x0 x1 x2 x3 x4 x5 x6 x7 x8 y0 y1 y2 y3 y4 y5 y6 y7 y8
         refine zn 28 rfl (by kernel_rfl) rfl ?_
         by_cases hu0:0<u
         ·have hu1:decide ((0:Int)<(u:Int))=true:=decide_eq_true (by omega)
          by_cases hv0:0<v
          ·have hv1:decide ((0:Int)<(v:Int))=true:=decide_eq_true (by omega)
           by_cases huv:u=v
           ·have HUV:=LH huv
            have huv1:((u:Int) != (v:Int))=false:=by rw[huv];simp
            have huv2:(u != v)=false:=by rw[huv];simp
            clear huv
            refine svp 0 ?_
            refine svp 1 ?_
            refine svp 2 ?_
            refine svq 3 rfl (by intro w' hq;have hc0:=za hq o1;go_simp;try with_reducible rfl) ?_
            refine svp 4 ?_
            refine svp 5 ?_
            refine svp 6 ?_
            refine svp 7 ?_
            refine svp 8 ?_
            refine svq 9 rfl (by intro w' hq;have hc0:=za hq o2;go_simp;try with_reducible rfl) ?_
            refine svp 10 ?_
            refine svp 11 ?_
            refine svp 12 ?_
            refine svp 13 ?_
            refine svp 14 ?_
            refine svp 15 ?_
            refine svq 16 rfl (by intro w' hq;have hc0:=za hq o1;go_simp;try with_reducible rfl) ?_
            refine svp 17 ?_
            refine svp 18 ?_
            refine svp 19 ?_
            refine svq 20 rfl (by intro w' hq;have hc0:=za hq o2;go_simp;try with_reducible rfl) ?_
            refine svp 21 ?_
            refine svp 22 ?_
            refine svp 23 ?_
            refine svi 24 ?_
            refine svi 25 ?_
            refine svi 26 ?_
            refine svp 27 ?_
            refine zh (by kernel_rfl) (fun w9 hq9=>?_)
            simp only[List.drop_succ_cons,List.drop_nil]
            have hQ9:Q WD w9:=Q.trans HQV.out (Q.trans (Below.drew (Q.refl V2)) hq9)
            clear hq9 x0 x1 x2 x3 x4 x5 x6 x7 x8 y0 y1 y2 y3 y4 y5 y6 y7 y8
            go_wp2
            go_roundw
            case rel=>exact⟨q+1,by omega,by go_num,hQ9⟩
            case measure=>simp[intOf];omega
           ·have hnj:=LH (hap.out hu0 hv0 huv)
            have huv1:((u:Int) != (v:Int))=true:=bne_iff_ne.2 (by omega)
            have huv2:(u != v)=true:=bne_iff_ne.2 huv
            refine svp 0 ?_
            refine svp 1 ?_
            refine svp 2 ?_
            refine svq 3 rfl (by intro w' hq;have hc0:=za hq o1;go_simp;try with_reducible rfl) ?_
            refine svp 4 ?_
            refine svp 5 ?_
            refine svp 6 ?_
            refine svp 7 ?_
            refine svp 8 ?_
            refine svq 9 rfl (by intro w' hq;have hc0:=za hq o2;go_simp;try with_reducible rfl) ?_
            refine svp 10 ?_
            refine svp 11 ?_
            refine svp 12 ?_
            refine svp 13 ?_
            refine svp 14 ?_
            refine svp 15 ?_
            refine svq 16 rfl (by intro w' hq;have hc0:=za hq o1;go_simp;try with_reducible rfl) ?_
            refine svp 17 ?_
            refine svp 18 ?_
            refine svp 19 ?_
            refine svq 20 rfl (by intro w' hq;have hc0:=za hq o2;go_simp;try with_reducible rfl) ?_
            refine svp 21 ?_
            refine svp 22 ?_
            refine svp 23 ?_
            refine svq 24 rfl (by intro w' hq;have hc0:=za hq x0;have hc1:=za hq x1;have hc2:=za hq x2;have hc3:=za hq x3;have hc4:=za hq x4;have hc5:=za hq x5;have hc6:=za hq x6;have hc7:=za hq x7;have hc8:=za hq x8;go_simp;try with_reducible rfl) ?_
            refine svq 25 rfl (by intro w' hq;have hc0:=za hq y0;have hc1:=za hq y1;have hc2:=za hq y2;have hc3:=za hq y3;have hc4:=za hq y4;have hc5:=za hq y5;have hc6:=za hq y6;have hc7:=za hq y7;have hc8:=za hq y8;go_simp;try with_reducible rfl) ?_
            clear x0 x1 x2 x3 x4 x5 x6 x7 x8 y0 y1 y2 y3 y4 y5 y6 y7 y8
            refine zaa (i:=26) rfl rfl (by kernel_rfl) (by rfl) (fun w' hq=>by go_simp;try with_reducible rfl) (fun w6 hq6=>(hj.out w6).mono ?_)
            intro e yy h
            obtain⟨d,rfl,hq7,hd⟩:=h
            obtain rfl:d=false:=by
             cases d
             ·rfl
             ·exact absurd (hd.1 rfl) hnj.out
            refine⟨_,rfl,hq7,?_⟩
            simp only[Act.put,zs1,zs2,zs3]
            clear hd
            refine svp 27 ?_
            refine zh (by kernel_rfl) (fun w9 hq9=>?_)
            simp only[List.drop_succ_cons,List.drop_nil]
            have hQ9:Q WD w9:=Q.trans HQV.out (Q.trans (Below.drew (Q.refl V2)) (Q.trans hq6 (Q.trans hq7 hq9)))
            clear hq9 hq6 hq7
            go_wp2
            go_roundw
            case rel=>exact⟨q+1,by omega,by go_num,hQ9⟩
            case measure=>simp[intOf];omega
          ·have hv1:decide ((0:Int)<(v:Int))=false:=decide_eq_false (by omega)
           refine svp 0 ?_
           refine svp 1 ?_
           refine svp 2 ?_
           refine svq 3 rfl (by intro w' hq;have hc0:=za hq o1;go_simp;try with_reducible rfl) ?_
           refine svp 4 ?_
           refine svp 5 ?_
           refine svp 6 ?_
           refine svp 7 ?_
           refine svp 8 ?_
           refine svq 9 rfl (by intro w' hq;have hc0:=za hq o2;go_simp;try with_reducible rfl) ?_
           refine svp 10 ?_
           refine svp 11 ?_
           refine svp 12 ?_
           refine svi 13 ?_
           refine svi 14 ?_
           refine svi 15 ?_
           refine svi 16 ?_
           refine svi 17 ?_
           refine svi 18 ?_
           refine svi 19 ?_
           refine svi 20 ?_
           refine svi 21 ?_
           refine svp 22 ?_
           refine svp 23 ?_
           refine svi 24 ?_
           refine svi 25 ?_
           refine svi 26 ?_
           refine svp 27 ?_
           refine zh (by kernel_rfl) (fun w9 hq9=>?_)
           simp only[List.drop_succ_cons,List.drop_nil]
           have hQ9:Q WD w9:=Q.trans HQV.out (Q.trans (Below.drew (Q.refl V2)) hq9)
           clear hq9 x0 x1 x2 x3 x4 x5 x6 x7 x8 y0 y1 y2 y3 y4 y5 y6 y7 y8
           go_wp2
           go_roundw
           case rel=>exact⟨q+1,by omega,by go_num,hQ9⟩
           case measure=>simp[intOf];omega
         ·have hu1:decide ((0:Int)<(u:Int))=false:=decide_eq_false (by omega)
          refine svp 0 ?_
          refine svp 1 ?_
          refine svp 2 ?_
          refine svq 3 rfl (by intro w' hq;have hc0:=za hq o1;go_simp;try with_reducible rfl) ?_
          refine svp 4 ?_
          refine svp 5 ?_
          refine svi 6 ?_
          refine svi 7 ?_
          refine svi 8 ?_
          refine svi 9 ?_
          refine svi 10 ?_
          refine svp 11 ?_
          refine svp 12 ?_
          refine svi 13 ?_
          refine svi 14 ?_
          refine svi 15 ?_
          refine svi 16 ?_
          refine svi 17 ?_
          refine svi 18 ?_
          refine svi 19 ?_
          refine svi 20 ?_
          refine svi 21 ?_
          refine svp 22 ?_
          refine svp 23 ?_
          refine svi 24 ?_
          refine svi 25 ?_
          refine svi 26 ?_
          refine svp 27 ?_
          refine zh (by kernel_rfl) (fun w9 hq9=>?_)
          simp only[List.drop_succ_cons,List.drop_nil]
          have hQ9:Q WD w9:=Q.trans HQV.out (Q.trans (Below.drew (Q.refl V2)) hq9)
          clear hq9 x0 x1 x2 x3 x4 x5 x6 x7 x8 y0 y1 y2 y3 y4 y5 y6 y7 y8
          go_wp2
          go_roundw
          case rel=>exact⟨q+1,by omega,by go_num,hQ9⟩
          case measure=>simp[intOf];omega
        ·obtain rfl:q=L.length:=by omega
         have HQE:=LH (Q.trans HQ3.out hQD)
         clear hQD
         go_wp2
         go_roundw
         case rel=>exact⟨j+1,by omega,by go_num,HQE.out⟩
         case measure=>simp[intOf];omega
      ·obtain rfl:j=L.length:=by omega
       have hQ5:Q w wr:=Q.trans HQw.out hQC
       go_wp2_with fail
       refine cx (znp _ (hE.ofQ hQ5) (hS.q hQ5)) fun w6 hq6=>?_
       have hQ6:=Q.trans hQ5 hq6
       go_wp2
       go_ret
       exact⟨rfl,hQ6⟩
 ·have hd8:decide ((8:Int)<(L.length:Int))=true:=decide_eq_true (by omega)
  go_wp2_with fail
  refine cx (znp _ (hE.ofQ hq0) (hS.q hq0)) fun w1 hq1=>?_
  have hQ1:=Q.trans hq0 hq1
  clear hW0
  go_wp2
  go_ret
  exact⟨rfl,hQ1⟩
end Go.Proofs.YtapnkgdnflofbaaGreatDoor
