/-
  surd's gatherer at terms of any numbers.
-/
import Derived.Test.YthdpnkkddhcacaaGreatDoorBK16
set_option maxRecDepth 100000
set_option maxHeartbeats 4000000
namespace Go.Proofs.YthdpnkkddhcacaaGreatDoor
open Go.RowKit Kp
open Go.Lib (decDigits)
attribute [local go_sem] Oper.semAt_some
theorem zmy{n:Nat}(h:n<10 ^ 90):lim (n:Int)=false:=zaN (n:=90) (by rw[Int.natAbs_natCast];exact h) (by decide)
def zrx(cs:List (Rat × Nat))(t:Rat × Nat):Int:=if zkO cs t=true then 4 else 0
theorem zfa(cs:List (Rat × Nat))(t:Rat × Nat)(hcs:∀ c∈cs,CW c)(ht:CW t)(hne:cs≠[])(hlen:cs.length≤1000)(G:Nat)(w:World)(hE:Env w)(_hng:ng≤G)(hg:zn4 w G cs) :
  Calls Tryz.prog 80 #[.pointer (some ⟨G,0,none⟩),.agg #[.string ⟨(ze t.1).toArray⟩,.string ⟨(Lib.itoa (t.2:Int)).toArray⟩]] w fun e w'=>e=.returned (.int .i64 (zrx cs t))∧Below G w w'∧(zkO cs t=false→zn4 w' G (zd6 cs t)):=by
 obtain⟨v,hG,-,hrow⟩:=hg
 have hl:(cs.map ofC).length=cs.length:=List.length_map _
 have hpos:0<cs.length:=List.length_pos_iff.2 hne
 obtain⟨g,cap,rfl,hg1,hg2⟩:=hrow.form (by omega)
 have HROW:=LH hrow
 have lG:=hG.lt
 rw[hl]at hrow hG
 obtain⟨x,l⟩:=t
 obtain⟨W1,hW1⟩:∃ W1,w.alloc (.cells [.string ⟨(ze x).toArray⟩,.string ⟨(Lib.itoa (l:Int)).toArray⟩].toArray 47)=W1:=⟨_,rfl⟩
 have T1:Blk W1 w.heap.size [.string ⟨(ze x).toArray⟩,.string ⟨(Lib.itoa (l:Int)).toArray⟩] 47:=by rw[← hW1];exact Blk.new w _ _
 have hQ1:Q w W1:=by rw[← hW1];exact(Below.refl _ w).alloc (Nat.le_refl _) _
 have hG1:=hG.keep hQ1 lG
 have g0:=hG1.cell 0
 have lG1:=hG1.lt
 simp only[List.getElem?_cons_zero]at g0
 simp only at ht ⊢
 have hn:(cs.length:Int)≤1000:=by omega
 have HCS:=LH hcs
 clear hcs hne HROW hl
 go_enter Tryz.func80,Tryz.ntmps80
 go_wp2
 clear hW1
 go_loopw [19] (fun i wr=>∃ k:Nat,k≤cs.length∧i=.int .i64 k∧Q W1 wr∧Hid (∀ j (hj:j<cs.length),j<k→zc5 ((l:Rat) / ((cs[j]).2:Rat))=false)) (fun i _=>cs.length - (intOf i).toNat)
 case atStart=>exact⟨0,by omega,rfl,Q.refl _,LH (fun j _ h=>absurd h (by omega))⟩
 case round =>
  obtain⟨k,hk,rfl,hQ,HNO⟩:=hrel
  by_cases hlt:k<cs.length
  ·have hrr:=zn (zn hrow hQ1) hQ
   have hQw:=Q.trans hQ1 hQ
   have e0:=hrr.cellAt (k*2) (by omega)
   have e1:=hrr.cellAt (k*2+1) (by omega)
   have hk2:k<(cs.map ofC).length:=by rw[List.length_map];exact hlt
   have GET:=LH (zgr (cs.map ofC) k hk2)
   rw[(GET.out).1]at e0
   rw[(GET.out).2]at e1
   have hget:(cs.map ofC).getD k ([],[])=ofC cs[k]:=by rw[List.getD_eq_getElem?_getD,List.getElem?_map,List.getElem?_eq_getElem hlt];rfl
   rw[hget]at e0 e1 GET
   have hcb:=HCS.out cs[k] (List.getElem_mem hlt)
   have HAT:Hid (zc5 ((l:Rat) / ((cs[k]).2:Rat))=true→zd6 cs (x,l)=cs.set k (if l<(cs[k]).2 then zgH (x,l) cs[k]else zgH cs[k] (x,l))):=LH (fun h=>zrt cs (x,l) k hlt (fun j hj=>HNO.out j (by omega) hj) h)
   have HAE:Hid (zc5 ((l:Rat) / ((cs[k]).2:Rat))=true→zkO cs (x,l)=(if l<(cs[k]).2 then zi9 (x,l) cs[k]else zi9 cs[k] (x,l))):=LH (fun h=>zrs cs (x,l) k hlt (fun j hj=>HNO.out j (by omega) hj) h)
   have HNO2:Hid (zc5 ((l:Rat) / ((cs[k]).2:Rat))=false→∀ j (hj:j<cs.length),j<k+1→zc5 ((l:Rat) / ((cs[j]).2:Rat))=false):=LH (fun h j hj hjk=>by
    rcases Nat.lt_or_ge j k with h1 | h1
    ·exact HNO.out j hj h1
    ·obtain rfl:j=k:=by omega
     exact h)
   have HRW:Hid (w.ownsRow (G+1) 139 2 (.slice (some ⟨g,0,none⟩) cs.length cap) cs.length (zca (cs.map ofC))):=LH hrow
   have HK:Hid (k+1≤cs.length):=LH hlt
   clear hget hrr HNO hk2
   generalize cs[k]=c at *
   obtain⟨y,m⟩:=c
   simp only[ofC]at e0 e1 GET HAT HNO2 HAE
   have hcbm:=hcb
   have htl:=ht
   obtain⟨-,hm0,hm1⟩:=hcb
   obtain⟨-,hl0,hl1⟩:=ht
   simp only at hm0 hm1 hl0 hl1
   have hra:=fun w hw=>zgv m l hm0 hm1 hl0 hl1 w hw
   have HCMP:=LH (fun w hw=>zbY l m (zmy hl1) (zmy hm1) w hw)
   have L0:=Blk.new wr [.string ⟨(ze y).toArray⟩,.string ⟨(Lib.itoa (m:Int)).toArray⟩] 139
   have hqa:=hQ.alloc hQ.size (Obj.cells [.string ⟨(ze y).toArray⟩,.string ⟨(Lib.itoa (m:Int)).toArray⟩].toArray 139)
   have hqb:=Q.trans hQ1 hqa
   have t1:=(T1.keep hQ T1.lt).cell 1
   have lTr:=(T1.keep hQ T1.lt).lt
   simp only[zs4,zs5]at t1
   cases hsq:zc5 ((l:Rat) / (m:Rat))with
   | false =>
    have HX:=LH (HNO2.out hsq)
    rw[hsq]at hra
    have HRA:=LH hra
    clear hra hsq HNO2 HAT HCMP HAE
    go_wp2_with fail
    refine cx (HRA.out _ (hE.q hqb)) fun w2 hq2=>?_
    have hQ2:=Q.trans hqa hq2
    clear e0 e1 t1
    go_wp2
    go_roundw
    case rel=>exact⟨k+1,HK.out,by go_num,hQ2,LH HX.out⟩
    case measure=>simp[intOf];omega
   | true =>
    have HADD:=LH (HAT.out hsq)
    have HADE:=LH (HAE.out hsq)
    have hinv:=zoz hm0 hl0 hsq
    rw[hsq]at hra
    have HRA:=LH hra
    have HPL1:=LH (fun w hw=>zfE (x,l) (y,m) htl hcbm hinv w hw)
    have HPL2:=LH (fun w hw=>zfE (y,m) (x,l) hcbm htl hsq w hw)
    clear hra hsq HNO2 HAT hinv hcbm htl HAE
    by_cases hlm:l<m
    ·have hc1:Lib.compareInt (l:Int) (m:Int) = -1:=by unfold Lib.compareInt;rw[if_pos (by omega)]
     rw[hc1]at HCMP
     have SETS:Hid (zkO cs (x,l)=false→zca ((zd6 cs (x,l)).map ofC)=((zca (cs.map ofC)).set (k*2) (.string ⟨(zfT (x,l) (y,m)).1.toArray⟩)).set (k*2+1) (.string ⟨(zfT (x,l) (y,m)).2.toArray⟩)∧(zd6 cs (x,l)).length=cs.length):=LH (fun hne=>by
      rw[HADE.out,if_pos hlm]at hne
      have hs:zfT (x,l) (y,m)=ofC (zgH (x,l) (y,m)):=by unfold zfT;rw[if_neg (by rw[hne];decide)]
      rw[hs]
      rw[HADD.out,if_pos hlm,List.map_set,← zk0 _ k (ofC (zgH (x,l) (y,m))),List.length_set];exact⟨rfl,rfl⟩)
     clear hc1 HPL2 HADD hl0 hl1 hm0 hm1
     have HERR:Hid (zrx cs (x,l)=zmf (x,l) (y,m)):=LH (by unfold zrx zmf;rw[HADE.out,if_pos hlm])
     generalize zmf (x,l) (y,m)=PI at *
     clear hlm HADE
     generalize (zfT (x,l) (y,m)).1=PR at *
     generalize (zfT (x,l) (y,m)).2=PM at *
     generalize Lib.itoa (l:Int)=L at *
     generalize Lib.itoa (m:Int)=M at *
     generalize ze x=X at *
     generalize ze y=Y at *
     go_wp2_with fail
     refine cx (HRA.out _ (hE.q hqb)) fun w2 hq2=>?_
     have hQ2:=Q.trans hqa hq2
     have T2:=(T1.keep hQ2 T1.lt)
     have L2:=L0.keep hq2 L0.lt
     clear e0 e1 t1
     have t0:=T2.cell 0
     have t1:=T2.cell 1
     have lT2:=T2.lt
     have lL2:=L2.lt
     have d1:=L2.cell 1
     simp only[zs4,zs5]at t0 t1 d1
     have H0:=Blk.new w2 [.string ⟨X.toArray⟩,.string ⟨L.toArray⟩] 139
     have hqh:=hQ2.alloc hQ2.size (Obj.cells [.string ⟨X.toArray⟩,.string ⟨L.toArray⟩].toArray 139)
     go_wp2_with fail
     refine cx (HCMP.out _ (hE.q (Q.trans hQ1 hqh))) fun w3 hq3=>?_
     have hQ3:Q w w3:=Q.trans hQ1 (Q.trans hqh hq3)
     have L3:=(L2.alloc (Obj.cells [.string ⟨X.toArray⟩,.string ⟨L.toArray⟩].toArray 139)).keep hq3 (by simp;omega)
     have H3:=H0.keep hq3 H0.lt
     clear t0 t1 d1 T2 L2
     have a0:=L3.cell
     have b0:=H3.cell
     have fa0:=L3.frozen 0
     have fa1:=L3.frozen 1
     have fb0:=H3.frozen 0
     have fb1:=H3.frozen 1
     have lL3:=L3.lt
     have lH3:=H3.lt
     have hne1:wr.heap.size≠w2.heap.size:=by omega
     have hsw:w.heap.size≤wr.heap.size:=hQw.size
     have hsw2:w.heap.size≤w2.heap.size:=by omega
     have hQ3':Q w ((((w3.setCell ⟨wr.heap.size,0,none⟩ (.string ⟨X.toArray⟩)).setCell ⟨wr.heap.size,1,none⟩ (.string ⟨L.toArray⟩)).setCell ⟨w2.heap.size,0,none⟩ (.string ⟨Y.toArray⟩)).setCell ⟨w2.heap.size,1,none⟩ (.string ⟨M.toArray⟩)) :=
      (((hQ3.setCell (p:=⟨wr.heap.size,0,none⟩) hsw _).setCell (p:=⟨wr.heap.size,1,none⟩) hsw _).setCell (p:=⟨w2.heap.size,0,none⟩) hsw2 _).setCell (p:=⟨w2.heap.size,1,none⟩) hsw2 _
     go_wp2_with fail
     refine cx (HPL1.out _ (hE.q hQ3')) fun w4 hq4=>?_
     have hQ4:=Q.trans hQ3' hq4
     have S0:=Blk.new w4 [.string ⟨PR.toArray⟩,.string ⟨PM.toArray⟩] 139
     have hQ5:Q w (w4.alloc (.cells [.string ⟨PR.toArray⟩,.string ⟨PM.toArray⟩].toArray 139)):=hQ4.alloc hQ4.size _
     have s0:=S0.drew.cell 0
     have s1:=S0.drew.cell 1
     have G5:=(hG.keep hQ5 lG).drew
     have g5:=G5.cell 0
     have lS:=S0.lt
     have lG5:=G5.lt
     simp only[zs4,zs5]at s0 s1 g5
     go_wp2_with fail
     refine zm 7 rfl (by kernel_rfl) rfl ?_
     refine svp 0 ?_
     refine svp 1 ?_
     refine svp 2 ?_
     refine svq 3 rfl (by intro w' hq;have hc0:=za hq g5;go_simp;try with_reducible rfl) ?_
     refine svp 4 ?_
     refine svq 5 rfl (by intro w' hq;have hc0:=za hq s0;have hc1:=za hq s1;go_simp;try with_reducible rfl) ?_
     refine svp 6 ?_
     refine zi (by kernel_rfl) (fun w6 hq6=>?_)
     simp only[List.drop_succ_cons,List.drop_zero]
     have hQ6:Q w w6:=Below.trans (Below.drew hQ5) (hq6.mono hQ5.size)
     have hr6:=zn HRW.out hQ6
     have f0:=hr6.frozenAt (k*2)
     have f1:=hr6.frozenAt (k*2+1)
     have q0:=hr6.cellAt (k*2) (by omega)
     have q1:=hr6.cellAt (k*2+1) (by omega)
     rw[(GET.out).1]at q0
     rw[(GET.out).2]at q1
     have hG6:=hG.keep hQ6 lG
     have HDONE:=LH (fun hne=>zoN (p:=(PR,PM)) (k:=k) hG6 hr6 (SETS.out hne) (fun e=>by have:=(SETS.out hne).2;rw[e]at this;simp at this;omega) (by omega))
     have hB6:Below G w w6:=hQ6.mono (Nat.le_of_lt lG)
     have HB7:Hid (Below G w ((w6.setCell ⟨g,k*2,none⟩ (.string ⟨PR.toArray⟩)).setCell ⟨g,k*2+1,none⟩ (.string ⟨PM.toArray⟩))):=LH ((hB6.setCell (p:=⟨g,k*2,none⟩) (show G≤g by omega) _).setCell (p:=⟨g,k*2+1,none⟩) (show G≤g by omega) _)
     clear hr6 hG6 hB6 hQ6 hQ5 S0 G5 g5 s0 s1
     go_wp2
     go_ret
     exact⟨by have h:=HERR.out;subst h;rfl,HB7.out,HDONE.out⟩
    ·have hc1:¬ Lib.compareInt (l:Int) (m:Int)<0:=by unfold Lib.compareInt;rw[if_neg (by omega)];split <;> decide
     have SETS:Hid (zkO cs (x,l)=false→zca ((zd6 cs (x,l)).map ofC)=((zca (cs.map ofC)).set (k*2) (.string ⟨(zfT (y,m) (x,l)).1.toArray⟩)).set (k*2+1) (.string ⟨(zfT (y,m) (x,l)).2.toArray⟩)∧(zd6 cs (x,l)).length=cs.length):=LH (fun hne=>by
      rw[HADE.out,if_neg hlm]at hne
      have hs:zfT (y,m) (x,l)=ofC (zgH (y,m) (x,l)):=by unfold zfT;rw[if_neg (by rw[hne];decide)]
      rw[hs]
      rw[HADD.out,if_neg hlm,List.map_set,← zk0 _ k (ofC (zgH (y,m) (x,l))),List.length_set];exact⟨rfl,rfl⟩)
     clear HPL1 HADD hl0 hl1 hm0 hm1
     have HERR:Hid (zrx cs (x,l)=zmf (y,m) (x,l)):=LH (by unfold zrx zmf;rw[HADE.out,if_neg hlm])
     generalize zmf (y,m) (x,l)=PI at *
     clear hlm HADE
     generalize (zfT (y,m) (x,l)).1=PR at *
     generalize (zfT (y,m) (x,l)).2=PM at *
     generalize Lib.compareInt (l:Int) (m:Int)=cc at *
     generalize Lib.itoa (l:Int)=L at *
     generalize Lib.itoa (m:Int)=M at *
     generalize ze x=X at *
     generalize ze y=Y at *
     go_wp2_with fail
     refine cx (HRA.out _ (hE.q hqb)) fun w2 hq2=>?_
     have hQ2:=Q.trans hqa hq2
     have T2:=(T1.keep hQ2 T1.lt)
     have L2:=L0.keep hq2 L0.lt
     clear e0 e1 t1
     have t0:=T2.cell 0
     have t1:=T2.cell 1
     have lT2:=T2.lt
     have lL2:=L2.lt
     have d1:=L2.cell 1
     simp only[zs4,zs5]at t0 t1 d1
     have H0:=Blk.new w2 [.string ⟨X.toArray⟩,.string ⟨L.toArray⟩] 139
     have hqh:=hQ2.alloc hQ2.size (Obj.cells [.string ⟨X.toArray⟩,.string ⟨L.toArray⟩].toArray 139)
     go_wp2_with fail
     refine cx (HCMP.out _ (hE.q (Q.trans hQ1 hqh))) fun w3 hq3=>?_
     have hQ3':Q w w3:=Q.trans hQ1 (Q.trans hqh hq3)
     have L3:=(L2.alloc (Obj.cells [.string ⟨X.toArray⟩,.string ⟨L.toArray⟩].toArray 139)).keep hq3 (by simp;omega)
     have H3:=H0.keep hq3 H0.lt
     clear t0 t1 d1 T2 L2
     have a0:=L3.cell
     have b0:=H3.cell
     have lL3:=L3.lt
     have lH3:=H3.lt
     go_wp2_with fail
     refine cx (HPL2.out _ (hE.q hQ3')) fun w4 hq4=>?_
     have hQ4:=Q.trans hQ3' hq4
     have S0:=Blk.new w4 [.string ⟨PR.toArray⟩,.string ⟨PM.toArray⟩] 139
     have hQ5:Q w (w4.alloc (.cells [.string ⟨PR.toArray⟩,.string ⟨PM.toArray⟩].toArray 139)):=hQ4.alloc hQ4.size _
     have s0:=S0.drew.cell 0
     have s1:=S0.drew.cell 1
     have G5:=(hG.keep hQ5 lG).drew
     have g5:=G5.cell 0
     have lS:=S0.lt
     have lG5:=G5.lt
     simp only[zs4,zs5]at s0 s1 g5
     go_wp2_with fail
     refine zm 7 rfl (by kernel_rfl) rfl ?_
     refine svp 0 ?_
     refine svp 1 ?_
     refine svp 2 ?_
     refine svq 3 rfl (by intro w' hq;have hc0:=za hq g5;go_simp;try with_reducible rfl) ?_
     refine svp 4 ?_
     refine svq 5 rfl (by intro w' hq;have hc0:=za hq s0;have hc1:=za hq s1;go_simp;try with_reducible rfl) ?_
     refine svp 6 ?_
     refine zi (by kernel_rfl) (fun w6 hq6=>?_)
     simp only[List.drop_succ_cons,List.drop_zero]
     have hQ6:Q w w6:=Below.trans (Below.drew hQ5) (hq6.mono hQ5.size)
     have hr6:=zn HRW.out hQ6
     have f0:=hr6.frozenAt (k*2)
     have f1:=hr6.frozenAt (k*2+1)
     have q0:=hr6.cellAt (k*2) (by omega)
     have q1:=hr6.cellAt (k*2+1) (by omega)
     rw[(GET.out).1]at q0
     rw[(GET.out).2]at q1
     have hG6:=hG.keep hQ6 lG
     have HDONE:=LH (fun hne=>zoN (p:=(PR,PM)) (k:=k) hG6 hr6 (SETS.out hne) (fun e=>by have:=(SETS.out hne).2;rw[e]at this;simp at this;omega) (by omega))
     have hB6:Below G w w6:=hQ6.mono (Nat.le_of_lt lG)
     have HB7:Hid (Below G w ((w6.setCell ⟨g,k*2,none⟩ (.string ⟨PR.toArray⟩)).setCell ⟨g,k*2+1,none⟩ (.string ⟨PM.toArray⟩))):=LH ((hB6.setCell (p:=⟨g,k*2,none⟩) (show G≤g by omega) _).setCell (p:=⟨g,k*2+1,none⟩) (show G≤g by omega) _)
     clear hr6 hG6 hB6 hQ6 hQ5 S0 G5 g5 s0 s1
     go_wp2
     go_ret
     exact⟨by have h:=HERR.out;subst h;rfl,HB7.out,HDONE.out⟩
  ·obtain rfl:k=cs.length:=by omega
   have HNEW:Hid (zd6 cs (x,l)=cs++[(x,l)]):=LH (zoP cs (x,l) (fun j hj=>HNO.out j hj hj))
   have HA0:Hid (zrx cs (x,l)=0):=LH (by unfold zrx;rw[zoO cs (x,l) (fun j hj=>HNO.out j hj hj)];rfl)
   have hQw:=Q.trans hQ1 hQ
   have T2:=T1.keep hQ T1.lt
   have G2:=hG1.keep hQ hG1.lt
   have hrr:=zn (zn hrow hQ1) hQ
   have HRX:Hid (zca ((zd6 cs (x,l)).map ofC)=zca (cs.map ofC)++[.string ⟨(ze x).toArray⟩,.string ⟨(Lib.itoa (l:Int)).toArray⟩]∧(zd6 cs (x,l)).length=cs.length+1):=LH (by
    rw[HNEW.out,List.map_append,zgs,List.length_append];exact⟨rfl,rfl⟩)
   have HNE:Hid (zd6 cs (x,l)≠[]):=LH (by rw[HNEW.out];simp)
   obtain⟨i0,hi,hz0,hz1,hz2⟩:=zco zmJ
   have HI:=LH hi
   have HZ:=LH hz0
   have HS:=LH hz1
   have HB:=LH hz2
   clear hi hz0 hz1 hz2 HNO HNEW ht HCS
   generalize zca (cs.map ofC)=xs at *
   generalize Lib.itoa (l:Int)=L at *
   generalize ze x=X at *
   have g0r:=G2.cell 0
   have t0r:=T2.cell 0
   have t1r:=T2.cell 1
   have kf:=G2.frozen 0
   have lG2:=G2.lt
   have lT2:=T2.lt
   have hGT:G≠w.heap.size:=by omega
   have hGg:G≠g:=by omega
   have hTg:w.heap.size≠g:=by omega
   have hnew:=Blk.new wr [.string ⟨X.toArray⟩,.string ⟨L.toArray⟩] 139
   have G3:=G2.alloc (Obj.cells #[.string ⟨X.toArray⟩,.string ⟨L.toArray⟩] 139)
   have T3:=T2.alloc (Obj.cells #[.string ⟨X.toArray⟩,.string ⟨L.toArray⟩] 139)
   have k02:=G3.cell 0
   have d02:=T3.cell 0
   have d12:=T3.cell 1
   have kf2:=G3.frozen 0
   have hlG:G<(wr.alloc (Obj.cells #[.string ⟨X.toArray⟩,.string ⟨L.toArray⟩] 139)).drew.heap.size:=by simp;omega
   have hlT:w.heap.size<(wr.alloc (Obj.cells #[.string ⟨X.toArray⟩,.string ⟨L.toArray⟩] 139)).drew.heap.size:=by simp;omega
   have hown0:=(hrr.alloc (Obj.cells #[.string ⟨X.toArray⟩,.string ⟨L.toArray⟩] 139)).drew
   simp only[zs4,zs5]at g0r t0r t1r k02 d02 d12
   have hB2:Below G w (wr.alloc (Obj.cells #[.string ⟨X.toArray⟩,.string ⟨L.toArray⟩] 139)).drew:=((hQw.mono (Nat.le_of_lt lG)).alloc (by omega) _).drew
   have HG3:=LH G3
   have HGW:Hid (G+1≤wr.heap.size):=LH lG2
   clear G3 T3 G2 T2 hG hG1 hrow hrr hQ hQ1 T1 hE
   go_wp2_with fail
   go_region_law
    (first | (refine step_append_lies _ (by rfl) (.tmp 73) (.tmp 79) 133 (by rfl) (G+1) 139 i0 _ 2 32 Tryz.underlying133 HI.out HZ.out HS.out HB.out rfl (by decide) (.slice (some ⟨g,0,none⟩) cs.length cap) cs.length xs (by rfl) hown0 ⟨wr.heap.size,0,none⟩ 1 1 [.string ⟨X.toArray⟩,.string ⟨L.toArray⟩] (by rfl) (by rfl) (World.news_of_block (cs:=#[.string ⟨X.toArray⟩,.string ⟨L.toArray⟩]) (t:=139) (fr:=(0,0)) hnew) (by simp[Value.oneCell']) (by decide) (by unfold maxLen;omega) (by omega) (by simp;have:=HGW.out;omega) (wr.heap.size+1) (by simp) ?_;intro g4 cap4 w1 hown hgrow hat hlt4;have hh:=znJ (w1:=w1) (T:=w.heap.size) (x:=.string ⟨X.toArray⟩) (y:=.string ⟨L.toArray⟩) hgrow hlG hlT hGT hGg hTg k02 d02 d12 kf2;have c1:=hh.1;have fz:=zqW hh.2))
   all_goals go_wp2
   all_goals go_ret
   all_goals
    have haw:=zp1 HG3.out hgrow hown hB2 hlG (by omega) HRX.out HNE.out
    exact⟨by rw[HA0.out];all_goals rfl,haw.1,fun _=>haw.2⟩
theorem zez(cs:List (Rat × Nat))(t:Rat × Nat)(hcs:∀ c∈cs,CW c)(ht:CW t)(hlen:cs.length≤1000)(G:Nat)(w:World)(hE:Env w)(hng:ng≤G)(hg:zn4 w G cs) :
  Calls Tryz.prog 80 #[.pointer (some ⟨G,0,none⟩),.agg #[.string ⟨(ze t.1).toArray⟩,.string ⟨(Lib.itoa (t.2:Int)).toArray⟩]] w fun e w'=>e=.returned (.int .i64 (zrx cs t))∧Below G w w'∧(zkO cs t=false→zn4 w' G (zd6 cs t)):=by
 by_cases h:cs=[]
 ·subst h
  obtain⟨v,hG,hv,-⟩:=hg
  obtain rfl:=hv rfl
  refine(zg0 G _ _ w hG).mono ?_
  rintro e w'⟨he,hb,v,h1,h2⟩
  exact⟨he,hb,fun _=>⟨v,h1,(fun e=>by simp[zd6]at e),h2⟩⟩
 ·exact zfa cs t hcs ht h hlen G w hE hng hg
theorem ziX(q:Rat)(h:zah q=false)(h9:r90 q=false)(w:World)(hE:Env w) :
  CR 148 #[.string ⟨(ze q).toArray⟩] w (.tuple #[.string ⟨#[]⟩,.string ⟨#[]⟩,.int .i64 4]):=by
 have HC:=LH (fun v1 v2 w hw h1=>ziW q h h9 v1 v2 w hw h1)
 clear h h9
 generalize ze q=S at *
 go_enter Tryz.func148,Tryz.ntmps148
 go_wp2_with fail
 have B1:=((Blk.new w [.string ⟨S.toArray⟩] 29).alloc (.cells #[.string ⟨S.toArray⟩] 29))
 refine cx (HC.out _ _ _ (hE.q bt) (zcR.one B1)) fun w1 hq1=>?_
 have hQ1:Q w w1:=Q.trans (show Below w.heap.size w _ from bt) hq1
 go_wp2
 go_ret3
 exact⟨rfl,hQ1⟩
def zkR(cs:List (Rat × Nat))(t:Rat × Rat):Option (List (Rat × Nat)) :=
 if t.1=0∨t.2=0 then some cs
 else if (r90 t.2 && decide (za8 (leftOf t.2:Rat)≤90))=false then none
 else if mulL t.1 (aOf t.2)=true then none
 else if zkO cs (t.1*aOf t.2,leftOf t.2)=true then none
 else some (zd6 cs (t.1*aOf t.2,leftOf t.2))
def zd5(ts:List (Rat × Rat)):Option (List (Rat × Nat)):=ts.foldl (fun o t=>o.bind fun cs=>zkR cs t) (some [])
theorem zeH(ts:List (Rat × Rat))(t:Rat × Rat):zd5 (ts++[t])=(zd5 ts).bind fun cs=>zkR cs t:=by unfold zd5;rw[List.foldl_append];rfl
theorem zp6(a b:List (Rat × Rat))(h:zd5 a=none):zd5 (a++b)=none:=by
 have key:∀ b:List (Rat × Rat),b.foldl (fun(o:Option (List (Rat × Nat))) t=>o.bind fun cs=>zkR cs t) none=none:=by
  intro b
  induction b with
  | nil=>rfl
  | cons t r ih=>exact ih
 unfold zd5 at h ⊢
 rw[List.foldl_append,h,key]
theorem zp5{ts:List (Rat × Rat)}{k:Nat}(hk:k<ts.length){cs:List (Rat × Nat)}(h:zd5 (ts.take k)=some cs)(hs:zkR cs ts[k]=none):zd5 ts=none:=by
 have h1:zd5 (ts.take (k+1))=none:=by rw[List.take_succ_eq_append_getElem hk,zeH,h];exact hs
 have:=zp6 _ (ts.drop (k+1)) h1
 rwa[List.take_append_drop]at this
theorem zsX{ts:List (Rat × Rat)}{k:Nat}(hk:k<ts.length){cs cs':List (Rat × Nat)}(h:zd5 (ts.take k)=some cs)(hs:zkR cs ts[k]=some cs'):zd5 (ts.take (k+1))=some cs':=by
 rw[List.take_succ_eq_append_getElem hk,zeH,h];exact hs
structure TW (t:Rat × Rat):Prop where
 c:zah t.1=false
 r:zah t.2=false
 p:0≤t.2.num
theorem zfL{q:Rat}(_h:zd4 q)(hp:0<q.num):0<leftOf q:=(zfp hp).1
theorem zoS{q:Rat}(h:zd4 q)(hp:0<q.num):zah (aOf q)=false:=by
 have h1:q.num.natAbs<10 ^ 90:=(zl _ 90 (by decide)).1 h.1
 have h2:q.den<10 ^ 90:=(zl _ 90 (by decide)).1 h.2
 exact(zm0 (n:=90) ⟨h1,h2⟩ hp).zah (by decide)
theorem zjn{l:Nat}(h:za8 (l:Rat)≤90):l<10 ^ 90:=by
 unfold za8 at h
 rw[Rat.num_natCast,zal,Int.natAbs_natCast]at h
 exact(zl _ 90 (by decide)).1 (by omega)
theorem zsW{cs cs':List (Rat × Nat)}{t:Rat × Rat}(hc:∀ c∈cs,CW c)(ht:TW t)(h:zkR cs t=some cs'):(∀ c∈cs',CW c)∧cs'.length≤cs.length+1:=by
 unfold zkR at h
 by_cases h0:t.1=0∨t.2=0
 ·rw[if_pos h0]at h
  cases h
  exact⟨hc,by omega⟩
 rw[if_neg h0]at h
 cases h1:(r90 t.2 && decide (za8 (leftOf t.2:Rat)≤90))with
 | false=>rw[h1,if_pos rfl]at h;cases h
 | true =>
  rw[h1,if_neg (by decide)]at h
  cases h2:mulL t.1 (aOf t.2)with
  | true=>rw[h2,if_pos rfl]at h;cases h
  | false =>
   rw[h2,if_neg (by decide)]at h
   cases h3:zkO cs (t.1*aOf t.2,leftOf t.2)with
   | true=>rw[h3,if_pos rfl]at h;cases h
   | false =>
    rw[h3,if_neg (by decide)]at h
    cases h
    simp only[Bool.and_eq_true,decide_eq_true_eq]at h1
    have hp:0<t.2.num:=by
     have:=ht.p
     have h5:t.2.num≠0:=fun e=>h0 (.inr (Rat.num_eq_zero.1 e))
     omega
    have hw:CW (t.1*aOf t.2,leftOf t.2):=⟨zgM h2,zfL (zfS h1.1) hp,zjn h1.2⟩
    exact⟨hw.adds hc h3,zoQ _ _⟩
theorem ziG:∀ (n:Nat) {ts:List (Rat × Rat)} {cs:List (Rat × Nat)},ts.length=n→(∀ t∈ts,TW t)→zd5 ts=some cs→(∀ c∈cs,CW c)∧cs.length≤ts.length
 | 0,ts,cs,hn,_,h=>by
  obtain rfl:=List.length_eq_zero_iff.1 hn
  cases h
  exact⟨fun c hc=>absurd hc List.not_mem_nil,Nat.le_refl _⟩
 | n+1,ts,cs,hn,ht,h=>by
  obtain⟨l,t,rfl⟩:∃ l t,ts=l++[t]:=⟨ts.dropLast,ts.getLast (fun e=>by rw[e]at hn;cases hn),(List.dropLast_concat_getLast _).symm⟩
  rw[zeH]at h
  cases hv:zd5 l with
  | none=>rw[hv]at h;cases h
  | some c0 =>
   rw[hv]at h
   have ih:=ziG n (by simpa using hn) (fun x hx=>ht x (List.mem_append_left _ hx)) hv
   have hs:=zsW ih.1 (ht t (by simp)) h
   exact⟨hs.1,by rw[List.length_append];have:=ih.2;have:=hs.2;simp;omega⟩
def ztV(ts:List (Rat × Rat)):Int:=if (zd5 ts).isSome=true then 0 else 4
theorem zfG{ts:List (Rat × Rat)}(h:zd5 ts=none):ztV ts=4:=by unfold ztV;rw[h];rfl
theorem zn6{ts:List (Rat × Rat)}{cs:List (Rat × Nat)}(h:zd5 ts=some cs):ztV ts=0:=by unfold ztV;rw[h];rfl
end Go.Proofs.YthdpnkkddhcacaaGreatDoor
