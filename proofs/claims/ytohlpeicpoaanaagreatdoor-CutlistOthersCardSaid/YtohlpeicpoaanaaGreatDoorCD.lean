/-
  Walks of package cutlist: Check.
-/
import Derived.Test.YtohlpeicpoaanaaGreatDoorCC
namespace Go.Proofs.YtohlpeicpoaanaaGreatDoor
open Go.RowKit Kp Go.Sort
set_option maxRecDepth 100000 in
set_option maxHeartbeats 4000000 in
theorem cut_Check (l:List Ct) (hn:l.length≤1000000) (hm:∀ x∈l,x.ms.length≤1000000) (v:Value) (w:World) (hv:CtSl w v l) :
  Calls Tryz.prog 17 #[v] w fun e w'=>e=.returned (.int .i64 (chkF l))∧Q w w':=by
 obtain ⟨a,cap,rfl,hc⟩:=id hv
 by_cases h5:512<l.length
 ·have hd:decide ((512:Int)<l.length)=true:=by simp; omega
  unfold chkF
  rw [if_pos h5]
  go_enter Tryz.func17,Tryz.ntmps17
  go_wp2
  go_ret
  exact ⟨rfl,bt⟩
 ·have hd:decide ((512:Int)<l.length)=false:=by simp; omega
  unfold chkF
  rw [if_neg h5,← chkK_zero]
  have HSt:=fun W=>seen_store W
  obtain ⟨r,hr⟩:∃ r,r=chkK l 0:=⟨_,rfl⟩
  have HR0:=LH hr
  rw [← hr]
  have HM:=LH hm
  have HC:=LH hc
  clear hr hm hc hv h5
  have hln:(l.length:Int)≤1000000:=by omega
  go_enter Tryz.func17,Tryz.ntmps17
  go_wp2_with fail
  go_loopw [14] (fun i wr=>∃ k:Nat,k≤l.length∧i=.int .i64 k∧Hid (r=chkK l k)∧Hid (∀ j,j<k→0<(ctAt l j).ms.length)∧Blk wr w.heap.size (seenC (memb l k)) 66∧Q w wr) (fun i _=>l.length - (intOf i).toNat)
  case atStart=>exact ⟨0,by omega,rfl,HR0,LH (fun j hj=>absurd hj (Nat.not_lt_zero _)),Blk.new w _ _,(Q.refl w).alloc (Nat.le_refl _) _⟩
  case round =>
   clear HSt
   obtain ⟨k,hk,rfl,HR,HG,HB,hQ⟩:=hrel
   by_cases hlt:k<l.length
   ·obtain ⟨b,o,u,rfl,hb,hnum,hcell⟩:=HC.out k hlt
    have HN0:Hid (∀ W,Q w W→NumSl W u (ctAt l k).ms):=LH (fun W hq=>hnum.keep hq)
    have HNm:=LH (hnum.keep hQ)
    have HPr:Hid (0<k→∃ u',Fst wr u' (atI (ctAt l (k - 1)).ms 0)∧∀ j z,(ctC (ctAt l (k - 1)) u')[j]?=some z→wr.cell? ⟨b,o+(k - 1)*4+j,none⟩=some z):=LH (fun h0=>by
     obtain ⟨b',o',u',ha',hb',hnum',hcell'⟩:=HC.out (k - 1) (by omega)
     injection ha' with ha'
     injection ha' with e1 e2
     subst e1 e2
     exact ⟨u',NumSl.fst (hnum'.keep hQ) (HG.out (k - 1) (by omega)),fun j z hj=>qcell hQ (hcell' j z hj)⟩)
    have hml:=HM.out _ (show ctAt l k∈l by rw [ctAt_get hlt]; exact List.getElem_mem hlt)
    have HS:=LH (HR.out.trans (chkK_step hlt))
    have HGk:Hid (0<(ctAt l k).ms.length→∀ j,j<k+1→0<(ctAt l j).ms.length):=LH (fun h j hj=>by
     rcases Nat.lt_or_ge j k with h1 | h1
     ·exact HG.out j h1
     ·obtain rfl:j=k:=by omega
      exact h)
    have HMS:Hid (memb l (k+1)=memb l k++(ctAt l k).ms):=LH (memb_step hlt)
    generalize hpx:ctAt l (k - 1)=p at *
    generalize hx:ctAt l k=x at *
    clear HR HG hx hpx
    obtain ⟨a2,c2,rfl,-⟩:=id hnum
    have e0:=qcell hQ (hcell 0 _ rfl)
    have e1:=qcell hQ (hcell 1 _ rfl)
    have e2:=qcell hQ (hcell 2 _ rfl)
    have e3:=qcell hQ (hcell 3 _ rfl)
    simp only [Nat.add_zero] at e0
    clear hcell hnum
    have HO1:=LH (fun w=>cut_outside x.w 1000 w)
    have HO2:=LH (fun w=>cut_outside x.d 1000 w)
    have HO3:=LH (fun w=>cut_outside x.n 1048576 w)
    have HAn:=LH (fun w h=>cut_contains x.ms hml (.slice a2 x.ms.length c2) w h)
    have HAs:=LH (fun w h=>cut_ascending x.ms hml (.slice a2 x.ms.length c2) w h)
    have HOr:=LH (fun v1 v2 w h1 h2=>cut_order p x v1 v2 w h1 h2)
    have HP:Hid (pieceF x=if (outF x.w 1000 || (outF x.d 1000 || outF x.n 1048576))=true then 2 else if x.ms.length=0 then 5 else if x.ms.any offF=true then 2 else if ascF x.ms=true then 0 else 10):=LH rfl
    have HNew:Hid (ascF x.ms=true→∀ m,m<x.ms.length→¬ atI x.ms m∈x.ms.take m):=LH (fun h m hm=>asc_new h hm)
    have HAn0:Hid (x.ms.any offF=false→∀ j,j<x.ms.length→offF (atI x.ms j)=false):=LH (fun h j hj=>by
     cases hf:offF (atI x.ms j) with
     | false=>rfl
     | true=>rw [any_yes hj hf] at h; cases h)
    generalize pieceF x=pf at *
    generalize ordF p x=od at *
    generalize outF x.w 1000=o1 at *
    generalize outF x.d 1000=o2 at *
    generalize outF x.n 1048576=o3 at *
    generalize x.ms.any offF=an at *
    generalize ascF x.ms=ac at *
    generalize hms:x.ms=ms at *
    obtain ⟨xw,xd,xn,xm⟩:=x
    simp only [ctC] at e0 e1 e2 e3 HOr HO1 HO2 HO3
    simp only at hms
    subst hms
    have hkz:(k:Int)<l.length:=by omega
    have hk0:(0:Int)≤k:=by omega
    have hxm:(xm.length:Int)≤1000000:=by omega
    go_wp2_with fail
    refine (HO1.out _).mono ?_
    rintro e W1 ⟨rfl,hW1⟩
    have hq1:Q wr W1:=by rw [← hW1]; exact (Q.refl wr).alloc (Nat.le_refl _) _
    have BX:Blk W1 wr.heap.size [.int .i64 xw,.int .i64 xd,.int .i64 xn,.slice a2 xm.length c2] 42:=by rw [← hW1]; exact Blk.new wr _ _
    have hB1:=HB.keep hq1 HB.lt
    have hQ1:=Q.trans hQ hq1
    have HN1:=LH (HNm.out.keep hq1)
    have HP1:Hid (0<k→∃ u',Fst W1 u' (atI p.ms 0)∧∀ j z,(ctC p u')[j]?=some z→W1.cell? ⟨b,o+(k - 1)*4+j,none⟩=some z):=LH (fun h0=>by
     obtain ⟨u',h1,h2⟩:=HPr.out h0
     exact ⟨u',h1.keep hq1,fun j z hj=>qcell hq1 (h2 j z hj)⟩)
    have hTb:wr.heap.size≠w.heap.size:=by have:=HB.lt; omega
    have lX:=BX.lt
    generalize wr.heap.size=T at *
    clear hW1 hq1 HB hQ HNm HPr e0 e1 e2 e3 hb
    have x1:=BX.cell 1
    have x2:=BX.cell 2
    have x3:=BX.cell 3
    simp only [zs4,zs5] at x1 x2 x3
    have hor:(o1 || (o2 || o3))=true∨(o1=false∧o2=false∧o3=false):=by cases o1 <;> cases o2 <;> cases o3 <;> simp
    rcases hor with ho | ⟨rfl,rfl,rfl⟩
    ·have hpf:pf=2:=by rw [HP.out,if_pos ho]
     have hr:r=2:=by rw [HS.out,hpf]; rfl
     clear HR0 HS HP HAn HAn0 HNew HN0 HAs HOr HN1 HP1 HGk HMS HM HC
     subst hr
     cases o1
     ·go_wp2_with fail
      refine (HO2.out _).mono ?_
      rintro e W2 ⟨rfl,rfl⟩
      cases o2
      ·go_wp2_with fail
       refine (HO3.out _).mono ?_
       rintro e W2 ⟨rfl,rfl⟩
       cases o3
       ·exact absurd ho (by decide)
       ·go_wp2
        go_ret
        exact ⟨rfl,hQ1⟩
      ·go_wp2
       go_ret
       exact ⟨rfl,hQ1⟩
     ·go_wp2
      go_ret
      exact ⟨rfl,hQ1⟩
    ·go_wp2_with fail
     refine (HO2.out _).mono ?_
     rintro e W2 ⟨rfl,rfl⟩
     go_wp2_with fail
     refine (HO3.out _).mono ?_
     rintro e W2 ⟨rfl,rfl⟩
     clear HO1 HO2 HO3
     by_cases hx0:xm.length=0
     ·have hpf:pf=5:=by rw [HP.out,if_neg (by decide),if_pos hx0]
      have hr:r=5:=by rw [HS.out,hpf]; rfl
      have hxz:((xm.length:Int) == 0)=true:=by simp [hx0]
      clear HR0 HS HP HAn HAn0 HNew HN0 HAs HOr HN1 HP1 HGk HMS HM HC hx0
      subst hr
      go_wp2
      go_ret
      exact ⟨rfl,hQ1⟩
     ·have hxp:0<xm.length:=Nat.pos_of_ne_zero hx0
      have hxz:((xm.length:Int) == 0)=false:=by rw [beq_eq_false_iff_ne]; omega
      have hxe:xm≠[]:=by intro h; rw [h] at hxp; exact absurd hxp (by decide)
      have HG1:=LH (HGk.out hxp)
      have HF1:=LH (NumSl.fst HN1.out hxp)
      clear HGk
      go_wp2_with fail
      refine (HAn.out _ HN1.out).mono ?_
      rintro e W2 ⟨rfl,rfl⟩
      cases an
      ·have hpf:pf=if ac=true then 0 else 10:=by rw [HP.out,if_neg (by decide),if_neg hx0,if_neg (by decide)]
       have HA0:=LH (HAn0.out rfl)
       clear HAn HAn0 HP hx0
       cases ac
       ·have hr:r=10:=by rw [HS.out,hpf]; rfl
        clear HR0 HS HNew HN0 HOr HP1 HG1 HF1 HMS HM HC HA0
        subst hr
        go_wp2_with fail
        refine wp_steadily 18 rfl (by kernel_rfl) rfl ?_
        refine svp 0 ?_
        refine svq 1 rfl (by intro w' hq; have hc0:=qcell hq x3; go_simp; try with_reducible rfl) ?_
        refine steadily_call (i:=2) (v:=_) rfl rfl (by kernel_rfl) (by kernel_rfl) (fun _ _ _ h=>h) (by rfl) ?_ (fun w' hq=>HAs.out w' (HN1.out.keep (Q.trans (Below.drew (Q.refl _)) hq))) ?_
        ·(intro w' hq; go_simp; try with_reducible rfl)
        simp only [Act.put,zs1,zs2,zs3]
        refine svp 3 ?_
        refine svp 4 ?_
        refine sid 5 ?_
        refine sid 6 ?_
        refine sid 7 ?_
        refine sid 8 ?_
        refine sid 9 ?_
        refine sid 10 ?_
        refine sid 11 ?_
        refine sid 12 ?_
        refine sid 13 ?_
        refine sid 14 ?_
        refine sid 15 ?_
        refine sid 16 ?_
        refine svp 17 ?_
        refine steadily_done (by kernel_rfl) (fun w3 hq3=>?_)
        simp only [List.drop_succ_cons]
        have hQ3:=Q.trans hQ1 (Below.trans (Below.drew (Q.refl _)) hq3)
        go_wp2
        go_ret
        exact ⟨rfl,hQ3⟩
       ·rw [if_pos rfl] at hpf
        have HN:=LH (HNew.out rfl)
        have h3:k=0∨(∃ j,k=j+1∧od<0)∨(∃ j,k=j+1∧0≤od):=by
         rcases Nat.eq_zero_or_pos k with h | h
         ·exact .inl h
         ·rcases Int.lt_or_le od 0 with h1 | h1
          ·exact .inr (.inl ⟨k - 1,by omega,h1⟩)
          ·exact .inr (.inr ⟨k - 1,by omega,h1⟩)
        rcases h3 with hkk | ⟨j,rfl,hod⟩ | ⟨j,rfl,hod⟩
        rotate_left 2
        ·have hr:r=10:=by rw [HS.out,hpf,show decide (0≤od)=true by simpa using hod]; simp
         have hdo:decide (0≤od)=true:=by simpa using hod
         have hj0:(0:Int)≤j:=by omega
         have hjw:IntKind.i64.wrap (j:Int)=j:=Go.IntWalk.i64_in _ (by omega)
         have hjl:(j:Int)<l.length:=by omega
         have hjn:j<l.length:=by omega
         have hjp:decide ((0:Int)<(j:Int)+1)=true:=decide_eq_true (by omega)
         obtain ⟨u',f1,d⟩:=HP1.out (by omega)
         have d0:=d 0 _ rfl
         have d1:=d 1 _ rfl
         have d2:=d 2 _ rfl
         have d3:=d 3 _ rfl
         simp only [Nat.add_sub_cancel,Nat.add_zero] at d0 d1 d2 d3
         have HOq:Hid (∀ w',Q W1.drew w'→Calls Tryz.prog 31 #[.agg #[.int .i64 p.w,.int .i64 p.d,.int .i64 p.n,u'],.agg #[.int .i64 xw,.int .i64 xd,.int .i64 xn,.slice a2 xm.length c2]] w' fun e w''=>e=.returned (.int .i64 od)∧Q w' w''):=LH (fun w' hq=>(HOr.out _ _ w' (f1.keep (Q.trans (Below.drew (Q.refl _)) hq)) (HF1.out.keep (Q.trans (Below.drew (Q.refl _)) hq))).mono fun e w'' h=>⟨h.1,gr_q h.2⟩)
         have x0:=BX.cell 0
         simp only [List.getElem?_cons_zero] at x0
         clear HR0 HS HNew HN0 HOr HP1 HG1 HMS HM HC HA0 HN hod d f1
         subst hr
         go_wp2_with fail
         refine wp_steadily 18 rfl (by kernel_rfl) rfl ?_
         refine svp 0 ?_
         refine svq 1 rfl (by intro w' hq; have hc0:=qcell hq x3; go_simp; try with_reducible rfl) ?_
         refine steadily_call (i:=2) (v:=_) rfl rfl (by kernel_rfl) (by kernel_rfl) (fun _ _ _ h=>h) (by rfl) ?_ (fun w' hq=>HAs.out w' (HN1.out.keep (Q.trans (Below.drew (Q.refl _)) hq))) ?_
         ·(intro w' hq; go_simp; try with_reducible rfl)
         simp only [Act.put,zs1,zs2,zs3]
         refine svp 3 ?_
         refine svp 4 ?_
         refine svp 5 ?_
         refine svp 6 ?_
         refine svp 7 ?_
         refine svp 8 ?_
         refine svp 9 ?_
         refine svp 10 ?_
         refine svp 11 ?_
         refine svq 12 rfl (by intro w' hq; have hc0:=qcell hq d0; have hc1:=qcell hq d1; have hc2:=qcell hq d2; have hc3:=qcell hq d3; go_simp; try with_reducible rfl) ?_
         refine svq 13 rfl (by intro w' hq; have hc0:=qcell hq x0; have hc1:=qcell hq x1; have hc2:=qcell hq x2; have hc3:=qcell hq x3; go_simp; try with_reducible rfl) ?_
         refine steadily_call (i:=14) (v:=_) rfl rfl (by kernel_rfl) (by kernel_rfl) (fun _ _ _ h=>h) (by rfl) ?_ (fun w' hq=>HOq.out w' hq) ?_
         ·(intro w' hq; go_simp; try with_reducible rfl)
         simp only [Act.put,zs1,zs2,zs3]
         refine svp 15 ?_
         refine svp 16 ?_
         refine svp 17 ?_
         refine steadily_done (by kernel_rfl) (fun w3 hq3=>?_)
         simp only [List.drop_succ_cons]
         have hQ3:=Q.trans hQ1 (Below.trans (Below.drew (Q.refl _)) hq3)
         go_wp2
         go_ret
         exact ⟨rfl,hQ3⟩
        case' inl =>
         have HS2:Hid (r=if (xm.any fun m=>decide (m∈memb l k))=true then 7 else chkK l (k+1)):=LH (by
          have h:=HS.out
          rw [hpf,hkk] at h
          rw [hkk]
          simpa using h)
         have hkp:decide ((0:Int)<(k:Int))=false:=decide_eq_false (by omega)
         have hkq:decide (0<k)=false:=decide_eq_false (by omega)
         have hkc:True:=trivial
         clear HR0 HS HNew HOr HP1 HF1 hkk hpf
         go_wp2_with fail
         refine wp_steadily 18 rfl (by kernel_rfl) rfl ?_
         refine svp 0 ?_
         refine svq 1 rfl (by intro w' hq; have hc0:=qcell hq x3; go_simp; try with_reducible rfl) ?_
         refine steadily_call (i:=2) (v:=_) rfl rfl (by kernel_rfl) (by kernel_rfl) (fun _ _ _ h=>h) (by rfl) ?_ (fun w' hq=>HAs.out w' (HN1.out.keep (Q.trans (Below.drew (Q.refl _)) hq))) ?_
         ·(intro w' hq; go_simp; try with_reducible rfl)
         simp only [Act.put,zs1,zs2,zs3]
         refine svp 3 ?_
         refine svp 4 ?_
         refine svp 5 ?_
         refine svp 6 ?_
         refine svp 7 ?_
         refine sid 8 ?_
         refine sid 9 ?_
         refine sid 10 ?_
         refine sid 11 ?_
         refine sid 12 ?_
         refine sid 13 ?_
         refine sid 14 ?_
         refine sid 15 ?_
         refine svp 16 ?_
         refine svp 17 ?_
        case' inr.inl =>
         have HS2:Hid (r=if (xm.any fun m=>decide (m∈memb l (j+1)))=true then 7 else chkK l (j+1+1)):=LH (by
          have h:=HS.out
          rw [hpf,show decide (0≤od)=false from decide_eq_false (by omega)] at h
          simpa using h)
         have hdo:decide (0≤od)=false:=decide_eq_false (by omega)
         have hj0:(0:Int)≤j:=by omega
         have hjw:IntKind.i64.wrap (j:Int)=j:=Go.IntWalk.i64_in _ (by omega)
         have hjl:(j:Int)<l.length:=by omega
         have hjn:j<l.length:=by omega
         have hkp:decide ((0:Int)<(j:Int)+1)=true:=decide_eq_true (by omega)
         obtain ⟨u',f1,d⟩:=HP1.out (by omega)
         have d0:=d 0 _ rfl
         have d1:=d 1 _ rfl
         have d2:=d 2 _ rfl
         have d3:=d 3 _ rfl
         simp only [Nat.add_sub_cancel,Nat.add_zero] at d0 d1 d2 d3
         have HOq:Hid (∀ w',Q W1.drew w'→Calls Tryz.prog 31 #[.agg #[.int .i64 p.w,.int .i64 p.d,.int .i64 p.n,u'],.agg #[.int .i64 xw,.int .i64 xd,.int .i64 xn,.slice a2 xm.length c2]] w' fun e w''=>e=.returned (.int .i64 od)∧Q w' w''):=LH (fun w' hq=>(HOr.out _ _ w' (f1.keep (Q.trans (Below.drew (Q.refl _)) hq)) (HF1.out.keep (Q.trans (Below.drew (Q.refl _)) hq))).mono fun e w'' h=>⟨h.1,gr_q h.2⟩)
         have x0:=BX.cell 0
         simp only [List.getElem?_cons_zero] at x0
         clear HR0 HS HNew HOr HP1 HF1 hod hpf d f1
         go_wp2_with fail
         refine wp_steadily 18 rfl (by kernel_rfl) rfl ?_
         refine svp 0 ?_
         refine svq 1 rfl (by intro w' hq; have hc0:=qcell hq x3; go_simp; try with_reducible rfl) ?_
         refine steadily_call (i:=2) (v:=_) rfl rfl (by kernel_rfl) (by kernel_rfl) (fun _ _ _ h=>h) (by rfl) ?_ (fun w' hq=>HAs.out w' (HN1.out.keep (Q.trans (Below.drew (Q.refl _)) hq))) ?_
         ·(intro w' hq; go_simp; try with_reducible rfl)
         simp only [Act.put,zs1,zs2,zs3]
         refine svp 3 ?_
         refine svp 4 ?_
         refine svp 5 ?_
         refine svp 6 ?_
         refine svp 7 ?_
         refine svp 8 ?_
         refine svp 9 ?_
         refine svp 10 ?_
         refine svp 11 ?_
         refine svq 12 rfl (by intro w' hq; have hc0:=qcell hq d0; have hc1:=qcell hq d1; have hc2:=qcell hq d2; have hc3:=qcell hq d3; go_simp; try with_reducible rfl) ?_
         refine svq 13 rfl (by intro w' hq; have hc0:=qcell hq x0; have hc1:=qcell hq x1; have hc2:=qcell hq x2; have hc3:=qcell hq x3; go_simp; try with_reducible rfl) ?_
         refine steadily_call (i:=14) (v:=_) rfl rfl (by kernel_rfl) (by kernel_rfl) (fun _ _ _ h=>h) (by rfl) ?_ (fun w' hq=>HOq.out w' hq) ?_
         ·(intro w' hq; go_simp; try with_reducible rfl)
         simp only [Act.put,zs1,zs2,zs3]
         refine svp 15 ?_
         refine svp 16 ?_
         refine svp 17 ?_
         clear HOq d0 d1 d2 d3 x0 hjw hjl hjn hdo
         obtain ⟨k,hkj⟩:∃ k,k=j+1:=⟨_,rfl⟩
         have hkc:(j:Int)+1=(k:Int):=by omega
         rw [← hkj] at HMS HG1 HS2 hlt hB1 hk hkz hk0
         clear hkj
        all_goals
         refine steadily_done (by kernel_rfl) (fun w3 hq3=>?_)
         simp only [List.drop_succ_cons,List.drop_zero]
         have hq13:Q W1 w3:=Below.trans (Below.drew (Q.refl _)) hq3
         have hQ3:=Q.trans hQ1 hq13
         have hB3:=hB1.keep hq13 hB1.lt
         have X3:=BX.keep hq13 BX.lt
         have y3:=X3.cell 3
         simp only [zs4,zs5] at y3
         clear HAs HN1 hB1 BX hq3 hq13 hQ1 x1 x2 x3
         go_wp2
         go_loopw [64] (fun i wl=>∃ m:Nat,m≤xm.length∧i=.int .i64 m∧Hid (∀ j,j<m→¬ atI xm j∈memb l k)∧Blk wl w.heap.size (seenC (memb l k++xm.take m)) 66∧Q w wl) (fun i _=>xm.length - (intOf i).toNat)
         case atStart=>exact ⟨0,by omega,rfl,LH (fun j hj=>absurd hj (Nat.not_lt_zero _)),by rw [List.take_zero,List.append_nil]; exact hB3,hQ3⟩
         case round =>
          clear hB3 X3 y3 hQ3
          obtain ⟨m,hm,rfl,HD,hB,hQ⟩:=hrel
          by_cases hlm:m<xm.length
          ·obtain ⟨b',o',he,hb',c0⟩:=(NumSl.cell (HN0.out _ hQ)).2 m hlm
           subst he
           have hoff:=HA0.out m hlm
           have hnew:=HN.out m hlm
           obtain ⟨q,hq5,hxq⟩:∃ q:Nat,q<512∧atI xm m=q:=by
            unfold offF at hoff
            simp only [Bool.or_eq_false_iff,decide_eq_false_iff_not] at hoff
            exact ⟨(atI xm m).toNat,by omega,by omega⟩
           have HX:Hid (atI xm m∈memb l k→r=7):=LH (fun h=>by rw [HS2.out,if_pos (any_yes hlm (decide_eq_true h))])
           have HD2:Hid (¬ atI xm m∈memb l k→∀ j,j<m+1→¬ atI xm j∈memb l k):=LH (fun h j hj=>by
            rcases Nat.lt_or_ge j m with h1 | h1
            ·exact HD.out j h1
            ·obtain rfl:j=m:=by omega
             exact h)
           have HT:Hid (xm.take (m+1)=xm.take m++[(q:Int)]):=LH (by rw [take_at hlm,hxq])
           rw [hxq] at c0 hnew HX HD2
           have hcs:=hB.cell q
           rw [seenC_get hq5] at hcs
           have hfr:=hB.frozen q
           have hq0:(0:Int)≤q:=by omega
           have hqz:(q:Int)<512:=by omega
           have hmz:(m:Int)<xm.length:=by omega
           have hm0:(0:Int)≤m:=by omega
           clear HD hoff hxq
           by_cases hin:(q:Int)∈memb l k
           ·have hr:=HX.out hin
            rw [decide_eq_true (List.mem_append.2 (.inl hin))] at hcs
            clear HX HD2 hin HT hnew HS2 HG1 HMS HM HC HN0 HA0 HN
            subst hr
            go_wp2
            go_ret
            exact ⟨rfl,hQ⟩
           ·have HK:=LH (HD2.out hin)
            rw [decide_eq_false (fun h=>(List.mem_append.1 h).elim hin hnew)] at hcs
            have hB2:Hid (Blk (wr.setCell ⟨w.heap.size,q,none⟩ (.bool true)) w.heap.size (seenC (memb l k++xm.take (m+1))) 66):=LH (by
             have h:=hB.set q (.bool true)
             rw [seenC_set hq5,List.append_assoc,← HT.out] at h
             exact h)
            have hQ2:Q w (wr.setCell ⟨w.heap.size,q,none⟩ (.bool true)):=hQ.setCell (p:=⟨w.heap.size,q,none⟩) (Nat.le_refl _) _
            clear HX HD2 hin HT hnew
            go_wp2
            go_roundw
            case rel=>exact ⟨m+1,by omega,by go_num,HK,hB2.out,hQ2⟩
            case measure=>simp [intOf]; omega
          ·obtain rfl:m=xm.length:=by omega
           have HR2:Hid (r=chkK l (k+1)):=LH (by rw [HS2.out,if_neg (by rw [any_not (fun j hj=>decide_eq_false (HD.out j hj))]; decide)])
           have hB2:Hid (Blk wr w.heap.size (seenC (memb l (k+1))) 66):=LH (by rw [HMS.out]; rw [List.take_length] at hB; exact hB)
           clear HS2 HD hB
           go_wp2
           go_roundw
           case rel=>exact ⟨k+1,by omega,by go_num,HR2,HG1,hB2.out,hQ⟩
           case measure=>simp [intOf]; omega
      ·have hpf:pf=2:=by rw [HP.out,if_neg (by decide),if_neg hx0,if_pos rfl]
       have hr:r=2:=by rw [HS.out,hpf]; rfl
       clear HR0 HS HP HAn HAn0 HNew HN0 HAs HOr HN1 HP1 HG1 HF1 HMS HM HC hx0
       subst hr
       go_wp2
       go_ret
       exact ⟨rfl,hQ1⟩
   ·obtain rfl:k=l.length:=by omega
    have hr:r=0:=by rw [HR.out,chkK_end]
    clear HR HR0 HG HB HC HM
    subst hr
    go_wp2
    go_ret
    exact ⟨rfl,hQ⟩
end Go.Proofs.YtohlpeicpoaanaaGreatDoor
