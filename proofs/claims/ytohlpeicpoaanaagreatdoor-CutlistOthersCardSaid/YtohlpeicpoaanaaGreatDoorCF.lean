/-
  Walks of package kingpostref42: Check.; Walks of package kingpostref42: Check, at any list.
-/
import Derived.Test.YtohlpeicpoaanaaGreatDoorCE
import Derived.Deep.RegionHeld
namespace Go.Proofs.YtohlpeicpoaanaaGreatDoor
section
open Go.RowKit Kp Go.Sort
set_option maxRecDepth 100000 in
set_option maxHeartbeats 2000000 in
theorem ref_checkPiece (x:Ct) (hml:x.ms.length≤1000000) (u:Value) (w:World) (hu:NumSl w u x.ms) :
  Calls Tryz.prog 26 #[.agg (ctC x u).toArray] w fun e w'=>e=.returned (.int .i64 (pieceF x))∧Q w w':=by
 have HY:Hid (∀ k,k<x.ms.length→offF (atI x.ms k)=true→x.ms.any offF=true):=LH (fun k hk h=>any_yes hk h)
 have HZ:Hid ((∀ k,k<x.ms.length→offF (atI x.ms k)=false)→x.ms.any offF=false):=LH any_not
 have HY2:=LH (asc_yes (l:=x.ms))
 have HX2:Hid (∀ i,i+1<x.ms.length→atI x.ms (i+1)≤atI x.ms i→ascF x.ms=false):=LH (fun i hi h=>asc_no hi h)
 have HN0:Hid (∀ W,Q w W→NumSl W u x.ms):=LH (fun W hq=>hu.keep hq)
 obtain ⟨a,cap,rfl,-⟩:=id hu
 clear hu
 obtain ⟨xw,xd,xn,xm⟩:=x
 unfold pieceF outF ctC
 simp only at *
 generalize xm.any offF=an at *
 generalize ascF xm=ac at *
 have hxm:(xm.length:Int)≤1000000:=by omega
 generalize h1:decide (xw<1)=b1 at *
 generalize h2:decide (1000<xw)=b2 at *
 generalize h3:decide (xd<1)=b3 at *
 generalize h4:decide (1000<xd)=b4 at *
 generalize h5:decide (xn<1)=b5 at *
 generalize h6:decide (1048576<xn)=b6 at *
 have hb:b1=true∨(b1=false∧b2=true)∨(b1=false∧b2=false∧b3=true)∨(b1=false∧b2=false∧b3=false∧b4=true)∨(b1=false∧b2=false∧b3=false∧b4=false∧b5=true)∨(b1=false∧b2=false∧b3=false∧b4=false∧b5=false∧b6=true)∨(b1=false∧b2=false∧b3=false∧b4=false∧b5=false∧b6=false):=by
  cases b1 <;> cases b2 <;> cases b3 <;> cases b4 <;> cases b5 <;> cases b6 <;> simp
 rcases hb with rfl | ⟨rfl,rfl⟩ | ⟨rfl,rfl,rfl⟩ | ⟨rfl,rfl,rfl,rfl⟩ | ⟨rfl,rfl,rfl,rfl,rfl⟩ | ⟨rfl,rfl,rfl,rfl,rfl,rfl⟩ | ⟨rfl,rfl,rfl,rfl,rfl,rfl⟩
 rotate_left 6
 ·rw [if_neg (by decide)]
  by_cases hx0:xm.length=0
  ·rw [if_pos hx0]
   have hxz:((xm.length:Int) == 0)=true:=by simp [hx0]
   clear HY HZ HY2 HX2 HN0 hx0
   go_enter Tryz.func26,Tryz.ntmps26
   go_wp2
   go_ret
   exact ⟨rfl,bt⟩
  ·rw [if_neg hx0]
   have hxp:0<xm.length:=Nat.pos_of_ne_zero hx0
   have hxz:((xm.length:Int) == 0)=false:=by rw [beq_eq_false_iff_ne]; omega
   have hxe:xm≠[]:=by intro h; rw [h] at hxp; exact absurd hxp (by decide)
   generalize hr:(if an=true then (2:Int) else if ac=true then 0 else 10)=r
   have HR:=LH hr
   clear hr hx0
   go_enter Tryz.func26,Tryz.ntmps26
   go_wp2_with fail
   have BX:=Blk.new w [.int .i64 xw,.int .i64 xd,.int .i64 xn,.slice a xm.length cap] 42
   have hq1:Q w (w.alloc (.cells [.int .i64 xw,.int .i64 xd,.int .i64 xn,.slice a xm.length cap].toArray 42)):=(Q.refl w).alloc (Nat.le_refl _) _
   obtain ⟨W1,hW1⟩:∃ W1,w.alloc (.cells [.int .i64 xw,.int .i64 xd,.int .i64 xn,.slice a xm.length cap].toArray 42)=W1:=⟨_,rfl⟩
   rw [hW1] at BX hq1
   simp only [hW1]
   clear hW1
   generalize w.heap.size=T at *
   have x3:=BX.cell 3
   simp only [zs4,zs5] at x3
   have hlX:=BX.lt
   go_loopw [3] (fun i wr=>∃ k:Nat,k≤xm.length∧i=.int .i64 k∧Hid (∀ j,j<k→offF (atI xm j)=false)∧W1=wr) (fun i _=>xm.length - (intOf i).toNat)
   case atStart=>exact ⟨0,by omega,rfl,LH (fun j hj=>absurd hj (Nat.not_lt_zero _)),rfl⟩
   case round =>
    obtain ⟨k,hk,rfl,HA,rfl⟩:=hrel
    by_cases hlt:k<xm.length
    ·obtain ⟨b,o,ha,hb,c0⟩:=(HN0.out _ hq1).cell.2 k hlt
     subst ha
     have HN:=LH (HY.out k hlt)
     have HAk:Hid (offF (atI xm k)=false→∀ j,j<k+1→offF (atI xm j)=false):=LH (fun h j hj=>by
      rcases Nat.lt_or_ge j k with h1 | h1
      ·exact HA.out j h1
      ·obtain rfl:j=k:=by omega
       exact h)
     have hof:offF (atI xm k)=(decide (atI xm k<0) || decide (512≤atI xm k)):=rfl
     generalize offF (atI xm k)=ob at *
     generalize atI xm k=m at *
     generalize g1:decide (m<0)=c1 at *
     generalize g2:decide (512≤m)=c2 at *
     have hkz:(k:Int)<xm.length:=by omega
     have hk0:(0:Int)≤k:=by omega
     clear HY HZ HA HY2 HX2
     cases c1
     ·cases c2
      ·have HK:=LH (HAk.out hof)
       clear HAk HN hof
       go_wp2
       go_roundw
       case rel=>exact ⟨k+1,by omega,by go_num,HK,trivial⟩
       case measure=>simp [intOf]; omega
      ·have ha:=HN.out hof
       have hr:r=2:=by rw [← HR.out,ha]; rfl
       clear HAk HN hof HR
       subst hr
       go_wp2
       go_ret
       exact ⟨rfl,hq1⟩
     ·have ha:=HN.out hof
      have hr:r=2:=by rw [← HR.out,ha]; rfl
      clear HAk HN hof HR
      subst hr
      go_wp2
      go_ret
      exact ⟨rfl,hq1⟩
    ·obtain rfl:k=xm.length:=by omega
     have ha:=HZ.out HA.out
     have HR2:Hid (r=if ac=true then 0 else 10):=LH (by rw [← HR.out,ha]; rfl)
     clear HY HZ HA HR
     go_wp2
     go_loopw [4] (fun i wl=>∃ k:Nat,1≤k∧i=.int .i64 k∧(k≤xm.length∨k=1)∧Hid (∀ j,j+1<k→atI xm j<atI xm (j+1))∧Q W1 wl) (fun i _=>xm.length - (intOf i).toNat)
     case atStart=>exact ⟨1,by omega,rfl,.inr rfl,LH (fun j hj=>by omega),Q.refl _⟩
     case round =>
      obtain ⟨k,hk1,rfl,hk,HA,hQ⟩:=hrel
      have y3:=qcell hQ x3
      have hQw:=Q.trans hq1 hQ
      clear x3 BX
      by_cases hlt:k<xm.length
      ·obtain ⟨j,rfl⟩:∃ j,k=j+1:=⟨k - 1,by omega⟩
       have hc:=(HN0.out _ hQw).cell.2
       obtain ⟨b,o,ha,hb,c1⟩:=hc (j+1) hlt
       obtain ⟨b',o',ha',hb',c0⟩:=hc j (by omega)
       rw [ha] at ha'
       injection ha' with ha'
       injection ha' with e1 e2
       subst e1 e2 ha
       have HXk:=LH (HX2.out j hlt)
       have HAk:Hid (atI xm j<atI xm (j+1)→∀ i,i+1<j+1+1→atI xm i<atI xm (i+1)):=LH (fun h i hi=>by
        rcases Nat.lt_or_ge (i+1) (j+1) with h1 | h1
        ·exact HA.out i h1
        ·obtain rfl:i=j:=by omega
         exact h)
       generalize atI xm (j+1)=y at *
       generalize atI xm j=x at *
       have hj0:(0:Int)≤j:=by omega
       have hj1:(0:Int)≤(j:Int)+1:=by omega
       have hjn:j<xm.length:=by omega
       have hjw:IntKind.i64.wrap (j:Int)=j:=Go.IntWalk.i64_in _ (by omega)
       have hjl:(j:Int)+1<xm.length:=by omega
       clear hc HN0 HY2 HX2 HA
       by_cases hxy:x<y
       ·have hd:decide (y≤x)=false:=decide_eq_false (by omega)
        have HK:=LH (HAk.out hxy)
        clear HAk HXk hxy
        go_wp2_with fail
        refine wp_steadily 12 rfl (by kernel_rfl) rfl ?_
        refine svp 0 ?_
        refine svq 1 rfl (by intro w' hq; have hc0:=qcell hq y3; go_simp; try with_reducible rfl) ?_
        refine svp 2 ?_
        refine svp 3 ?_
        refine svq 4 rfl (by intro w' hq; have hc0:=qcell hq c1; go_simp; try with_reducible rfl) ?_
        refine svp 5 ?_
        refine svq 6 rfl (by intro w' hq; have hc0:=qcell hq y3; go_simp; try with_reducible rfl) ?_
        refine svp 7 ?_
        refine svp 8 ?_
        refine svp 9 ?_
        refine svq 10 rfl (by intro w' hq; have hc0:=qcell hq c0; go_simp; try with_reducible rfl) ?_
        refine svp 11 ?_
        refine steadily_done (by kernel_rfl) (fun w3 hq3=>?_)
        simp only [List.drop_succ_cons,List.drop_nil]
        have hQ3:=Q.trans hQ (Below.trans (Below.drew (Q.refl _)) hq3)
        go_wp2
        go_roundw
        case rel=>exact ⟨j+1+1,by omega,by go_num,.inl (by omega),HK,hQ3⟩
        case measure=>simp [intOf]; omega
       ·have hd:decide (y≤x)=true:=decide_eq_true (by omega)
        have ha:=HXk.out (by omega)
        have hr:r=10:=by rw [HR2.out,ha]; rfl
        clear HAk HXk hxy HR2
        subst hr
        go_wp2_with fail
        refine wp_steadily 12 rfl (by kernel_rfl) rfl ?_
        refine svp 0 ?_
        refine svq 1 rfl (by intro w' hq; have hc0:=qcell hq y3; go_simp; try with_reducible rfl) ?_
        refine svp 2 ?_
        refine svp 3 ?_
        refine svq 4 rfl (by intro w' hq; have hc0:=qcell hq c1; go_simp; try with_reducible rfl) ?_
        refine svp 5 ?_
        refine svq 6 rfl (by intro w' hq; have hc0:=qcell hq y3; go_simp; try with_reducible rfl) ?_
        refine svp 7 ?_
        refine svp 8 ?_
        refine svp 9 ?_
        refine svq 10 rfl (by intro w' hq; have hc0:=qcell hq c0; go_simp; try with_reducible rfl) ?_
        refine svp 11 ?_
        refine steadily_done (by kernel_rfl) (fun w3 hq3=>?_)
        simp only [List.drop_succ_cons,List.drop_nil]
        have hQ3:=Q.trans hQw (Below.trans (Below.drew (Q.refl _)) hq3)
        go_wp2
        go_ret
        exact ⟨rfl,hQ3⟩
      ·have ha:=HY2.out (fun i hi=>HA.out i (by omega))
       have hr:r=0:=by rw [HR2.out,ha]; rfl
       clear HY2 HX2 HA HN0 HR2
       subst hr
       go_wp2
       go_ret
       exact ⟨rfl,hQw⟩
 all_goals
  rw [if_pos (by simp)]
  clear HY HZ HY2 HX2 HN0
  go_enter Tryz.func26,Tryz.ntmps26
  go_wp2
  go_ret
  exact ⟨rfl,bt⟩
theorem run_make512 (W:World):(Instr.makeSlice 51 (.int .i64 512) (.int .i64 512)).run Tryz.prog W=.ok (.slice (some ⟨W.heap.size,0,none⟩) 512 512) (W.alloc (.cells (seenC []).toArray 4)):=by kernel_rfl
end
section
open Go.RowKit Kp Go.Sort
set_option maxRecDepth 100000 in
set_option maxHeartbeats 4000000 in
theorem ref_Check (l:List Ct) (hn:l.length≤1000000) (hm:∀ x∈l,x.ms.length≤1000000) (v:Value) (w:World) (hv:CtSl w v l) :
  Calls Tryz.prog 7 #[v] w fun e w'=>e=.returned (.int .i64 (chkF l))∧Q w w':=by
 obtain ⟨a,cap,rfl,hc⟩:=id hv
 by_cases h5:512<l.length
 ·have hd:decide ((512:Int)<l.length)=true:=by simp; omega
  unfold chkF
  rw [if_pos h5]
  go_enter Tryz.func7,Tryz.ntmps7
  go_wp2
  go_ret
  exact ⟨rfl,bt⟩
 ·have hd:decide ((512:Int)<l.length)=false:=by simp; omega
  unfold chkF
  rw [if_neg h5,← chkK_zero]
  have HSt:=fun W=>run_make512 W
  obtain ⟨r,hr⟩:∃ r,r=chkK l 0:=⟨_,rfl⟩
  have HR0:=LH hr
  rw [← hr]
  have HM:=LH hm
  have HC:=LH hc
  clear hr hm hc hv h5
  have hln:(l.length:Int)≤1000000:=by omega
  go_enter Tryz.func7,Tryz.ntmps7
  go_wp2_with fail
  go_loopw [4] (fun i wr=>∃ k:Nat,k≤l.length∧i=.int .i64 k∧Hid (r=chkK l k)∧Hid (∀ j,j<k→0<(ctAt l j).ms.length)∧Blk wr w.heap.size (seenC (memb l k)) 4∧Q w wr) (fun i _=>l.length - (intOf i).toNat)
  case atStart=>exact ⟨0,by omega,rfl,HR0,LH (fun j hj=>absurd hj (Nat.not_lt_zero _)),Blk.new w _ _,(Q.refl w).alloc (Nat.le_refl _) _⟩
  case round =>
   clear HSt
   obtain ⟨k,hk,rfl,HR,HG,HB,hQ⟩:=hrel
   by_cases hlt:k<l.length
   ·obtain ⟨b,o,u,rfl,hb,hnum,hcell⟩:=HC.out k hlt
    have HN0:Hid (∀ W,Q w W→NumSl W u (ctAt l k).ms):=LH (fun W hq=>hnum.keep hq)
    have HPr:Hid (0<k→∃ u',Fst wr u' (atI (ctAt l (k - 1)).ms 0)∧∀ j z,(ctC (ctAt l (k - 1)) u')[j]?=some z→wr.cell? ⟨b,o+(k - 1)*4+j,none⟩=some z):=LH (fun h0=>by
     obtain ⟨b',o',u',ha',hb',hnum',hcell'⟩:=HC.out (k - 1) (by omega)
     injection ha' with ha'
     injection ha' with e1 e2
     subst e1 e2
     exact ⟨u',NumSl.fst (hnum'.keep hQ) (HG.out (k - 1) (by omega)),fun j z hj=>qcell hQ (hcell' j z hj)⟩)
    have hml:=HM.out _ (show ctAt l k∈l by rw [ctAt_get hlt]; exact List.getElem_mem hlt)
    have HS:=LH (HR.out.trans (chkK_step hlt))
    have HGk:Hid (0<(ctAt l k).ms.length→∀ j,j<k+1→0<(ctAt l j).ms.length):=LH (fun h j hj=>by
     rcases Nat.lt_or_ge j k with h1 | h1
     ·exact HG.out j h1
     ·obtain rfl:j=k:=by omega
      exact h)
    have HMS:Hid (memb l (k+1)=memb l k++(ctAt l k).ms):=LH (memb_step hlt)
    generalize hpx:ctAt l (k - 1)=p at *
    generalize hx:ctAt l k=x at *
    clear HR HG hx hpx
    obtain ⟨a2,c2,rfl,-⟩:=id hnum
    have e0:=qcell hQ (hcell 0 _ rfl)
    have e1:=qcell hQ (hcell 1 _ rfl)
    have e2:=qcell hQ (hcell 2 _ rfl)
    have e3:=qcell hQ (hcell 3 _ rfl)
    simp only [Nat.add_zero] at e0
    clear hcell hnum
    have HPc:=LH (fun w h=>ref_checkPiece x hml (.slice a2 x.ms.length c2) w h)
    have HOr:=LH (fun v1 v2 w h1 h2=>ref_behind p x v1 v2 w h1 h2)
    have hbo:=beh_ord p x
    generalize behF p x=bh at *
    have HP0:Hid (pieceF x=0→0<x.ms.length∧(∀ j,j<x.ms.length→offF (atI x.ms j)=false)∧ascF x.ms=true):=LH (fun h=>by
     unfold pieceF at h
     split at h
     ·cases h
     ·split at h
      ·cases h
      ·rename_i hl0
       split at h
       ·cases h
       ·rename_i han
        split at h
        ·rename_i hac
         refine ⟨Nat.pos_of_ne_zero hl0,fun j hj=>?_,hac⟩
         cases hf:offF (atI x.ms j) with
         | false=>rfl
         | true=>exact absurd (any_yes hj hf) han
        ·cases h)
    have HNew:Hid (ascF x.ms=true→∀ m,m<x.ms.length→¬ atI x.ms m∈x.ms.take m):=LH (fun h m hm=>asc_new h hm)
    generalize pieceF x=pf at *
    generalize ordF p x=od at *
    generalize hms:x.ms=ms at *
    obtain ⟨xw,xd,xn,xm⟩:=x
    simp only [ctC] at e0 e1 e2 e3 HOr HPc
    simp only at hms
    subst hms
    have hkz:(k:Int)<l.length:=by omega
    have hk0:(0:Int)≤k:=by omega
    have hxm:(xm.length:Int)≤1000000:=by omega
    go_wp2_with fail
    refine (HPc.out _ (HN0.out _ hQ)).mono ?_
    rintro e W1 ⟨rfl,hq1⟩
    have hB1:=HB.keep hq1 HB.lt
    have hQ1:=Q.trans hQ hq1
    replace e0:=qcell hq1 e0
    replace e1:=qcell hq1 e1
    replace e2:=qcell hq1 e2
    replace e3:=qcell hq1 e3
    have HP1:Hid (0<k→∃ u',Fst W1 u' (atI p.ms 0)∧∀ j z,(ctC p u')[j]?=some z→W1.cell? ⟨b,o+(k - 1)*4+j,none⟩=some z):=LH (fun h0=>by
     obtain ⟨u',h1,h2⟩:=HPr.out h0
     exact ⟨u',h1.keep hq1,fun j z hj=>qcell hq1 (h2 j z hj)⟩)
    clear HPc HPr HB hQ hq1
    by_cases hpf:pf=0
    ·obtain ⟨hxp,hA0,hac⟩:=HP0.out hpf
     have HA0:=LH hA0
     have HN:=LH (HNew.out hac)
     have HG1:=LH (HGk.out hxp)
     have HF1:=LH (NumSl.fst (HN0.out _ hQ1) hxp)
     have hxe:xm≠[]:=by intro h; rw [h] at hxp; exact absurd hxp (by decide)
     clear HP0 HNew HGk hA0 hac
     subst hpf
     have h3:k=0∨(∃ j,k=j+1∧od<0)∨(∃ j,k=j+1∧0≤od):=by
      rcases Nat.eq_zero_or_pos k with h | h
      ·exact .inl h
      ·rcases Int.lt_or_le od 0 with h1 | h1
       ·exact .inr (.inl ⟨k - 1,by omega,h1⟩)
       ·exact .inr (.inr ⟨k - 1,by omega,h1⟩)
     rcases h3 with hkk | ⟨j,rfl,hod⟩ | ⟨j,rfl,hod⟩
     rotate_left 2
     ·have hr:r=10:=by rw [HS.out,show decide (0≤od)=true by simpa using hod]; simp
      have hbf:bh=false:=by rw [hbo,decide_eq_true hod]; rfl
      subst hbf
      have hj0:(0:Int)≤j:=by omega
      have hjw:IntKind.i64.wrap (j:Int)=j:=Go.IntWalk.i64_in _ (by omega)
      have hjl:(j:Int)<l.length:=by omega
      have hjn:j<l.length:=by omega
      have hj1:(0:Int)≤(j:Int)+1:=by omega
      have hjz:(j:Int)+1<l.length:=by omega
      have hjp:decide ((0:Int)<(j:Int)+1)=true:=decide_eq_true (by omega)
      obtain ⟨u',f1,d⟩:=HP1.out (by omega)
      have d0:=d 0 _ rfl
      have d1:=d 1 _ rfl
      have d2:=d 2 _ rfl
      have d3:=d 3 _ rfl
      simp only [Nat.add_sub_cancel,Nat.add_zero] at d0 d1 d2 d3
      have HOq:Hid (∀ w',Q W1.drew w'→Calls Tryz.prog 27 #[.agg #[.int .i64 p.w,.int .i64 p.d,.int .i64 p.n,u'],.agg #[.int .i64 xw,.int .i64 xd,.int .i64 xn,.slice a2 xm.length c2]] w' fun e w''=>e=.returned (.bool false)∧Q w' w''):=LH (fun w' hq=>HOr.out _ _ w' (f1.keep (Q.trans (Below.drew (Q.refl _)) hq)) (HF1.out.keep (Q.trans (Below.drew (Q.refl _)) hq)))
      clear HR0 HS HN0 HOr HP1 HG1 HMS HM HC HA0 HN hod hbo d f1
      subst hr
      go_wp2_with fail
      refine wp_steadily 15 rfl (by kernel_rfl) rfl ?_
      refine svp 0 ?_
      refine svp 1 ?_
      refine svp 2 ?_
      refine svp 3 ?_
      refine svp 4 ?_
      refine svp 5 ?_
      refine svp 6 ?_
      refine svq 7 rfl (by intro w' hq; have hc0:=qcell hq d0; have hc1:=qcell hq d1; have hc2:=qcell hq d2; have hc3:=qcell hq d3; go_simp; try with_reducible rfl) ?_
      refine svp 8 ?_
      refine svp 9 ?_
      refine svp 10 ?_
      refine svq 11 rfl (by intro w' hq; have hc0:=qcell hq e0; have hc1:=qcell hq e1; have hc2:=qcell hq e2; have hc3:=qcell hq e3; go_simp; try with_reducible rfl) ?_
      refine steadily_call (i:=12) (v:=_) rfl rfl (by kernel_rfl) (by kernel_rfl) (fun _ _ _ h=>h) (by rfl) ?_ (fun w' hq=>HOq.out w' hq) ?_
      ·(intro w' hq; go_simp; try with_reducible rfl)
      simp only [Act.put,zs1,zs2,zs3]
      refine svp 13 ?_
      refine svp 14 ?_
      refine steadily_done (by kernel_rfl) (fun w3 hq3=>?_)
      simp only [List.drop_succ_cons,List.drop_nil]
      have hQ3:=Q.trans hQ1 (Below.trans (Below.drew (Q.refl _)) hq3)
      go_wp2
      go_ret
      exact ⟨rfl,hQ3⟩
     case' inl =>
      have HS2:Hid (r=if (xm.any fun m=>decide (m∈memb l k))=true then 7 else chkK l (k+1)):=LH (by
       have h:=HS.out
       rw [hkk] at h
       rw [hkk]
       simpa using h)
      have hkp:decide ((0:Int)<(k:Int))=false:=decide_eq_false (by omega)
      have hkq:decide (0<k)=false:=decide_eq_false (by omega)
      have hkc:True:=trivial
      clear HR0 HS HOr HP1 HF1 hkk hbo
      go_wp2_with fail
      refine wp_steadily 15 rfl (by kernel_rfl) rfl ?_
      refine svp 0 ?_
      refine svp 1 ?_
      refine svp 2 ?_
      refine sid 3 ?_
      refine sid 4 ?_
      refine sid 5 ?_
      refine sid 6 ?_
      refine sid 7 ?_
      refine sid 8 ?_
      refine sid 9 ?_
      refine sid 10 ?_
      refine sid 11 ?_
      refine sid 12 ?_
      refine sid 13 ?_
      refine svp 14 ?_
     case' inr.inl =>
      have HS2:Hid (r=if (xm.any fun m=>decide (m∈memb l (j+1)))=true then 7 else chkK l (j+1+1)):=LH (by
       have h:=HS.out
       rw [show decide (0≤od)=false from decide_eq_false (by omega)] at h
       simpa using h)
      have hbf:bh=true:=by rw [hbo,decide_eq_false (by omega)]; rfl
      subst hbf
      have hj0:(0:Int)≤j:=by omega
      have hjw:IntKind.i64.wrap (j:Int)=j:=Go.IntWalk.i64_in _ (by omega)
      have hjl:(j:Int)<l.length:=by omega
      have hjn:j<l.length:=by omega
      have hj1:(0:Int)≤(j:Int)+1:=by omega
      have hjz:(j:Int)+1<l.length:=by omega
      have hkp:decide ((0:Int)<(j:Int)+1)=true:=decide_eq_true (by omega)
      obtain ⟨u',f1,d⟩:=HP1.out (by omega)
      have d0:=d 0 _ rfl
      have d1:=d 1 _ rfl
      have d2:=d 2 _ rfl
      have d3:=d 3 _ rfl
      simp only [Nat.add_sub_cancel,Nat.add_zero] at d0 d1 d2 d3
      have HOq:Hid (∀ w',Q W1.drew w'→Calls Tryz.prog 27 #[.agg #[.int .i64 p.w,.int .i64 p.d,.int .i64 p.n,u'],.agg #[.int .i64 xw,.int .i64 xd,.int .i64 xn,.slice a2 xm.length c2]] w' fun e w''=>e=.returned (.bool true)∧Q w' w''):=LH (fun w' hq=>HOr.out _ _ w' (f1.keep (Q.trans (Below.drew (Q.refl _)) hq)) (HF1.out.keep (Q.trans (Below.drew (Q.refl _)) hq)))
      clear HR0 HS HOr HP1 HF1 hod hbo d f1
      go_wp2_with fail
      refine wp_steadily 15 rfl (by kernel_rfl) rfl ?_
      refine svp 0 ?_
      refine svp 1 ?_
      refine svp 2 ?_
      refine svp 3 ?_
      refine svp 4 ?_
      refine svp 5 ?_
      refine svp 6 ?_
      refine svq 7 rfl (by intro w' hq; have hc0:=qcell hq d0; have hc1:=qcell hq d1; have hc2:=qcell hq d2; have hc3:=qcell hq d3; go_simp; try with_reducible rfl) ?_
      refine svp 8 ?_
      refine svp 9 ?_
      refine svp 10 ?_
      refine svq 11 rfl (by intro w' hq; have hc0:=qcell hq e0; have hc1:=qcell hq e1; have hc2:=qcell hq e2; have hc3:=qcell hq e3; go_simp; try with_reducible rfl) ?_
      refine steadily_call (i:=12) (v:=_) rfl rfl (by kernel_rfl) (by kernel_rfl) (fun _ _ _ h=>h) (by rfl) ?_ (fun w' hq=>HOq.out w' hq) ?_
      ·(intro w' hq; go_simp; try with_reducible rfl)
      simp only [Act.put,zs1,zs2,zs3]
      refine svp 13 ?_
      refine svp 14 ?_
      clear HOq d0 d1 d2 d3 hjw hjl hjn
      obtain ⟨k,hkj⟩:∃ k,k=j+1:=⟨_,rfl⟩
      have hkc:(j:Int)+1=(k:Int):=by omega
      rw [← hkj] at HMS HG1 HS2 hlt hB1 hk hkz hk0 e0 e1 e2 e3
      clear hkj
     all_goals
      refine steadily_done (by kernel_rfl) (fun w3 hq3=>?_)
      simp only [List.drop_succ_cons,List.drop_zero]
      have hq13:Q W1 w3:=Below.trans (Below.drew (Q.refl _)) hq3
      have hQ3:=Q.trans hQ1 hq13
      have hB3:=hB1.keep hq13 hB1.lt
      replace e3:=qcell hq13 e3
      clear hB1 hq3 hq13 hQ1 e0 e1 e2
      try simp only [hkc]
      go_wp2
      go_loopw [6] (fun i wl=>∃ m:Nat,m≤xm.length∧i=.int .i64 m∧Hid (∀ j,j<m→¬ atI xm j∈memb l k)∧w3=wl) (fun i _=>xm.length - (intOf i).toNat)
      case atStart=>exact ⟨0,by omega,rfl,LH (fun j hj=>absurd hj (Nat.not_lt_zero _)),rfl⟩
      case round =>
       obtain ⟨m,hm,rfl,HD,rfl⟩:=hrel
       by_cases hlm:m<xm.length
       ·obtain ⟨b',o',he,hb',c0⟩:=(NumSl.cell (HN0.out _ hQ3)).2 m hlm
        subst he
        have hoff:=HA0.out m hlm
        obtain ⟨q,hq5,hxq⟩:∃ q:Nat,q<512∧atI xm m=q:=by
         unfold offF at hoff
         simp only [Bool.or_eq_false_iff,decide_eq_false_iff_not] at hoff
         exact ⟨(atI xm m).toNat,by omega,by omega⟩
        have HX:Hid (atI xm m∈memb l k→r=7):=LH (fun h=>by rw [HS2.out,if_pos (any_yes hlm (decide_eq_true h))])
        have HD2:Hid (¬ atI xm m∈memb l k→∀ j,j<m+1→¬ atI xm j∈memb l k):=LH (fun h j hj=>by
         rcases Nat.lt_or_ge j m with h1 | h1
         ·exact HD.out j h1
         ·obtain rfl:j=m:=by omega
          exact h)
        rw [hxq] at c0 HX HD2
        have hcs:=hB3.cell q
        rw [seenC_get hq5] at hcs
        have hq0:(0:Int)≤q:=by omega
        have hqz:(q:Int)<512:=by omega
        have hmz:(m:Int)<xm.length:=by omega
        have hm0:(0:Int)≤m:=by omega
        clear HD hoff hxq
        by_cases hin:(q:Int)∈memb l k
        ·have hr:=HX.out hin
         rw [decide_eq_true hin] at hcs
         clear HX HD2 hin HS2 HG1 HMS HM HC HN0 HA0 HN
         subst hr
         go_wp2
         go_ret
         exact ⟨rfl,hQ3⟩
        ·have HK:=LH (HD2.out hin)
         rw [decide_eq_false hin] at hcs
         clear HX HD2 hin
         go_wp2
         go_roundw
         case rel=>exact ⟨m+1,by omega,by go_num,HK,trivial⟩
         case measure=>simp [intOf]; omega
       ·obtain rfl:m=xm.length:=by omega
        have HR2:Hid (r=chkK l (k+1)):=LH (by rw [HS2.out,if_neg (by rw [any_not (fun j hj=>decide_eq_false (HD.out j hj))]; decide)])
        clear HS2 HD
        go_wp2
        go_loopw [7] (fun i wl=>∃ m:Nat,m≤xm.length∧i=.int .i64 m∧Blk wl w.heap.size (seenC (memb l k++xm.take m)) 4∧Q w wl∧wl.cell? ⟨b,o+k*4+3,none⟩=some (.slice a2 xm.length c2)) (fun i _=>xm.length - (intOf i).toNat)
        case atStart=>exact ⟨0,by omega,rfl,by rw [List.take_zero,List.append_nil]; exact hB3,hQ3,e3⟩
        case round =>
         clear hB3 hQ3 e3
         obtain ⟨m,hm,rfl,hB,hQ,e3⟩:=hrel
         by_cases hlm:m<xm.length
         ·obtain ⟨b',o',he,hb',c0⟩:=(NumSl.cell (HN0.out _ hQ)).2 m hlm
          subst he
          have hoff:=HA0.out m hlm
          obtain ⟨q,hq5,hxq⟩:∃ q:Nat,q<512∧atI xm m=q:=by
           unfold offF at hoff
           simp only [Bool.or_eq_false_iff,decide_eq_false_iff_not] at hoff
           exact ⟨(atI xm m).toNat,by omega,by omega⟩
          have HT:Hid (xm.take (m+1)=xm.take m++[(q:Int)]):=LH (by rw [take_at hlm,hxq])
          rw [hxq] at c0
          have hcs:=hB.cell q
          rw [seenC_get hq5] at hcs
          have hfr:=hB.frozen q
          have hq0:(0:Int)≤q:=by omega
          have hqz:(q:Int)<512:=by omega
          have hmz:(m:Int)<xm.length:=by omega
          have hm0:(0:Int)≤m:=by omega
          have hB2:Hid (Blk (wr.setCell ⟨w.heap.size,q,none⟩ (.bool true)) w.heap.size (seenC (memb l k++xm.take (m+1))) 4):=LH (by
           have h:=hB.set q (.bool true)
           rw [seenC_set hq5,List.append_assoc,← HT.out] at h
           exact h)
          have hQ2:Q w (wr.setCell ⟨w.heap.size,q,none⟩ (.bool true)):=hQ.setCell (p:=⟨w.heap.size,q,none⟩) (Nat.le_refl _) _
          have hE2:Hid ((wr.setCell ⟨w.heap.size,q,none⟩ (.bool true)).cell? ⟨b,o+k*4+3,none⟩=some (.slice (some ⟨b',o',none⟩) xm.length c2)):=LH (by
           rw [← e3]
           exact World.cell?_setCell_far wr ⟨w.heap.size,q,none⟩ ⟨b,o+k*4+3,none⟩ _ (Nat.ne_of_gt hb))
          clear HT hoff hxq
          go_wp2
          go_roundw
          case rel=>exact ⟨m+1,by omega,by go_num,hB2.out,hQ2,hE2.out⟩
          case measure=>simp [intOf]; omega
         ·obtain rfl:m=xm.length:=by omega
          have hB2:Hid (Blk wr w.heap.size (seenC (memb l (k+1))) 4):=LH (by rw [HMS.out]; rw [List.take_length] at hB; exact hB)
          clear hB
          go_wp2
          go_roundw
          case rel=>exact ⟨k+1,by omega,by go_num,HR2,HG1,hB2.out,hQ⟩
          case measure=>simp [intOf]; omega
    ·have hpb:(pf != 0)=true:=by rw [bne_iff_ne]; exact hpf
     have hr:r=pf:=by rw [HS.out,if_pos hpf]
     clear HR0 HS HNew HN0 HOr HP1 HP0 HGk HMS HM HC hbo hpf
     subst hr
     go_wp2
     go_ret
     exact ⟨rfl,hQ1⟩
   ·obtain rfl:k=l.length:=by omega
    have hr:r=0:=by rw [HR.out,chkK_end]
    clear HR HR0 HG HB HC HM
    subst hr
    go_wp2
    go_ret
    exact ⟨rfl,hQ⟩
end
end Go.Proofs.YtohlpeicpoaanaaGreatDoor
