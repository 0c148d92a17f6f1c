/-
  surd.visit and surd.Make at terms of any numbers.; surd.Make at terms of any numbers: what it answers.; VI VJ VK, one behind the other.; Sums of roots by their values: what a list of terms is worth along one class of roots. Mathematics.; surd.Check at a list of terms; its walk.; Comparing a sum of two roots with a number: mathematics.
-/
import Derived.Test.YtapnkgdnflofbaaGreatDoorCH19
import Derived.Test.YtapnkgdnflofbaaGreatDoorCH12
import Derived.BigRegion
set_option maxRecDepth 100000
set_option maxHeartbeats 4000000
namespace Go.Proofs.YtapnkgdnflofbaaGreatDoor
section
open Go.RowKit Kp
open Go.Lib (decDigits)
attribute [local go_sem] Oper.semAt_some
theorem zsy:r90 1=true:=by unfold r90;simp[Go.Lib.decDigits]
theorem zpm{cs:List (Rat × Nat)}{c r:Rat}(hc:c≠0)(hr:r≠0)(h9:r90 r=true)(hl:za6 (leftOf r:Rat)≤90)(hm:mulL c (aOf r)=false)(ha:zj5 cs (c*aOf r,leftOf r)=false):zmu cs (c,r)=some (zgG cs (c*aOf r,leftOf r)):=by
 unfold zmu
 rw[if_neg (by rintro(h | h);exact hc h;exact hr h),if_neg (by simp only[h9,Bool.true_and];rw[decide_eq_true hl];decide),if_neg (by simp only[hm];decide),if_neg (by simp only[ha];decide)]
theorem zeZ{cs:List (Rat × Nat)}{c r:Rat}(hc:c≠0)(hr:r≠0)(h:(r90 r && decide (za6 (leftOf r:Rat)≤90))=false∨mulL c (aOf r)=true∨zj5 cs (c*aOf r,leftOf r)=true):zmu cs (c,r)=none:=by
 unfold zmu
 rw[if_neg (by rintro(h | h);exact hc h;exact hr h)]
 by_cases h1:(r90 r && decide (za6 (leftOf r:Rat)≤90))=false
 ·rw[if_pos h1]
 rw[if_neg h1]
 by_cases h2:mulL c (aOf r)=true
 ·rw[if_pos h2]
 rw[if_neg h2]
 rcases h with h | h | h
 ·exact absurd h h1
 ·exact absurd h h2
 ·rw[if_pos h]
theorem zqa{q:Rat}(h:zdo q)(hp:0<q.num):zam (leftOf q:Rat)=false:=by
 have h1:q.num.natAbs<10 ^ 90:=(zm _ 90 (by decide)).1 h.1
 have h2:q.den<10 ^ 90:=(zm _ 90 (by decide)).1 h.2
 have:=zsb (n:=90) ⟨h1,h2⟩ hp (by decide)
 rw[zrA]at this
 exact this.zam (by decide)
theorem zje(ts:List (Rat × Rat))(hts:∀ t∈ts,TW t)(hlen:ts.length≤900)(G:Nat)(v:Value)(w:World)(hE:Env w)(hng:ng≤G)(hsl:TSl w G v (ts.map ofT))(hg:znq w G []) :
  Calls Tryz.prog 97 #[v,.func (.func 98) #[.pointer (some ⟨G,0,none⟩)] #[]] w fun e w'=>e=.returned (.int .i64 (ztm ts))∧Below G w w'∧∀ cs,zhz ts=some cs→znq w' G cs:=by
 obtain⟨a,cap,rfl,hGs,hc⟩:=hsl
 rw[List.length_map]at hc
 rw[List.length_map]
 have lG:G<w.heap.size:=by obtain⟨v,h,-⟩:=hg;exact h.lt
 have HTS:=LH hts
 clear hts
 go_enter Tryz.func97,Tryz.ntmps97
 go_wp2
 go_loopw [13] (fun i wr=>∃ k:Nat,k≤ts.length∧i=.int .i64 k∧Below G w wr∧∃ cs,Hid (zhz (ts.take k)=some cs)∧znq wr G cs) (fun i _=>ts.length - (intOf i).toNat)
 case atStart=>exact⟨0,by omega,rfl,Below.refl _ _,[],LH rfl,hg⟩
 case round =>
  obtain⟨k,hk,rfl,hB,cs,HVF,hgr⟩:=hrel
  by_cases hlt:k<ts.length
  ·obtain⟨b,o,ha,hbG,c0,c1⟩:=hc k hlt
   subst ha
   have d0:=(hB.cell (p:=⟨b,o+k*2,none⟩) hbG).trans c0
   have d1:=(hB.cell (p:=⟨b,o+k*2+1,none⟩) hbG).trans c1
   have hget:(ts.map ofT).getD k ([],[])=ofT ts[k]:=by rw[List.getD_eq_getElem?_getD,List.getElem?_map,List.getElem?_eq_getElem hlt];rfl
   have hV:=HTS.out ts[k] (List.getElem_mem hlt)
   have hcw:=zmv _ rfl (fun x hx=>HTS.out x (List.mem_of_mem_take hx)) HVF.out
   have HSTOP:Hid (zmu cs ts[k]=none→zhz ts=none):=LH (zpn hlt HVF.out)
   have HON:Hid (∀ cs',zmu cs ts[k]=some cs'→zhz (ts.take (k+1))=some cs'):=LH (fun cs' h=>zsp hlt HVF.out h)
   have HL:Hid (k+1≤ts.length):=LH hlt
   have clen:cs.length≤1000:=by
    have:=hcw.2;have h2:(ts.take k).length≤ts.length:=by rw[List.length_take];omega
    omega
   have hcw1:=LH hcw.1
   rw[hget]at d0 d1
   clear c0 c1 hget hc HTS HVF hcw
   generalize ts[k]=t at *
   have hEr:Env wr:=hE.below hng hB
   have lGr:G≤wr.heap.size:=Nat.le_trans hGs hB.size
   have lbr:=Nat.lt_of_lt_of_le hbG (Nat.le_trans hGs hB.size)
   obtain⟨c,r⟩:=t
   obtain⟨hcl,hrl,hrp⟩:=hV
   simp only[ofT]at *
   by_cases hc0:c=0
   ·have HS:=LH (HON.out cs (by unfold zmu;rw[if_pos (.inl hc0)]))
    have hcz:(ze c == [48])=true:=by rw[hc0,zaY];rfl
    clear HSTOP HON hcl hrl hrp hcw1
    generalize ze c=C at *
    generalize ze r=R at *
    have hq0:Q wr (wr.alloc (Obj.cells [.string ⟨C.toArray⟩,.string ⟨R.toArray⟩].toArray 60)):=(Below.refl _ wr).alloc (Nat.le_refl _) _
    have hB5:=hB.trans (hq0.mono lGr)
    have hg5:=hgr.keep hq0
    go_wp2
    go_roundw
    case rel=>exact⟨k+1,HL.out,by go_num,hB5,cs,HS,hg5⟩
    case measure=>simp[intOf];omega
   have hcz:(ze c == [48])=false:=by
    rw[beq_eq_false_iff_ne,← zaY];exact fun h=>hc0 (zbt h)
   by_cases hr0:r=0
   ·have HS:=LH (HON.out cs (by unfold zmu;rw[if_pos (.inr hr0)]))
    have hrz:(ze r == [48])=true:=by rw[hr0,zaY];rfl
    clear HSTOP HON hcl hrl hrp hcw1
    generalize ze c=C at *
    generalize ze r=R at *
    have hq0:Q wr (wr.alloc (Obj.cells [.string ⟨C.toArray⟩,.string ⟨R.toArray⟩].toArray 60)):=(Below.refl _ wr).alloc (Nat.le_refl _) _
    have hB5:=hB.trans (hq0.mono lGr)
    have hg5:=hgr.keep hq0
    go_wp2
    go_roundw
    case rel=>exact⟨k+1,HL.out,by go_num,hB5,cs,HS,hg5⟩
    case measure=>simp[intOf];omega
   have hrz:(ze r == [48])=false:=by
    rw[beq_eq_false_iff_ne,← zaY];exact fun h=>hr0 (zbt h)
   have hp:0<r.num:=by
    have h5:r.num≠0:=fun e=>hr0 (Rat.num_eq_zero.1 e)
    omega
   by_cases hr1:r=1
   ·have hro:(ze r == [49])=true:=by rw[hr1,zdW];rfl
    have e1:ze (aOf r)=[49]:=by rw[hr1,ztg,zdW]
    have e2:Lib.itoa (leftOf r:Int)=ze r:=by rw[hr1,zg3,zdW,show ((1:Nat):Int)=1 from rfl,zai]
    have h9:r90 r=true:=by rw[hr1];exact zsy
    have hV1:za6 (leftOf r:Rat)≤90:=by rw[hr1,zg3];have:=zhR (q:=((1:Nat):Rat)) (n:=1) zj4 (by decide);omega
    have bl:zam (leftOf r:Rat)=false:=by rw[hr1,zg3];exact(show Bd 1 ((1:Nat):Rat)from zj4).zam (by decide)
    have hL:=fun w hw=>zaS (leftOf r:Rat) bl w hw
    rw[zbN,e2]at hL
    have HLG:=LH hL
    have hal:zam (aOf r)=false:=zn9 (zfA h9) hp
    have hm:=fun w hw=>zcI c (aOf r) hcl hal w hw
    unfold ztx at hm
    cases hml:mulL c (aOf r)with
    | true =>
     rw[hml,if_pos rfl]at hm
     have HM:=LH hm
     have HS:=LH (HSTOP.out (zeZ hc0 hr0 (.inr (.inl hml))))
     have hV0:=zax (leftOf r:Rat)
     rw[e1]at HM
     clear HSTOP HON h9 hr1 hp hr0 hc0 hcl hrl hrp hcw1 hL bl e1 e2 hal hm hml
     generalize za6 (leftOf r:Rat)=lv at *
     generalize ze (c*aOf r)=P at *
     generalize ze c=C at *
     generalize ze r=R at *
     go_wp2_with fail
     have BT:=Blk.new wr [.string ⟨C.toArray⟩,.string ⟨R.toArray⟩] 60
     have t0:=BT.cell
     have hq0:Q wr (wr.alloc (Obj.cells [.string ⟨C.toArray⟩,.string ⟨R.toArray⟩].toArray 60)):=(Below.refl _ wr).alloc (Nat.le_refl _) _
     go_quiet (fail)
     go_wp2_with fail
     have hQ1:=Below.drewN hq0 nq
     have B1:=BT.drewN nq
     clear hq0 BT t0 d0 d1
     refine cx (HLG.out _ (hEr.q hQ1)) fun w2 hq2=>?_
     have hQ2:=Q.trans hQ1 hq2
     have B2:=B1.keep hq2 B1.lt
     have d2:=B2.cell 0
     simp only[List.getElem?_cons_zero]at d2
     clear hq2 hQ1 B1
     go_wp2_with fail
     refine cx (HM.out _ (hEr.q hQ2)) fun w3 hq3=>?_
     have hQ3:=Q.trans hQ2 hq3
     clear hq3 hQ2 B2 d2
     have hB5:Below G w w3:=hB.trans (hQ3.mono lGr)
     go_wp2
     go_ret
     exact⟨by rw[zfm HS.out];all_goals rfl,hB5,fun cs' h=>by rw[HS.out]at h;cases h⟩
    | false =>
     rw[hml,if_neg (by decide)]at hm
     have HM:=LH hm
     have hcb:CW (c*aOf r,leftOf r):=⟨zgi hml,zfs (zfA h9) hp,ziH hV1⟩
     have hadd:=fun w hw hg=>zem cs (c*aOf r,leftOf r) hcw1.out hcb clen G w hw hng hg
     unfold zq3 at hadd
     cases hae:zj5 cs (c*aOf r,leftOf r)with
     | true =>
      simp only[hae,if_true]at hadd
      have HADD:=LH hadd
      have HS:=LH (HSTOP.out (zeZ hc0 hr0 (.inr (.inr hae))))
      have hV0:=zax (leftOf r:Rat)
      rw[e1]at HM
      rw[e2]at HADD
      clear HSTOP HON h9 hr1 hp hr0 hc0 hcl hrl hrp hcw1 hL bl e1 e2 hal hm hml hae hadd hcb
      generalize za6 (leftOf r:Rat)=lv at *
      generalize ze (c*aOf r)=P at *
      generalize ze c=C at *
      generalize ze r=R at *
      go_wp2_with fail
      have BT:=Blk.new wr [.string ⟨C.toArray⟩,.string ⟨R.toArray⟩] 60
      have t0:=BT.cell
      have hq0:Q wr (wr.alloc (Obj.cells [.string ⟨C.toArray⟩,.string ⟨R.toArray⟩].toArray 60)):=(Below.refl _ wr).alloc (Nat.le_refl _) _
      go_quiet (fail)
      go_wp2_with fail
      have hQ1:=Below.drewN hq0 nq
      have B1:=BT.drewN nq
      clear hq0 BT t0 d0 d1
      refine cx (HLG.out _ (hEr.q hQ1)) fun w2 hq2=>?_
      have hQ2:=Q.trans hQ1 hq2
      have B2:=B1.keep hq2 B1.lt
      have d2:=B2.cell 0
      simp only[List.getElem?_cons_zero]at d2
      clear hq2 hQ1 B1
      go_wp2_with fail
      refine cx (HM.out _ (hEr.q hQ2)) fun w3 hq3=>?_
      have hQ3:=Q.trans hQ2 hq3
      clear hq3 hQ2 B2 d2
      go_wp2_with fail
      refine(HADD.out _ (hEr.q hQ3) (hgr.keep hQ3)).mono ?_
      rintro e w4⟨rfl,hB4,-⟩
      have hB5:Below G w w4:=hB.trans ((hQ3.mono lGr).trans hB4)
      go_wp2
      go_ret
      exact⟨by rw[zfm HS.out];all_goals rfl,hB5,fun cs' h=>by rw[HS.out]at h;cases h⟩
     | false =>
      simp only[hae,Bool.false_eq_true,if_false,true_implies]at hadd
      have HADD:=LH hadd
      have HS:=LH (HON.out _ (zpm hc0 hr0 h9 hV1 hml hae))
      have hV0:=zax (leftOf r:Rat)
      rw[e1]at HM
      rw[e2]at HADD
      clear HSTOP HON h9 hr1 hp hr0 hc0 hcl hrl hrp hcw1 hL bl e1 e2 hal hm hml hae hadd hcb
      generalize za6 (leftOf r:Rat)=lv at *
      generalize zgG cs (c*aOf r,leftOf r)=cs' at *
      generalize ze (c*aOf r)=P at *
      generalize ze c=C at *
      generalize ze r=R at *
      go_wp2_with fail
      have BT:=Blk.new wr [.string ⟨C.toArray⟩,.string ⟨R.toArray⟩] 60
      have t0:=BT.cell
      have hq0:Q wr (wr.alloc (Obj.cells [.string ⟨C.toArray⟩,.string ⟨R.toArray⟩].toArray 60)):=(Below.refl _ wr).alloc (Nat.le_refl _) _
      go_quiet (fail)
      go_wp2_with fail
      have hQ1:=Below.drewN hq0 nq
      have B1:=BT.drewN nq
      clear hq0 BT t0 d0 d1
      refine cx (HLG.out _ (hEr.q hQ1)) fun w2 hq2=>?_
      have hQ2:=Q.trans hQ1 hq2
      have B2:=B1.keep hq2 B1.lt
      have d2:=B2.cell 0
      simp only[List.getElem?_cons_zero]at d2
      clear hq2 hQ1 B1
      go_wp2_with fail
      refine cx (HM.out _ (hEr.q hQ2)) fun w3 hq3=>?_
      have hQ3:=Q.trans hQ2 hq3
      clear hq3 hQ2 B2 d2
      go_wp2_with fail
      refine(HADD.out _ (hEr.q hQ3) (hgr.keep hQ3)).mono ?_
      rintro e w4⟨rfl,hB4,hg4⟩
      have hB5:Below G w w4:=hB.trans ((hQ3.mono lGr).trans hB4)
      go_wp2
      go_roundw
      case rel=>exact⟨k+1,HL.out,by go_num,hB5,_,HS,hg4⟩
      case measure=>simp[intOf];omega
   ·have hro:(ze r == [49])=false:=by
     rw[beq_eq_false_iff_ne,← zdW];exact fun h=>hr1 (zbt h)
    cases h9:r90 r with
    | false =>
     have HN:=LH (fun w hw=>zii r hrl h9 w hw)
     have HS:=LH (HSTOP.out (zeZ hc0 hr0 (.inl (by rw[h9];rfl))))
     clear HSTOP HON h9 hr1 hp hr0 hc0 hcl hrl hrp hcw1
     generalize ze c=C at *
     generalize ze r=R at *
     go_wp2_with fail
     have BT:=Blk.new wr [.string ⟨C.toArray⟩,.string ⟨R.toArray⟩] 60
     have t0:=BT.cell
     have hq0:Q wr (wr.alloc (Obj.cells [.string ⟨C.toArray⟩,.string ⟨R.toArray⟩].toArray 60)):=(Below.refl _ wr).alloc (Nat.le_refl _) _
     go_quiet (fail)
     go_wp2_with fail
     have hqn:=Below.drewN hq0 nq
     refine cx (HN.out _ (hEr.q hqn)) fun w1 hq1=>?_
     have hQ1:=Q.trans hqn hq1
     have hB5:Below G w w1:=hB.trans (hQ1.mono lGr)
     clear d0 d1 t0 BT
     go_wp2
     go_ret
     exact⟨by rw[zfm HS.out];all_goals rfl,hB5,fun cs' h=>by rw[HS.out]at h;cases h⟩
    | true =>
     have HN:=LH (fun w hw=>zfr r (zfA h9) hp w hw)
     have HN:Hid (∀ w,Env w→CR 159 #[.string ⟨(ze r).toArray⟩] w (.tuple #[.string ⟨(ze (aOf r)).toArray⟩,.string ⟨(Lib.itoa (leftOf r:Int)).toArray⟩,.int .i64 0])):=HN
     have bl:zam (leftOf r:Rat)=false:=zqa (zfA h9) hp
     have hL:=fun w hw=>zaS (leftOf r:Rat) bl w hw
     rw[zbN]at hL
     have HLG:=LH hL
     by_cases hV1:za6 (leftOf r:Rat)≤90
     ·have hal:zam (aOf r)=false:=zn9 (zfA h9) hp
      have hm:=fun w hw=>zcI c (aOf r) hcl hal w hw
      unfold ztx at hm
      cases hml:mulL c (aOf r)with
      | true =>
       rw[hml,if_pos rfl]at hm
       have HM:=LH hm
       have HS:=LH (HSTOP.out (zeZ hc0 hr0 (.inr (.inl hml))))
       have hV0:=zax (leftOf r:Rat)
       clear HSTOP HON h9 hr1 hp hr0 hc0 hcl hrl hrp hcw1 hL bl hal hm hml
       generalize za6 (leftOf r:Rat)=lv at *
       generalize ze (c*aOf r)=P at *
       generalize ze (aOf r)=A at *
       generalize Lib.itoa (leftOf r:Int)=LL at *
       generalize ze c=C at *
       generalize ze r=R at *
       go_wp2_with fail
       have BT:=Blk.new wr [.string ⟨C.toArray⟩,.string ⟨R.toArray⟩] 60
       have t0:=BT.cell
       have hq0:Q wr (wr.alloc (Obj.cells [.string ⟨C.toArray⟩,.string ⟨R.toArray⟩].toArray 60)):=(Below.refl _ wr).alloc (Nat.le_refl _) _
       go_quiet (fail)
       go_wp2_with fail
       have hqn:=Below.drewN hq0 nq
       refine cx (HN.out _ (hEr.q hqn)) fun w1 hq1=>?_
       have hQ1:=Q.trans hqn hq1
       have B1:=(BT.drewN nq).keep hq1 (by simp)
       clear hq1 hqn hq0 BT t0 d0 d1
       go_wp2_with fail
       refine cx (HLG.out _ (hEr.q hQ1)) fun w2 hq2=>?_
       have hQ2:=Q.trans hQ1 hq2
       have B2:=B1.keep hq2 B1.lt
       have d2:=B2.cell 0
       simp only[List.getElem?_cons_zero]at d2
       clear hq2 hQ1 B1
       go_wp2_with fail
       refine cx (HM.out _ (hEr.q hQ2)) fun w3 hq3=>?_
       have hQ3:=Q.trans hQ2 hq3
       clear hq3 hQ2 B2 d2
       have hB5:Below G w w3:=hB.trans (hQ3.mono lGr)
       go_wp2
       go_ret
       exact⟨by rw[zfm HS.out];all_goals rfl,hB5,fun cs' h=>by rw[HS.out]at h;cases h⟩
      | false =>
       rw[hml,if_neg (by decide)]at hm
       have HM:=LH hm
       have hcb:CW (c*aOf r,leftOf r):=⟨zgi hml,zfs (zfA h9) hp,ziH hV1⟩
       have hadd:=fun w hw hg=>zem cs (c*aOf r,leftOf r) hcw1.out hcb clen G w hw hng hg
       unfold zq3 at hadd
       cases hae:zj5 cs (c*aOf r,leftOf r)with
       | true =>
        simp only[hae,if_true]at hadd
        have HADD:=LH hadd
        have HS:=LH (HSTOP.out (zeZ hc0 hr0 (.inr (.inr hae))))
        have hV0:=zax (leftOf r:Rat)
        clear HSTOP HON h9 hr1 hp hr0 hc0 hcl hrl hrp hcw1 hL bl hal hm hml hae hadd hcb
        generalize za6 (leftOf r:Rat)=lv at *
        generalize ze (c*aOf r)=P at *
        generalize ze (aOf r)=A at *
        generalize Lib.itoa (leftOf r:Int)=LL at *
        generalize ze c=C at *
        generalize ze r=R at *
        go_wp2_with fail
        have BT:=Blk.new wr [.string ⟨C.toArray⟩,.string ⟨R.toArray⟩] 60
        have t0:=BT.cell
        have hq0:Q wr (wr.alloc (Obj.cells [.string ⟨C.toArray⟩,.string ⟨R.toArray⟩].toArray 60)):=(Below.refl _ wr).alloc (Nat.le_refl _) _
        go_quiet (fail)
        go_wp2_with fail
        have hqn:=Below.drewN hq0 nq
        refine cx (HN.out _ (hEr.q hqn)) fun w1 hq1=>?_
        have hQ1:=Q.trans hqn hq1
        have B1:=(BT.drewN nq).keep hq1 (by simp)
        clear hq1 hqn hq0 BT t0 d0 d1
        go_wp2_with fail
        refine cx (HLG.out _ (hEr.q hQ1)) fun w2 hq2=>?_
        have hQ2:=Q.trans hQ1 hq2
        have B2:=B1.keep hq2 B1.lt
        have d2:=B2.cell 0
        simp only[List.getElem?_cons_zero]at d2
        clear hq2 hQ1 B1
        go_wp2_with fail
        refine cx (HM.out _ (hEr.q hQ2)) fun w3 hq3=>?_
        have hQ3:=Q.trans hQ2 hq3
        clear hq3 hQ2 B2 d2
        go_wp2_with fail
        refine(HADD.out _ (hEr.q hQ3) (hgr.keep hQ3)).mono ?_
        rintro e w4⟨rfl,hB4,-⟩
        have hB5:Below G w w4:=hB.trans ((hQ3.mono lGr).trans hB4)
        go_wp2
        go_ret
        exact⟨by rw[zfm HS.out];all_goals rfl,hB5,fun cs' h=>by rw[HS.out]at h;cases h⟩
       | false =>
        simp only[hae,Bool.false_eq_true,if_false,true_implies]at hadd
        have HADD:=LH hadd
        have HS:=LH (HON.out _ (zpm hc0 hr0 h9 hV1 hml hae))
        have hV0:=zax (leftOf r:Rat)
        clear HSTOP HON h9 hr1 hp hr0 hc0 hcl hrl hrp hcw1 hL bl hal hm hml hae hadd hcb
        generalize za6 (leftOf r:Rat)=lv at *
        generalize zgG cs (c*aOf r,leftOf r)=cs' at *
        generalize ze (c*aOf r)=P at *
        generalize ze (aOf r)=A at *
        generalize Lib.itoa (leftOf r:Int)=LL at *
        generalize ze c=C at *
        generalize ze r=R at *
        go_wp2_with fail
        have BT:=Blk.new wr [.string ⟨C.toArray⟩,.string ⟨R.toArray⟩] 60
        have t0:=BT.cell
        have hq0:Q wr (wr.alloc (Obj.cells [.string ⟨C.toArray⟩,.string ⟨R.toArray⟩].toArray 60)):=(Below.refl _ wr).alloc (Nat.le_refl _) _
        go_quiet (fail)
        go_wp2_with fail
        have hqn:=Below.drewN hq0 nq
        refine cx (HN.out _ (hEr.q hqn)) fun w1 hq1=>?_
        have hQ1:=Q.trans hqn hq1
        have B1:=(BT.drewN nq).keep hq1 (by simp)
        clear hq1 hqn hq0 BT t0 d0 d1
        go_wp2_with fail
        refine cx (HLG.out _ (hEr.q hQ1)) fun w2 hq2=>?_
        have hQ2:=Q.trans hQ1 hq2
        have B2:=B1.keep hq2 B1.lt
        have d2:=B2.cell 0
        simp only[List.getElem?_cons_zero]at d2
        clear hq2 hQ1 B1
        go_wp2_with fail
        refine cx (HM.out _ (hEr.q hQ2)) fun w3 hq3=>?_
        have hQ3:=Q.trans hQ2 hq3
        clear hq3 hQ2 B2 d2
        go_wp2_with fail
        refine(HADD.out _ (hEr.q hQ3) (hgr.keep hQ3)).mono ?_
        rintro e w4⟨rfl,hB4,hg4⟩
        have hB5:Below G w w4:=hB.trans ((hQ3.mono lGr).trans hB4)
        go_wp2
        go_roundw
        case rel=>exact⟨k+1,HL.out,by go_num,hB5,_,HS,hg4⟩
        case measure=>simp[intOf];omega
     ·have HS:=LH (HSTOP.out (zeZ hc0 hr0 (.inl (by rw[h9,Bool.true_and];exact decide_eq_false hV1))))
      have hV2:90<za6 (leftOf r:Rat):=by omega
      clear HSTOP HON h9 hr1 hp hr0 hc0 hcl hrl hrp hcw1 hV1 hL bl
      generalize za6 (leftOf r:Rat)=lv at *
      generalize ze (aOf r)=A at *
      generalize Lib.itoa (leftOf r:Int)=LL at *
      generalize ze c=C at *
      generalize ze r=R at *
      go_wp2_with fail
      have BT:=Blk.new wr [.string ⟨C.toArray⟩,.string ⟨R.toArray⟩] 60
      have t0:=BT.cell
      have hq0:Q wr (wr.alloc (Obj.cells [.string ⟨C.toArray⟩,.string ⟨R.toArray⟩].toArray 60)):=(Below.refl _ wr).alloc (Nat.le_refl _) _
      go_quiet (fail)
      go_wp2_with fail
      have hqn:=Below.drewN hq0 nq
      refine cx (HN.out _ (hEr.q hqn)) fun w1 hq1=>?_
      have hQ1:=Q.trans hqn hq1
      clear d0 d1 t0 BT
      go_wp2_with fail
      refine cx (HLG.out _ (hEr.q hQ1)) fun w2 hq2=>?_
      have hQ2:=Q.trans hQ1 hq2
      have hB5:Below G w w2:=hB.trans (hQ2.mono lGr)
      go_wp2
      go_ret
      exact⟨by rw[zfm HS.out];all_goals rfl,hB5,fun cs' h=>by rw[HS.out]at h;cases h⟩
  ·obtain rfl:k=ts.length:=by omega
   have hv:=HVF.out
   rw[List.take_length]at hv
   have HV:=LH hv
   clear hv HVF
   go_wp2
   go_ret
   exact⟨by rw[znt HV.out];all_goals rfl,hB,fun cs' h=>by rw[HV.out]at h;cases h;exact hgr⟩
end
section
open Go.RowKit Kp
attribute [local go_sem] Oper.semAt_some
def zfV(c:Rat × Nat):Bool:=decide (za6 c.1≤60) && decide (za6 (c.2:Rat)≤40)
def zg0(ts:List (Rat × Rat)):Option (List (Rat × Nat)):=(zhz ts).bind fun cs=>if (zgF cs).all zfV then some (zgF cs)else none
theorem zlf(ts:List (Rat × Rat))(hts:∀ t∈ts,TW t)(hlen:ts.length≤16)(h2:∀ cs,zhz ts=some cs→cs.length≤2)(v:Value)(w:World)(hE:Env w)(hsl:TSl w w.heap.size v (ts.map ofT)) :
  Calls Tryz.prog 49 #[v] w fun e w'=>Q w w'∧(zg0 ts=none→e=.returned (.tuple #[.slice none 0 0,.int .i64 4]))∧∀ L,zg0 ts=some L→∃ v',e=.returned (.tuple #[v',.int .i64 0])∧w'.ownsRow w.heap.size 60 2 v' ((znx L).map ofC).length (zeo ((znx L).map ofC)):=by
 have HSL:=LH hsl
 obtain⟨a,cap,rfl,-,hc⟩:=hsl
 rw[List.length_map]at hc
 rw[List.length_map]
 have HV:=LH (fun G v w hw hng hs hg=>zje ts hts (by omega) G v w hw hng hs hg)
 have HCW:=LH (fun cs h=>zmv _ rfl hts (cs:=cs) h)
 have H2:=LH h2
 have HCK:=LH (fun k (hk:k<ts.length)=>hts ts[k] (List.getElem_mem hk))
 have hng:ng≤w.heap.size:=hE.size
 obtain⟨i0,hi,hz0,hz1,hz2⟩:=zbU zrC
 have HI:=LH hi
 have HZ:=LH hz0
 have HS:=LH hz1
 have HB:=LH hz2
 clear hi hz0 hz1 hz2 hts h2
 have hnl:(ts.length:Int)≤16:=by omega
 have hcapl:(.slice a (ts.map ofT).length cap:Value)=.slice a ts.length cap:=by rw[List.length_map]
 rw[hcapl]at HSL
 clear hcapl
 go_enter Tryz.func49,Tryz.ntmps49
 go_wp2
 go_loopw [18] (fun i wr=>∃ k:Nat,k≤ts.length∧i=.int .i64 k∧Q w wr) (fun i _=>ts.length - (intOf i).toNat)
 case atStart=>exact⟨0,by omega,rfl,Below.refl _ _⟩
 case round =>
  obtain⟨k,hk,rfl,hQ⟩:=hrel
  by_cases hlt:k<ts.length
  ·obtain⟨b,o,ha,hb,d0,d1⟩:=hc k hlt
   subst ha
   have c0:=(hQ.cell (p:=⟨b,o+k*2,none⟩) hb).trans d0
   have c1:=(hQ.cell (p:=⟨b,o+k*2+1,none⟩) hb).trans d1
   have hget:(ts.map ofT).getD k ([],[])=ofT ts[k]:=by rw[List.getD_eq_getElem?_getD,List.getElem?_map,List.getElem?_eq_getElem hlt];rfl
   rw[hget]at c0 c1
   have hvt:=HCK.out k hlt
   have lbr:=Nat.lt_of_lt_of_le hb hQ.size
   have HK:Hid (k+1≤ts.length):=LH hlt
   clear hget d0 d1 hc HV HSL HCK HCW H2
   generalize ts[k]=t at *
   obtain⟨c,q⟩:=t
   simp only[ofT]at c0 c1
   obtain⟨bc,br,hp⟩:=hvt
   simp only at bc hp br
   have hneg:decide ((ze q).head? = some 45)=false:=by rw[decide_eq_false_iff_not,zfW];omega
   have HN:=LH hneg
   have HC1:=LH (fun w hw=>zA c bc w hw)
   have HC2:=LH (fun w hw=>zA q br w hw)
   clear hneg bc hp br
   generalize ze c=C at *
   generalize ze q=R at *
   go_wp2_with fail
   have hq0:Q w (wr.alloc (Obj.cells [.string ⟨C.toArray⟩,.string ⟨R.toArray⟩].toArray 60)):=hQ.alloc hQ.size _
   have BT:=Blk.new wr [.string ⟨C.toArray⟩,.string ⟨R.toArray⟩] 60
   refine cx (HC1.out _ (hE.q hq0)) fun w1 hq1=>?_
   have hQ1:=Q.trans hq0 hq1
   have B1:=BT.keep hq1 BT.lt
   have d1:=B1.cell 1
   simp only[zs4,zs5]at d1
   clear hq1 hq0 BT c0 c1
   go_wp2_with fail
   refine cx (HC2.out _ (hE.q hQ1)) fun w2 hq2=>?_
   have hQ2:=Q.trans hQ1 hq2
   have B2:=B1.keep hq2 B1.lt
   have d2:=B2.cell 1
   simp only[zs4,zs5]at d2
   clear hq2 hQ1 B1 d1
   go_wp2_with fail
   refine(zW _ _).mono ?_
   rintro e w3⟨rfl,rfl⟩
   rw[HN.out]
   go_wp2
   go_roundw
   case rel=>exact⟨k+1,HK.out,by go_num,hQ2⟩
   case measure=>simp[intOf];omega
  ·obtain rfl:k=ts.length:=by omega
   clear hc HCK
   go_wp2_with fail
   have hsz:=hQ.size
   have hG:=Blk.new wr [Value.slice none 0 0] 156
   have hQa:=hQ.alloc hQ.size (Obj.cells #[Value.slice none 0 0] 156)
   have hs2:TSl (wr.alloc (Obj.cells #[Value.slice none 0 0] 156)) wr.heap.size (.slice a ts.length cap) (ts.map ofT):=(HSL.out.keep hQa (Nat.le_refl _)).raise hsz (by simp)
   refine(HV.out wr.heap.size _ _ (hE.q hQa) (by omega) hs2 (znq.start hG)).mono ?_
   rintro e w1⟨rfl,hB1,hgth⟩
   have hQ1:Q w w1:=Below.trans hQa (hB1.mono hQ.size)
   cases hvf:zhz ts with
   | none =>
    rw[zfm hvf]
    have HN:=LH (show zg0 ts=none by unfold zg0;rw[hvf];rfl)
    clear hvf hgth HCW H2 hs2 hG hQa HV HSL
    go_wp2
    go_ret2
    exact⟨hQ1,fun _=>rfl,fun L h=>by rw[HN.out]at h;cases h⟩
   | some cs =>
   rw[znt hvf]
   obtain⟨gv,hgb,hgn,hgr⟩:=hgth cs hvf
   have hcb:=(HCW.out cs hvf).1
   have hcl:=(HCW.out cs hvf).2
   have hc2:=H2.out cs hvf
   have HMK:Hid (zg0 ts=if (zgF cs).all zfV then some (zgF cs)else none):=LH (by unfold zg0;rw[hvf];rfl)
   clear hvf hgth HCW H2
   have g0:=hgb.cell 0
   simp only[List.getElem?_cons_zero]at g0
   have HGR:=LH hgr
   rw[List.length_map]at hgr
   obtain⟨ga,gcap,rfl⟩:=zhP hgr
   have lgb:=hgb.lt
   clear hgn hs2 hG hQa HV HSL
   have hcsl:(cs.length:Int)≤16:=by omega
   have HGS:=LH (TSl.of_row HGR.out)
   go_wp2
   go_loopw [10,47] (fun o i wr2=>∃ k:Nat,k≤cs.length∧i=.int .i64 k∧Q w1 wr2∧wr2.ownsRow w1.heap.size 60 2 o (zgF (cs.take k)).length (zeo ((zgF (cs.take k)).map ofC))∧Hid ((zgF (cs.take k)).all zfV=true)) (fun _ i _=>cs.length - (intOf i).toNat)
   case atStart=>exact⟨0,by omega,rfl,Q.refl _,World.ownsRow_nil _ _ _ _,LH rfl⟩
   case round =>
    obtain⟨k,hk,rfl,hQ2,hrow,HALL⟩:=hrel
    by_cases hlt:k<cs.length
    ·obtain⟨a',cap',hv',hB',hcc⟩:=HGS.out.keep hQ2 (Nat.le_refl _)
     simp only[Value.slice.injEq]at hv'
     obtain⟨rfl,-,-⟩:=hv'
     obtain⟨b,o1,ha,hb,c0,c1⟩:=hcc k (by rw[List.length_map];exact hlt)
     subst ha
     have hget:(cs.map ofC).getD k ([],[])=ofC cs[k]:=by rw[List.getD_eq_getElem?_getD,List.getElem?_map,List.getElem?_eq_getElem hlt];rfl
     rw[hget]at c0 c1
     have hcb1:=hcb cs[k] (List.getElem_mem hlt)
     have HBAD:Hid (cs[k].1≠0→zfV cs[k]=false→zg0 ts=none):=LH (fun h0 h=>by
      rw[HMK.out,if_neg]
      intro ha
      have:=List.all_eq_true.1 ha cs[k] (by unfold zgF;rw[List.mem_filter];exact⟨List.getElem_mem hlt,decide_eq_true h0⟩)
      rw[h]at this;cases this)
     have htk:cs.take (k+1)=cs.take k++[cs[k]]:=List.take_succ_eq_append_getElem hlt
     have HOUT:Hid (zgF (cs.take (k+1))=if (cs[k]).1=0 then zgF (cs.take k)else zgF (cs.take k)++[cs[k]]):=LH (by rw[htk,zp3])
     have HK:Hid (k+1≤cs.length):=LH hlt
     have lbr:=Nat.lt_of_lt_of_le hb hQ2.size
     have hol:(zgF (cs.take k)).length≤16:=by
      have h1:=zkE (cs.take k)
      have h2:(cs.take k).length≤cs.length:=by rw[List.length_take];omega
      omega
     clear hget hcc htk
     generalize cs[k]=c at *
     obtain⟨x,l⟩:=c
     simp only[ofC]at c0 c1 HOUT HBAD
     obtain⟨bx,hl0,hl1⟩:=hcb1
     simp only at bx hl0 hl1
     generalize zgF (cs.take k)=ok at *
     by_cases hx0:x=0
     ·have hz:(ze x == [48])=true:=by rw[hx0,zaY];rfl
      have HOK:Hid (zgF (cs.take (k+1))=ok):=LH (by rw[HOUT.out,if_pos hx0])
      clear HOUT hx0 bx HBAD
      go_wp2
      go_roundw
      case rel=>exact⟨k+1,HK.out,by go_num,hQ2.alloc hQ2.size _,by rw[HOK.out];exact hrow.alloc _,LH (by rw[HOK.out];exact HALL.out)⟩
      case measure=>simp[intOf];omega
     ·have hz:(ze x == [48])=false:=by
       rw[beq_eq_false_iff_ne,← zaY];exact fun h=>hx0 (zbt h)
      have HOK:Hid (zgF (cs.take (k+1))=ok++[(x,l)]):=LH (by rw[HOUT.out,if_neg hx0])
      have hV0:=zax (l:Rat)
      have hU0:=zax x
      have bl:zam (l:Rat)=false:=(show Bd 90 (l:Rat)from⟨by rw[Rat.num_natCast,Int.natAbs_natCast];exact hl1,by rw[Rat.den_natCast];exact by decide⟩).zam (by decide)
      have HL1:=LH (fun w hw=>zaS x bx w hw)
      have hl2:=fun w hw=>zaS (l:Rat) bl w hw
      rw[zbN]at hl2
      have HL2:=LH hl2
      by_cases hU1:za6 x≤60
      rotate_left
      ·have HB4:=LH (HBAD.out hx0 (by unfold zfV;rw[decide_eq_false hU1];rfl))
       have hU2:60<za6 x:=by omega
       clear hl2 HOUT hx0 bx hl0 hl1 bl HBAD HOK hU1 HL2
       generalize za6 x=vx at *
       generalize ze x=X at *
       generalize Lib.itoa (l:Int)=L at *
       go_wp2_with fail
       have hq0:=hQ2.alloc hQ2.size (Obj.cells [.string ⟨X.toArray⟩,.string ⟨L.toArray⟩].toArray 160)
       refine cx (HL1.out _ (hE.q (Q.trans hQ1 hq0))) fun w2 hq2=>?_
       have hQ3:=Q.trans hQ1 (Q.trans hq0 hq2)
       go_wp2
       go_ret2
       exact⟨hQ3,fun _=>rfl,fun L h=>by rw[HB4.out]at h;cases h⟩
      by_cases hV1:za6 (l:Rat)≤40
      rotate_left
      ·have HB4:=LH (HBAD.out hx0 (by unfold zfV;simp only[decide_eq_false hV1,Bool.and_false]))
       have hV2:40<za6 (l:Rat):=by omega
       clear hl2 HOUT hx0 bx hl0 hl1 bl HBAD HOK hV1
       generalize za6 x=vx at *
       generalize za6 (l:Rat)=vl at *
       generalize ze x=X at *
       generalize Lib.itoa (l:Int)=L at *
       go_wp2_with fail
       have BT:=Blk.new wr [.string ⟨X.toArray⟩,.string ⟨L.toArray⟩] 160
       have hq0:=hQ2.alloc hQ2.size (Obj.cells [.string ⟨X.toArray⟩,.string ⟨L.toArray⟩].toArray 160)
       refine cx (HL1.out _ (hE.q (Q.trans hQ1 hq0))) fun w2 hq2=>?_
       have hQ3:=Q.trans hq0 hq2
       have B2:=BT.keep hq2 BT.lt
       have d1:=B2.cell 1
       simp only[zs4,zs5]at d1
       go_wp2_with fail
       refine cx (HL2.out _ (hE.q (Q.trans hQ1 hQ3))) fun w3 hq3=>?_
       have hQ4:=Q.trans hQ1 (Q.trans hQ3 hq3)
       go_wp2
       go_ret2
       exact⟨hQ4,fun _=>rfl,fun L h=>by rw[HB4.out]at h;cases h⟩
      have HALL2:Hid ((zgF (cs.take (k+1))).all zfV=true):=LH (by rw[HOK.out,List.all_append,HALL.out];simp only[List.all_cons,List.all_nil,Bool.true_and,Bool.and_true];unfold zfV;simp only[decide_eq_true hU1,decide_eq_true hV1];rfl)
      clear hl2 HOUT hx0 bx hl0 hl1 bl HBAD
      have HAPP:Hid (zeo ((zgF (cs.take (k+1))).map ofC)=zeo (ok.map ofC)++[.string ⟨(ze x).toArray⟩,.string ⟨(Lib.itoa (l:Int)).toArray⟩]∧(zgF (cs.take (k+1))).length=ok.length+1):=LH (by
       rw[HOK.out,List.map_append,znG,List.length_append];exact⟨rfl,rfl⟩)
      clear HOK
      generalize za6 x=vx at *
      generalize za6 (l:Rat)=vl at *
      generalize zeo (ok.map ofC)=rk at *
      generalize ok.length=nk at *
      generalize ze x=X at *
      generalize Lib.itoa (l:Int)=L at *
      rcases zpP hrow with⟨hv0,-⟩|⟨g9,gc9,hv9⟩
      ·subst hv0
       go_wp2_with fail
       have BT:=Blk.new wr [.string ⟨X.toArray⟩,.string ⟨L.toArray⟩] 160
       have hq0:=hQ2.alloc hQ2.size (Obj.cells [.string ⟨X.toArray⟩,.string ⟨L.toArray⟩].toArray 160)
       refine cx (HL1.out _ (hE.q (Q.trans hQ1 hq0))) fun w2 hq2=>?_
       have hQ3:=Q.trans hq0 hq2
       have B2:=BT.keep hq2 BT.lt
       have d1:=B2.cell 1
       simp only[zs4,zs5]at d1
       have hrow2:=zi (hrow.alloc (Obj.cells [.string ⟨X.toArray⟩,.string ⟨L.toArray⟩].toArray 160)) hq2
       clear hq0 hq2 BT c0 c1 hrow
       go_wp2_with fail
       refine cx (HL2.out _ (hE.q (Q.trans hQ1 hQ3))) fun w3 hq3=>?_
       have hQ4:=Q.trans hQ3 hq3
       have B3:=B2.keep hq3 B2.lt
       have d0:=B3.cell 0
       have d2:=B3.cell 1
       simp only[zs4,zs5]at d0 d2
       have hrow3:=(zi hrow2 hq3).alloc (Obj.cells [.string ⟨X.toArray⟩,.string ⟨L.toArray⟩].toArray 60)
       clear hQ3 hq3 B2 d1 hrow2
       have hnew:=Blk.new w3 [.string ⟨X.toArray⟩,.string ⟨L.toArray⟩] 60
       have hsz3:w1.heap.size≤w3.heap.size:=hQ4.size
       go_wp2_with (at_builtin;refine wpList_append_lies _ (by rfl) (.tmp 64) (.tmp 70) 54 (by rfl) w1.heap.size 60 i0 _ 2 32 Tryz.underlying54 HI.out HZ.out HS.out HB.out rfl (by decide) (.slice none 0 0) nk rk (by rfl) hrow3 ⟨w3.heap.size,0,none⟩ 1 1 [.string ⟨X.toArray⟩,.string ⟨L.toArray⟩] (by rfl) (by rfl) (World.news_of_block (cs:=#[.string ⟨X.toArray⟩,.string ⟨L.toArray⟩]) (t:=60) (fr:=(0,0)) hnew) (by simp[Value.oneCell']) (by decide) (by unfold maxLen;omega) (by omega) (by simp;omega) (w3.heap.size+1) (by simp) ?_;intro g4 cap4 w4 hown4 hgrow4 hat4 hlt4)
       go_roundw
       case rel =>
        exact⟨k+1,HK.out,by go_num,(hQ4.alloc hQ4.size _).grown hgrow4 (by simp;omega) (fun q hq=>(hrow3.lt q hq).1),by rw[HAPP.out.1,HAPP.out.2];exact hown4,HALL2⟩
       case measure=>simp[intOf];omega
      ·subst hv9
       go_wp2_with fail
       have BT:=Blk.new wr [.string ⟨X.toArray⟩,.string ⟨L.toArray⟩] 160
       have hq0:=hQ2.alloc hQ2.size (Obj.cells [.string ⟨X.toArray⟩,.string ⟨L.toArray⟩].toArray 160)
       refine cx (HL1.out _ (hE.q (Q.trans hQ1 hq0))) fun w2 hq2=>?_
       have hQ3:=Q.trans hq0 hq2
       have B2:=BT.keep hq2 BT.lt
       have d1:=B2.cell 1
       simp only[zs4,zs5]at d1
       have hrow2:=zi (hrow.alloc (Obj.cells [.string ⟨X.toArray⟩,.string ⟨L.toArray⟩].toArray 160)) hq2
       clear hq0 hq2 BT c0 c1 hrow
       go_wp2_with fail
       refine cx (HL2.out _ (hE.q (Q.trans hQ1 hQ3))) fun w3 hq3=>?_
       have hQ4:=Q.trans hQ3 hq3
       have B3:=B2.keep hq3 B2.lt
       have d0:=B3.cell 0
       have d2:=B3.cell 1
       simp only[zs4,zs5]at d0 d2
       have hrow3:=(zi hrow2 hq3).alloc (Obj.cells [.string ⟨X.toArray⟩,.string ⟨L.toArray⟩].toArray 60)
       clear hQ3 hq3 B2 d1 hrow2
       have hnew:=Blk.new w3 [.string ⟨X.toArray⟩,.string ⟨L.toArray⟩] 60
       have hsz3:w1.heap.size≤w3.heap.size:=hQ4.size
       go_wp2_with (at_builtin;refine wpList_append_lies _ (by rfl) (.tmp 64) (.tmp 70) 54 (by rfl) w1.heap.size 60 i0 _ 2 32 Tryz.underlying54 HI.out HZ.out HS.out HB.out rfl (by decide) (.slice (some ⟨g9,0,none⟩) nk gc9) nk rk (by rfl) hrow3 ⟨w3.heap.size,0,none⟩ 1 1 [.string ⟨X.toArray⟩,.string ⟨L.toArray⟩] (by rfl) (by rfl) (World.news_of_block (cs:=#[.string ⟨X.toArray⟩,.string ⟨L.toArray⟩]) (t:=60) (fr:=(0,0)) hnew) (by simp[Value.oneCell']) (by decide) (by unfold maxLen;omega) (by omega) (by simp;omega) (w3.heap.size+1) (by simp) ?_;intro g4 cap4 w4 hown4 hgrow4 hat4 hlt4)
       go_roundw
       case rel =>
        exact⟨k+1,HK.out,by go_num,(hQ4.alloc hQ4.size _).grown hgrow4 (by simp;omega) (fun q hq=>(hrow3.lt q hq).1),by rw[HAPP.out.1,HAPP.out.2];exact hown4,HALL2⟩
       case measure=>simp[intOf];omega
    ·obtain rfl:k=cs.length:=by omega
     have hall:=HALL.out
     rw[List.take_length]at hrow hall
     have hol:(zgF cs).length≤16:=by have h1:=zkE cs;omega
     have HMS:Hid (zg0 ts=some (zgF cs)):=LH (by rw[HMK.out,if_pos hall])
     have h80:∀ c∈zgF cs,c.2<10 ^ 80:=fun c hc=>by
      have:=List.all_eq_true.1 hall c hc
      unfold zfV at this
      simp only[Bool.and_eq_true,decide_eq_true_eq]at this
      have h4:=this.2
      unfold za6 at h4
      rw[Rat.num_natCast,zav,Int.natAbs_natCast]at h4
      have h5:=(zm c.2 40 (by decide)).1 (by omega)
      exact Nat.lt_trans h5 (by decide)
     have hsrt:=zpC (zgF cs) h80 (by have h1:=zkE cs;omega)
     have hsq:=hsrt w1.heap.size wr _ (hE.q (Q.trans hQ1 hQ2)) (Nat.le_trans hng hQ1.size) (by rw[List.length_map];exact hrow)
     rw[List.length_map]at hsq
     have HSQ:=LH hsq
     obtain⟨oa,ocap,rfl⟩:=zhP hrow
     clear hsq hsrt hrow HGS HGR hgr hcb HMK HALL hall h80
     have hno:((zgF cs).length:Int)≤16:=by omega
     go_wp2_with fail
     refine HSQ.out.mono ?_
     rintro e w2⟨⟨u,rfl⟩,hb2,hown2⟩
     have hQ5:Q w w2:=Below.trans (Q.trans hQ1 hQ2) (hb2.mono hQ1.size)
     go_wp2
     go_ret2
     refine⟨hQ5,fun h=>(by rw[HMS.out]at h;cases h),fun L h=>?_⟩
     rw[HMS.out]at h
     cases h
     rw[List.length_map,zra]
     exact⟨_,rfl,Joins.ownsRow_le hown2 hQ1.size⟩
end
section
open Go.RowKit Kp
def half(a b c:Int):P3:=⟨Rat.divInt a (2:Nat),Rat.divInt b (2:Nat),Rat.divInt c (2:Nat)⟩
def Sim(a b:Nat):Prop:=ze9 ((a:Rat) / (b:Rat))=true
theorem zre{a b:Nat}(ha:0<a)(hb:0<b)(h:Sim a b):Sim b a:=znS hb ha h
def cf(m:Nat)(c:Rat × Nat):Rat:=if ze9 ((c.2:Rat) / (m:Rat))then c.1*sqR ((c.2:Rat) / (m:Rat))else 0
def Apart(L:List (Rat × Nat)):Prop:=L.Pairwise fun a b=>¬ Sim b.2 a.2
theorem TSl.take{w:World}{B:Nat}{a:Option Addr}{n cap:Nat}{L:List (Rat × Nat)}(h:TSl w B (.slice a n cap) (L.map ofC))(i:Nat)(hi:i≤L.length):∀ cap',TSl w B (.slice a i cap') ((L.take i).map ofC):=by
 intro cap'
 obtain⟨a',c',he,hB,hc⟩:=h
 injection he with e1 e2 e3
 subst e1
 refine⟨a,cap',by rw[List.length_map,List.length_take,Nat.min_eq_left hi],hB,fun j hj=>?_⟩
 rw[List.length_map,List.length_take]at hj
 obtain⟨b,o,ha,hb,c0,c1⟩:=hc j (by rw[List.length_map];omega)
 have e:((L.take i).map ofC).getD j ([],[])=(L.map ofC).getD j ([],[]):=by
  rw[List.map_take,List.getD_eq_getElem?_getD,List.getD_eq_getElem?_getD,List.getElem?_take,if_pos (by omega)]
 rw[e]
 exact⟨b,o,ha,hb,c0,c1⟩
def zk8(w:World)(B:Nat)(v:Value)(L:List (Rat × Nat)):Prop:=w.ownsRow B 60 2 v L.length (zeo (L.map ofC))
theorem zk8.keep{w w':World}{B:Nat}{v:Value}{L:List (Rat × Nat)}(h:zk8 w B v L)(hq:Q w w'):zk8 w' B v L:=zi h hq
theorem zk8.form{w:World}{B:Nat}{v:Value}{L:List (Rat × Nat)}(h:zk8 w B v L):∃ a cap,v=.slice a L.length cap∧L.length≤cap:=by
 rcases h.2 with⟨hv,h0⟩|⟨g,cap,cur,hv,-,-,hc,-⟩
 ·exact⟨none,0,by rw[hv,h0],by omega⟩
 ·exact⟨some ⟨g,0,none⟩,cap,hv,hc⟩
theorem zk8.nil(w:World)(B:Nat):zk8 w B (.slice none 0 0) []:=⟨rfl,.inl ⟨rfl,rfl⟩⟩
theorem ziz{n:Nat}(h:zgE n)(hs:Sim n 1):n=1:=by
 unfold Sim ze9 at hs
 rw[show ((n:Rat) / ((1:Nat):Rat))=(n:Rat) by rw[show ((1:Nat):Rat)=1 from rfl];grind,Rat.num_natCast,Int.toNat_natCast]at hs
 simp only[Bool.and_eq_true,decide_eq_true_eq]at hs
 have h2:=h.2
 have h0:=h.1
 have hr:0<zw n:=by
  rcases Nat.eq_zero_or_pos (zw n)with e | e
  ·rw[e]at hs;omega
  ·exact e
 rw[← hs.1,zrt hr]at h2
 have:=congrArg Prod.snd h2
 simp only at this
 omega
theorem zsU{n:Nat}(h:zgE n)(h1:n≠1):¬ Sim n 1∧¬ Sim 1 n:=⟨fun e=>h1 (ziz h e),fun e=>h1 (ziz h (zre (by decide) h.1 e))⟩
end
end Go.Proofs.YtapnkgdnflofbaaGreatDoor
