/-
  Walks of package kingpostref42: Check.
-/
import Derived.Test.YtohlpeicpoaanaaGreatDoorCC
namespace Go.Proofs.YtohlpeicpoaanaaGreatDoor
open Go.RowKit Kp Go.Sort
theorem ccmp_neg (a b:Int):Lib.compareInt a b<0 ↔ a<b:=by unfold Lib.compareInt; split <;> (try split) <;> omega
theorem ccmp_zero (a b:Int):Lib.compareInt a b=0 ↔ a=b:=by unfold Lib.compareInt; split <;> (try split) <;> omega
def behF (x y:Ct):Bool:=if x.w≠y.w then decide (x.w<y.w) else if x.d≠y.d then decide (x.d<y.d) else if x.n≠y.n then decide (y.n<x.n) else decide (atI x.ms 0<atI y.ms 0)
theorem beh_ord (x y:Ct):behF x y=!decide (0≤ordF x y):=by
 have h:(!decide (0≤ordF x y))=decide (ordF x y<0):=by
  by_cases h:0≤ordF x y
  ·rw [decide_eq_true h,decide_eq_false (by omega)]; rfl
  ·rw [decide_eq_false h,decide_eq_true (by omega)]; rfl
 rw [h]
 unfold behF ordF
 have hc:=ccmp_zero x.w y.w
 by_cases h1:x.w=y.w
 ·rw [if_neg (by simpa using h1)]
  have e1:Lib.compareInt x.w y.w=0:=(ccmp_zero _ _).2 h1
  rw [orF,if_pos e1]
  by_cases h2:x.d=y.d
  ·rw [if_neg (by simpa using h2),orF,if_pos ((ccmp_zero _ _).2 h2)]
   by_cases h3:x.n=y.n
   ·rw [if_neg (by simpa using h3),orF,if_pos ((ccmp_zero _ _).2 h3.symm)]
    by_cases h4:atI x.ms 0=atI y.ms 0
    ·rw [orF,if_pos ((ccmp_zero _ _).2 h4),orF,decide_eq_false (by omega),decide_eq_false (by omega)]
    ·rw [orF,if_neg (fun e=>h4 ((ccmp_zero _ _).1 e))]
     exact decide_eq_decide.2 (ccmp_neg _ _).symm
   ·rw [if_pos (by simpa using h3),orF,if_neg (fun e=>h3 ((ccmp_zero _ _).1 e).symm)]
    exact decide_eq_decide.2 (ccmp_neg _ _).symm
  ·rw [if_pos (by simpa using h2),orF,if_neg (fun e=>h2 ((ccmp_zero _ _).1 e))]
   exact decide_eq_decide.2 (ccmp_neg _ _).symm
 ·rw [if_pos (by simpa using h1),orF,if_neg (fun e=>h1 ((ccmp_zero _ _).1 e))]
  exact decide_eq_decide.2 (ccmp_neg _ _).symm
set_option maxRecDepth 100000 in
set_option maxHeartbeats 2000000 in
theorem ref_behind (x y:Ct) (v1 v2:Value) (w:World) (h1:Fst w v1 (atI x.ms 0)) (h2:Fst w v2 (atI y.ms 0)) :
  Calls Tryz.prog 27 #[.agg (ctC x v1).toArray,.agg (ctC y v2).toArray] w fun e w'=>e=.returned (.bool (behF x y))∧Q w w':=by
 obtain ⟨b,o,n,cap,rfl,hn,hc1⟩:=h1
 obtain ⟨b',o',n',cap',rfl,hn',hc2⟩:=h2
 unfold behF ctC
 generalize atI x.ms 0=m1 at *
 generalize atI y.ms 0=m2 at *
 generalize x.w=x1 at *
 generalize x.d=x2 at *
 generalize x.n=x3 at *
 generalize y.w=y1 at *
 generalize y.d=y2 at *
 generalize y.n=y3 at *
 have hnz:(0:Int)<n:=by omega
 have hnz':(0:Int)<n':=by omega
 by_cases e1:x1=y1
 ·rw [if_neg (by simpa using e1)]
  have f1:(x1 != y1)=false:=by rw [e1]; simp
  by_cases e2:x2=y2
  ·rw [if_neg (by simpa using e2)]
   have f2:(x2 != y2)=false:=by rw [e2]; simp
   by_cases e3:x3=y3
   ·rw [if_neg (by simpa using e3)]
    have f3:(x3 != y3)=false:=by rw [e3]; simp
    generalize hr:decide (m1<m2)=r
    clear e1 e2 e3
    go_enter Tryz.func27,Tryz.ntmps27
    go_wp2_with fail
    have B1:=(Blk.new w [.int .i64 x1,.int .i64 x2,.int .i64 x3,.slice (some ⟨b,o,none⟩) n cap] 42).alloc (.cells #[.int .i64 y1,.int .i64 y2,.int .i64 y3,.slice (some ⟨b',o',none⟩) n' cap'] 42)
    have B2:=Blk.new1 w (.cells #[.int .i64 x1,.int .i64 x2,.int .i64 x3,.slice (some ⟨b,o,none⟩) n cap] 42) [.int .i64 y1,.int .i64 y2,.int .i64 y3,.slice (some ⟨b',o',none⟩) n' cap'] 42
    have hg0:Q w ((w.alloc (.cells #[.int .i64 x1,.int .i64 x2,.int .i64 x3,.slice (some ⟨b,o,none⟩) n cap] 42)).alloc (.cells #[.int .i64 y1,.int .i64 y2,.int .i64 y3,.slice (some ⟨b',o',none⟩) n' cap'] 42)):=bt
    replace hc1:=qcell hg0 hc1
    replace hc2:=qcell hg0 hc2
    have p3:=B1.cell 3
    have q3:=B2.cell 3
    simp only [zs4,zs5] at p3 q3
    refine wp_steadily 9 rfl (by kernel_rfl) rfl ?_
    refine svp 0 ?_
    refine svq 1 rfl (by intro w' hq; have hc0:=qcell hq p3; go_simp; try with_reducible rfl) ?_
    refine svp 2 ?_
    refine svq 3 rfl (by intro w' hq; have hc0:=qcell hq hc1; go_simp; try with_reducible rfl) ?_
    refine svp 4 ?_
    refine svq 5 rfl (by intro w' hq; have hc0:=qcell hq q3; go_simp; try with_reducible rfl) ?_
    refine svp 6 ?_
    refine svq 7 rfl (by intro w' hq; have hc0:=qcell hq hc2; go_simp; try with_reducible rfl) ?_
    refine svp 8 ?_
    refine steadily_done (by kernel_rfl) (fun w3 hq3=>?_)
    simp only [List.drop_succ_cons]
    have hQ3:=Q.trans hg0 (Below.trans (Below.drew (Q.refl _)) hq3)
    go_wp2
    go_ret
    exact ⟨rfl,hQ3⟩
   ·rw [if_pos (by simpa using e3)]
    have f3:(x3 != y3)=true:=by rw [bne_iff_ne]; exact e3
    clear e1 e2 e3
    go_enter Tryz.func27,Tryz.ntmps27
    go_wp2
    go_ret
    exact ⟨rfl,bt⟩
  ·rw [if_pos (by simpa using e2)]
   have f2:(x2 != y2)=true:=by rw [bne_iff_ne]; exact e2
   clear e1 e2
   go_enter Tryz.func27,Tryz.ntmps27
   go_wp2
   go_ret
   exact ⟨rfl,bt⟩
 ·rw [if_pos (by simpa using e1)]
  have f1:(x1 != y1)=true:=by rw [bne_iff_ne]; exact e1
  clear e1
  go_enter Tryz.func27,Tryz.ntmps27
  go_wp2
  go_ret
  exact ⟨rfl,bt⟩
set_option maxHeartbeats 1000000 in
theorem ref_Great (l:List Ct) (hn:l.length<4611686018427387904) (v:Value) (w:World) (hv:CtSl w v l) :
  Calls Tryz.prog 6 #[v] w fun e w'=>∃ g,e=.returned (.bool g)∧Hid (g=false→l.length≤12∧∀ x∈l,x.ms.length≤12)∧w=w':=by
 obtain ⟨a,cap,rfl,hc⟩:=hv
 have HC:=LH hc
 clear hc
 have hln:(l.length:Int)<4611686018427387904:=by omega
 go_enter Tryz.func6,Tryz.ntmps6
 go_wp2
 go_loopw [3] (fun i wr=>∃ k:Nat,k≤l.length∧i=.int .i64 k∧Hid (∀ j,j<k→(ctAt l j).ms.length≤12)∧w=wr) (fun i _=>l.length - (intOf i).toNat)
 case atStart=>exact ⟨0,by omega,rfl,LH (fun j hj=>absurd hj (Nat.not_lt_zero _)),rfl⟩
 case round =>
  obtain ⟨k,hk,rfl,HA,rfl⟩:=hrel
  by_cases hlt:k<l.length
  ·obtain ⟨b,o,u,rfl,hb,hnum,hcell⟩:=HC.out k hlt
   obtain ⟨a2,c2,rfl,-⟩:=id hnum
   have c3:=hcell 3 _ rfl
   have HAk:Hid ((ctAt l k).ms.length≤12→∀ j,j<k+1→(ctAt l j).ms.length≤12):=LH (fun h j hj=>by
    rcases Nat.lt_or_ge j k with h1 | h1
    ·exact HA.out j h1
    ·obtain rfl:j=k:=by omega
     exact h)
   have hkz:(k:Int)<l.length:=by omega
   have hk0:(0:Int)≤k:=by omega
   generalize (ctAt l k).ms.length=n at *
   clear HC HA hcell hnum
   by_cases h12:n≤12
   ·have hd:decide ((12:Int)<n)=false:=decide_eq_false (by omega)
    have hd2:decide (12<n)=false:=decide_eq_false (by omega)
    have HK:=LH (HAk.out h12)
    clear HAk h12
    go_wp2
    go_roundw
    case rel=>exact ⟨k+1,by omega,by go_num,HK,trivial⟩
    case measure=>simp [intOf]; omega
   ·have hd:decide ((12:Int)<n)=true:=decide_eq_true (by omega)
    have hd2:decide (12<n)=true:=decide_eq_true (by omega)
    clear HAk h12
    go_wp2
    go_ret
    exact ⟨_,rfl,LH (fun h=>by cases h),rfl⟩
  ·obtain rfl:k=l.length:=by omega
   have HX:Hid (∀ g,g=decide ((12:Int)<l.length)→g=false→l.length≤12∧∀ x∈l,x.ms.length≤12):=LH (fun g hg h0=>by
    rw [h0] at hg
    have:=of_decide_eq_false hg.symm
    refine ⟨by omega,fun x hx=>?_⟩
    obtain ⟨j,hj,rfl⟩:=List.mem_iff_getElem.1 hx
    rw [← ctAt_get hj]; exact HA.out j hj)
   generalize hg:decide ((12:Int)<l.length)=g at *
   clear HC HA
   go_wp2
   go_ret
   exact ⟨_,rfl,LH (HX.out g rfl),rfl⟩
end Go.Proofs.YtohlpeicpoaanaaGreatDoor
