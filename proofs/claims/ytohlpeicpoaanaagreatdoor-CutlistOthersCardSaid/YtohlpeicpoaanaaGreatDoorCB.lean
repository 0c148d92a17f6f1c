/-
  Walks of package cutlist: pieces in memory; what Check calls.
-/
import Derived.Test.YtohlpeicpoaanaaGreatDoorCA
import Derived.Test.YtohlpeicpoaanaaGreatDoorRow
namespace Go.Proofs.YtohlpeicpoaanaaGreatDoor
open Go.RowKit Kp
abbrev NumSl (w:World) (v:Value) (l:List Int):Prop:=RowSl 1 (fun x:Int=>[Value.int .i64 x]) w v l
theorem NumSl.cell {w:World} {a:Option Addr} {n cap:Nat} {l:List Int} (h:NumSl w (.slice a n cap) l):n=l.length∧∀ i,i<l.length→∃ b o,a=some ⟨b,o,none⟩∧b<w.heap.size∧w.cell? ⟨b,o+i,none⟩=some (.int .i64 (atI l i)):=by
 obtain ⟨a',cap',he,hc⟩:=h
 injection he with h1 h2 h3
 subst h1 h2 h3
 refine ⟨rfl,fun i hi=>?_⟩
 obtain ⟨b,o,ha,hb,hcell⟩:=hc i hi
 exact ⟨b,o,ha,hb,by rw [atI_get hi]; have:=hcell 0 _ rfl; simpa using this⟩
theorem cut_outside (n m:Int) (w:World):Calls Tryz.prog 34 #[.int .i64 n,.int .i64 m] w fun e w'=>e=.returned (.bool (outF n m))∧w=w':=by
 unfold outF
 generalize h1:decide (n<1)=b1
 generalize h2:decide (m<n)=b2
 cases b1 <;> cases b2
 all_goals
  go_enter Tryz.func34,Tryz.ntmps34
  go_wp2
  go_ret
  exact ⟨rfl,rfl⟩
theorem cut_off (m:Int) (w:World):Calls Tryz.prog 36 #[.int .i64 m] w fun e w'=>e=.returned (.bool (offF m))∧w=w':=by
 unfold offF
 generalize h1:decide (m<0)=b1
 generalize h2:decide (512≤m)=b2
 cases b1 <;> cases b2
 all_goals
  go_enter Tryz.func36,Tryz.ntmps36
  go_wp2
  go_ret
  exact ⟨rfl,rfl⟩
set_option maxHeartbeats 1000000 in
theorem cut_ascending (l:List Int) (hn:l.length≤1000000) (v:Value) (w:World) (hv:NumSl w v l) :
  Calls Tryz.prog 37 #[v] w fun e w'=>e=.returned (.bool (ascF l))∧Q w w':=by
 have HY:=LH (asc_yes (l:=l))
 have HX:Hid (∀ i,i+1<l.length→atI l (i+1)≤atI l i→ascF l=false):=LH (fun i hi h=>asc_no hi h)
 generalize ascF l=ac at *
 have HR:Hid (∀ W,Q w W→NumSl W v l):=LH (fun W hq=>hv.keep hq)
 obtain ⟨a,cap,rfl,-⟩:=hv
 go_enter Tryz.func37,Tryz.ntmps37
 go_wp2
 go_loopw [3] (fun i wr=>∃ k:Nat,1≤k∧i=.int .i64 k∧(k≤l.length∨k=1)∧Hid (∀ j,j+1<k→atI l j<atI l (j+1))∧Q w wr) (fun i _=>l.length - (intOf i).toNat)
 case atStart=>exact ⟨1,by omega,rfl,.inr rfl,LH (fun j hj=>by omega),Q.refl _⟩
 case round =>
  obtain ⟨k,hk1,rfl,hk,HA,hQ⟩:=hrel
  by_cases hlt:k<l.length
  ·obtain ⟨j,rfl⟩:∃ j,k=j+1:=⟨k - 1,by omega⟩
   obtain ⟨-,hc⟩:=(HR.out wr hQ).cell
   obtain ⟨b,o,ha,hb,c1⟩:=hc (j+1) hlt
   obtain ⟨b',o',ha',hb',c0⟩:=hc j (by omega)
   rw [ha] at ha'
   injection ha' with ha'
   injection ha' with e1 e2
   subst e1 e2 ha
   have HXk:=LH (HX.out j hlt)
   have HAk:Hid (atI l j<atI l (j+1)→∀ i,i+1<j+1+1→atI l i<atI l (i+1)):=LH (fun h i hi=>by
    rcases Nat.lt_or_ge (i+1) (j+1) with h1 | h1
    ·exact HA.out i h1
    ·obtain rfl:i=j:=by omega
     exact h)
   generalize atI l (j+1)=y at *
   generalize atI l j=x at *
   have hj0:(0:Int)≤j:=by omega
   have hj1:(0:Int)≤(j:Int)+1:=by omega
   have hjn:j<l.length:=by omega
   have hjw:IntKind.i64.wrap (j:Int)=j:=Go.IntWalk.i64_in _ (by omega)
   have hjl:(j:Int)+1<l.length:=by omega
   have hjm:(j:Int)≤1000000:=by omega
   clear hc HR HY HX HA
   by_cases hxy:x<y
   ·have hd:decide (y≤x)=false:=by simp; omega
    have HK:=LH (HAk.out hxy)
    clear HAk HXk hxy
    go_wp2_with fail
    refine wp_steadily 10 rfl (by kernel_rfl) rfl ?_
    refine svp 0 ?_
    refine svp 1 ?_
    refine svp 2 ?_
    refine svq 3 rfl (by intro w' hq; have hc0:=qcell hq c1; go_simp; try with_reducible rfl) ?_
    refine svp 4 ?_
    refine svp 5 ?_
    refine svp 6 ?_
    refine svp 7 ?_
    refine svq 8 rfl (by intro w' hq; have hc0:=qcell hq c0; go_simp; try with_reducible rfl) ?_
    refine svp 9 ?_
    refine steadily_done (by kernel_rfl) (fun w3 hq3=>?_)
    simp only [List.drop_succ_cons,List.drop_nil]
    have hQ3:=Q.trans hQ (Below.trans (Below.drew (Q.refl _)) hq3)
    go_wp2
    go_roundw
    case rel=>exact ⟨j+1+1,by omega,by go_num,.inl (by omega),HK,hQ3⟩
    case measure=>simp [intOf]; omega
   ·have hd:decide (y≤x)=true:=by simp; omega
    have ha:=HXk.out (by omega)
    clear HAk HXk hxy
    subst ha
    go_wp2_with fail
    refine wp_steadily 10 rfl (by kernel_rfl) rfl ?_
    refine svp 0 ?_
    refine svp 1 ?_
    refine svp 2 ?_
    refine svq 3 rfl (by intro w' hq; have hc0:=qcell hq c1; go_simp; try with_reducible rfl) ?_
    refine svp 4 ?_
    refine svp 5 ?_
    refine svp 6 ?_
    refine svp 7 ?_
    refine svq 8 rfl (by intro w' hq; have hc0:=qcell hq c0; go_simp; try with_reducible rfl) ?_
    refine svp 9 ?_
    refine steadily_done (by kernel_rfl) (fun w3 hq3=>?_)
    simp only [List.drop_succ_cons,List.drop_nil]
    have hQ3:=Q.trans hQ (Below.trans (Below.drew (Q.refl _)) hq3)
    go_wp2
    go_ret
    exact ⟨rfl,hQ3⟩
  ·have ha:=HY.out (fun i hi=>HA.out i (by omega))
   clear HY HX HA HR
   subst ha
   go_wp2
   go_ret
   exact ⟨rfl,hQ⟩
theorem any_yes {l:List Int} {f:Int→Bool} {k:Nat} (hk:k<l.length) (h:f (atI l k)=true):l.any f=true:=by
 rw [atI_get hk] at h
 exact List.any_eq_true.2 ⟨_,List.getElem_mem hk,h⟩
theorem any_not {l:List Int} {f:Int→Bool} (h:∀ k,k<l.length→f (atI l k)=false):l.any f=false:=by
 rw [List.any_eq_false]
 intro s hs
 obtain ⟨k,hk,rfl⟩:=List.mem_iff_getElem.1 hs
 rw [← atI_get hk,h k hk]; decide
set_option maxHeartbeats 1000000 in
theorem cut_index (l:List Int) (hn:l.length≤1000000) (v:Value) (w:World) (hv:NumSl w v l) :
  Calls Tryz.prog 54 #[v,.func (.func 36) #[] #[]] w fun e w'=>∃ z:Int,e=.returned (.int .i64 z)∧decide (0≤z)=l.any offF∧w=w':=by
 have HY:Hid (∀ k,k<l.length→offF (atI l k)=true→l.any offF=true):=LH (fun k hk h=>any_yes hk h)
 have HZ:Hid ((∀ k,k<l.length→offF (atI l k)=false)→l.any offF=false):=LH any_not
 generalize l.any offF=an at *
 obtain ⟨a,cap,rfl,-⟩:=id hv
 obtain ⟨-,hc⟩:=hv.cell
 have HC:=LH hc
 clear hv hc
 go_enter Tryz.func54,Tryz.ntmps54
 go_wp2
 go_loopw [8] (fun i wr=>∃ k:Nat,k≤l.length∧i=.int .i64 k∧Hid (∀ j,j<k→offF (atI l j)=false)∧w=wr) (fun i _=>l.length - (intOf i).toNat)
 case atStart=>exact ⟨0,by omega,rfl,LH (fun j hj=>absurd hj (Nat.not_lt_zero _)),rfl⟩
 case round =>
  obtain ⟨k,hk,rfl,HA,rfl⟩:=hrel
  by_cases hlt:k<l.length
  ·obtain ⟨b,o,rfl,hb,c0⟩:=HC.out k hlt
   have HN:=LH (HY.out k hlt)
   have HAk:Hid (offF (atI l k)=false→∀ j,j<k+1→offF (atI l j)=false):=LH (fun h j hj=>by
    rcases Nat.lt_or_ge j k with h1 | h1
    ·exact HA.out j h1
    ·obtain rfl:j=k:=by omega
     exact h)
   have HG:=LH (fun w=>cut_off (atI l k) w)
   generalize offF (atI l k)=ob at *
   generalize atI l k=x at *
   have hkz:(k:Int)<l.length:=by omega
   have hk0:(0:Int)≤k:=by omega
   have hkm:(k:Int)≤1000000:=by omega
   have hdk:decide ((0:Int)≤(k:Int))=true:=by simp
   clear HC HY HZ HA
   go_wp2_with fail
   refine (HG.out _).mono ?_
   rintro e w2 ⟨rfl,rfl⟩
   cases ob
   ·have HK:=LH (HAk.out rfl)
    clear HAk HN
    go_wp2
    go_roundw
    case rel=>exact ⟨k+1,by omega,by go_num,HK,trivial⟩
    case measure=>simp [intOf]; omega
   ·have ha:=HN.out rfl
    clear HAk HN
    subst ha
    go_wp2
    go_ret
    exact ⟨_,rfl,hdk,rfl⟩
  ·obtain rfl:k=l.length:=by omega
   have ha:=HZ.out HA.out
   clear HY HZ HA HC
   subst ha
   go_wp2
   go_ret
   exact ⟨_,rfl,rfl,rfl⟩
theorem cut_contains (l:List Int) (hn:l.length≤1000000) (v:Value) (w:World) (hv:NumSl w v l) :
  Calls Tryz.prog 35 #[v,.func (.func 36) #[] #[]] w fun e w'=>e=.returned (.bool (l.any offF))∧w=w':=by
 have HI:=LH (fun w h=>cut_index l hn v w h)
 generalize l.any offF=an at *
 obtain ⟨a,cap,rfl,-⟩:=id hv
 go_enter Tryz.func35,Tryz.ntmps35
 go_wp2_with fail
 refine (HI.out _ hv).mono ?_
 rintro e w1 ⟨z,rfl,hz,rfl⟩
 subst hz
 go_wp2
 go_ret
 exact ⟨rfl,rfl⟩
theorem cmp_isNaN (a:Int) (w:World):Calls Tryz.prog 80 #[.int .i64 a] w fun e w'=>e=.returned (.bool false)∧w=w':=by
 go_enter Tryz.func80,Tryz.ntmps80
 go_wp2
 go_ret
 exact ⟨rfl,rfl⟩
theorem cmp_Compare (a b:Int) (w:World):Calls Tryz.prog 52 #[.int .i64 a,.int .i64 b] w fun e w'=>e=.returned (.int .i64 (Lib.compareInt a b))∧w=w':=by
 unfold Lib.compareInt
 rcases Int.lt_trichotomy a b with h | h | h
 ·rw [if_pos h]
  go_enter Tryz.func52,Tryz.ntmps52
  go_wp2_with (go_at_call 80; refine (cmp_isNaN _ _).mono ?_; rintro e w' ⟨rfl,rfl⟩)
  go_ret
  exact ⟨rfl,rfl⟩
 ·subst h
  rw [if_neg (by omega),if_neg (by omega)]
  go_enter Tryz.func52,Tryz.ntmps52
  go_wp2_with (go_at_call 80; refine (cmp_isNaN _ _).mono ?_; rintro e w' ⟨rfl,rfl⟩)
  go_ret
  exact ⟨rfl,rfl⟩
 ·have h2:¬ a<b:=by omega
  rw [if_neg h2,if_pos h]
  go_enter Tryz.func52,Tryz.ntmps52
  go_wp2_with (go_at_call 80; refine (cmp_isNaN _ _).mono ?_; rintro e w' ⟨rfl,rfl⟩)
  go_ret
  exact ⟨rfl,rfl⟩
theorem cmp_Or (x y z u:Int) (b:Nat) (t:TypeId) (w:World) (hb:Blk w b [.int .i64 x,.int .i64 y,.int .i64 z,.int .i64 u] t) :
  Calls Tryz.prog 51 #[.slice (some ⟨b,0,none⟩) 4 4] w fun e w'=>e=.returned (.int .i64 (orF [x,y,z,u]))∧w=w':=by
 have c0:=hb.cell 0
 have c1:=hb.cell 1
 have c2:=hb.cell 2
 have c3:=hb.cell 3
 simp only [zs4,zs5] at c0 c1 c2 c3
 have H:Hid (∀ k,k<4→∃ v,w.cell? ⟨b,k,none⟩=some (.int .i64 v)∧atI [x,y,z,u] k=v):=LH (fun k hk=>by
  rcases (show k=0∨k=1∨k=2∨k=3 by omega) with rfl | rfl | rfl | rfl
  ·exact ⟨_,c0,rfl⟩
  ·exact ⟨_,c1,rfl⟩
  ·exact ⟨_,c2,rfl⟩
  ·exact ⟨_,c3,rfl⟩)
 have HS:Hid (∀ k,k<4→orF ([x,y,z,u].drop k)=if atI [x,y,z,u] k=0 then orF ([x,y,z,u].drop (k+1)) else atI [x,y,z,u] k):=LH (fun k hk=>by
  rcases (show k=0∨k=1∨k=2∨k=3 by omega) with rfl | rfl | rfl | rfl <;> rfl)
 have H4:Hid (orF ([x,y,z,u].drop 4)=0):=LH rfl
 have HL:Hid (orF [x,y,z,u]=orF ([x,y,z,u].drop 0)):=LH rfl
 generalize orF [x,y,z,u]=r at *
 generalize [x,y,z,u]=l at *
 clear c0 c1 c2 c3 hb
 go_enter Tryz.func51,Tryz.ntmps51
 go_wp2
 go_loopw [8] (fun i wr=>∃ k:Nat,k≤4∧i=.int .i64 k∧Hid (r=orF (l.drop k))∧w=wr) (fun i _=>4 - (intOf i).toNat)
 case atStart=>exact ⟨0,by omega,rfl,HL,rfl⟩
 case round =>
  obtain ⟨k,hk,rfl,HR,rfl⟩:=hrel
  by_cases hlt:k<4
  ·obtain ⟨v,c0,hv⟩:=H.out k hlt
   have hst:=HS.out k hlt
   rw [hv] at hst
   have hkz:(k:Int)<4:=by omega
   have hk0:(0:Int)≤k:=by omega
   by_cases hv0:v=0
   ·subst hv0
    have HR2:Hid (r=orF (l.drop (k+1))):=LH (by rw [HR.out,hst,if_pos rfl])
    clear hst HR H HS H4 HL hv
    go_wp2
    go_roundw
    case rel=>exact ⟨k+1,by omega,by go_num,HR2,trivial⟩
    case measure=>simp [intOf]; omega
   ·have hr:r=v:=by rw [HR.out,hst,if_neg hv0]
    have hvb:(v != 0)=true:=by rw [bne_iff_ne]; exact hv0
    clear hst HR H HS H4 HL hv
    subst hr
    go_wp2
    go_ret
    exact ⟨rfl,rfl⟩
  ·obtain rfl:k=4:=by omega
   have hr:r=0:=by rw [HR.out,H4.out]
   clear HR H HS H4 HL
   subst hr
   go_wp2
   go_ret
   exact ⟨rfl,rfl⟩
end Go.Proofs.YtohlpeicpoaanaaGreatDoor
