/-
  Walks of package cutlist: Total, Covers, Split at lists that are right.; Walks of package cutlist: Split.
-/
import Derived.Test.YtohlpeicpoaanaaGreatDoorCL
import Derived.Test.YtohlpeicpoaanaaGreatDoorCD
import Derived.Test.YtohlpeicpoaanaaGreatDoorCH
import Derived.Maps.AppendAt
namespace Go.Proofs.YtohlpeicpoaanaaGreatDoor
section
open Go.RowKit Kp Go.Sort
theorem CtSl.at {w:World} {a:Option Addr} {n cap:Nat} {l:List Ct} (h:CtSl w (.slice a n cap) l) {i:Nat} (hi:i<l.length) :
  ∃ b o a2 c2,a=some ⟨b,o,none⟩∧b<w.heap.size∧NumSl w (.slice a2 (ctAt l i).ms.length c2) (ctAt l i).ms∧w.cell? ⟨b,o+i*4,none⟩=some (.int .i64 (ctAt l i).w)∧w.cell? ⟨b,o+i*4+1,none⟩=some (.int .i64 (ctAt l i).d)∧w.cell? ⟨b,o+i*4+2,none⟩=some (.int .i64 (ctAt l i).n)∧w.cell? ⟨b,o+i*4+3,none⟩=some (.slice a2 (ctAt l i).ms.length c2):=by
 obtain ⟨a',cap',he,hc⟩:=h
 injection he with h1 h2 h3
 subst h1 h2 h3
 obtain ⟨b,o,u,ha,hb,hn,hcell⟩:=hc i hi
 obtain ⟨a2,c2,rfl,-⟩:=id hn
 exact ⟨b,o,a2,c2,ha,hb,hn,hcell 0 _ rfl,hcell 1 _ rfl,hcell 2 _ rfl,hcell 3 _ rfl⟩
theorem totF_take {l:List Ct} {k:Nat} (h:k<l.length):totF (l.take (k+1))=totF (l.take k)+(ctAt l k).n*((ctAt l k).ms.length:Int):=by
 rw [List.take_succ_eq_append_getElem h,totF_append,ctAt_get h]
 unfold totF
 simp [sumI]
theorem totF_bound:∀ l:List Ct,(∀ x∈l,0≤x.n*(x.ms.length:Int)∧x.n*(x.ms.length:Int)≤1073741824)→0≤totF l∧totF l≤1073741824*(l.length:Int)
 | [],_=>by simp [totF,sumI]
 | x::l,h=>by
  have ih:=totF_bound l (fun y hy=>h y (List.mem_cons_of_mem _ hy))
  have h1:=h x (by simp)
  have e:totF (x::l)=x.n*(x.ms.length:Int)+totF l:=by unfold totF; rw [List.map_cons,sumI]
  rw [e,List.length_cons]
  omega
theorem PcOk.mul {x:Ct} (h:PcOk x) (hl:x.ms.length≤512):0≤x.n*(x.ms.length:Int)∧x.n*(x.ms.length:Int)≤1073741824:=by
 have h1:=h.n1
 have h2:=h.n2
 refine ⟨Int.mul_nonneg (by omega) (by omega),?_⟩
 have h3:x.n*(x.ms.length:Int)≤1048576*(x.ms.length:Int):=Int.mul_le_mul_of_nonneg_right h2 (by omega)
 have h4:(x.ms.length:Int)≤512:=by omega
 omega
set_option maxRecDepth 100000 in
set_option maxHeartbeats 2000000 in
theorem cut_Total (l:List Ct) (hg:Good l) (hm:∀ x∈l,x.ms.length≤512) (v:Value) (w:World) (hv:CtSl w v l) :
  Calls Tryz.prog 10 #[v] w fun e w'=>e=.returned (.tuple #[.int .i64 (totF l),.int .i64 0])∧Q w w':=by
 have hC:=cut_Check l (by have:=hg.len; omega) (fun x hx=>by have:=hm x hx; omega) v w hv
 rw [(good_iff l).2 hg] at hC
 have HC:=LH hC
 have HV:Hid (∀ W,Q w W→CtSl W v l):=LH (fun W hq=>hv.keep hq)
 have HT:Hid (∀ k,k<l.length→totF (l.take (k+1))=totF (l.take k)+(ctAt l k).n*((ctAt l k).ms.length:Int)):=LH (fun k hk=>totF_take hk)
 have HB:Hid (∀ k,0≤totF (l.take k)∧totF (l.take k)≤549755813888):=LH (fun k=>by
  have h:=totF_bound (l.take k) (fun x hx=>(hg.ok (List.mem_of_mem_take hx)).mul (hm x (List.mem_of_mem_take hx)))
  have h2:=hg.len
  rw [List.length_take] at h
  omega)
 have HM:Hid (∀ k,k<l.length→0≤(ctAt l k).n*((ctAt l k).ms.length:Int)∧(ctAt l k).n*((ctAt l k).ms.length:Int)≤1073741824):=LH (fun k hk=>by
  have hx:ctAt l k∈l:=by rw [ctAt_get hk]; exact List.getElem_mem hk
  exact (hg.ok hx).mul (hm _ hx))
 have HL:=LH (List.take_length (l:=l))
 have H0:Hid (totF (l.take 0)=0):=LH rfl
 have hln:(l.length:Int)≤512:=by have:=hg.len; omega
 clear hC hg hm
 obtain ⟨a,cap,rfl,-⟩:=hv
 go_enter Tryz.func10,Tryz.ntmps10
 go_wp2_with fail
 refine HC.out.mono ?_
 rintro e w1 ⟨rfl,hq1⟩
 clear HC
 go_wp2
 go_loopw [12,4] (fun i s wr=>∃ k:Nat,k≤l.length∧i=.int .i64 k∧s=.int .i64 (totF (l.take k))∧Q w wr) (fun i _ _=>l.length - (intOf i).toNat)
 case atStart=>exact ⟨0,by omega,rfl,by rw [H0.out],hq1⟩
 case round =>
  clear hq1
  obtain ⟨k,hk,rfl,rfl,hQ⟩:=hrel
  by_cases hlt:k<l.length
  ·obtain ⟨b,o,a2,c2,rfl,hb,hn,e0,e1,e2,e3⟩:=(HV.out _ hQ).at hlt
   have hT:=HT.out k hlt
   have hB:=HB.out k
   have hM:=HM.out k hlt
   clear HV HT HB HM HL H0 hn
   generalize hP:(ctAt l k).n*((ctAt l k).ms.length:Int)=P at *
   generalize (ctAt l k).ms.length=m at *
   generalize (ctAt l k).w=x1 at *
   generalize (ctAt l k).d=x2 at *
   generalize (ctAt l k).n=x3 at *
   generalize totF (l.take k)=s at *
   have HTk:=LH hT
   have hkz:(k:Int)<l.length:=by omega
   have hk0:(0:Int)≤k:=by omega
   have w1:IntKind.i64.wrap (x3*(m:Int))=P:=by rw [hP]; exact Go.IntWalk.i64_in _ (by omega)
   have w2:IntKind.i64.wrap (s+P)=s+P:=Go.IntWalk.i64_in _ (by omega)
   clear hT hP
   go_wp2
   go_roundw
   case rel=>exact ⟨k+1,by omega,by go_num,by rw [HTk.out],bt⟩
   case measure=>simp [intOf]; omega
  ·obtain rfl:k=l.length:=by omega
   have hL:=HL.out
   rw [hL]
   clear HV HT HB HM HL H0 hL
   go_wp2
   go_ret2
   exact ⟨rfl,hQ⟩
set_option maxRecDepth 100000 in
set_option maxHeartbeats 2000000 in
theorem cut_Covers (l:List Ct) (hg:Good l) (hm:∀ x∈l,x.ms.length≤512) (n:Int) (hn0:0≤n) (hn5:n≤512) (v:Value) (w:World) (hv:CtSl w v l) :
  Calls Tryz.prog 12 #[v,.int .i64 n] w fun e w'=>e=.returned (.tuple #[.bool (covF l n),.int .i64 0])∧Q w w':=by
 have hC:=cut_Check l (by have:=hg.len; omega) (fun x hx=>by have:=hm x hx; omega) v w hv
 rw [(good_iff l).2 hg] at hC
 have HC:=LH hC
 have HV:Hid (∀ W,Q w W→CtSl W v l):=LH (fun W hq=>hv.keep hq)
 have HT:Hid (∀ k,k<l.length→(memb l (k+1)).length=(memb l k).length+(ctAt l k).ms.length):=LH (fun k hk=>by rw [memb_step hk,List.length_append])
 have HM:Hid (∀ k,k<l.length→0<(ctAt l k).ms.length∧(ctAt l k).ms.length≤512):=LH (fun k hk=>by
  have hx:ctAt l k∈l:=by rw [ctAt_get hk]; exact List.getElem_mem hk
  exact ⟨(hg.ok hx).some,hm _ hx⟩)
 have HX:Hid (∀ k,k<l.length→n≤lastI (ctAt l k).ms→covF l n=false):=LH (fun k hk h=>by
  unfold covF
  rw [Bool.and_eq_false_iff]
  left
  rw [← Bool.not_eq_true,List.all_eq_true]
  intro ha
  have hx:ctAt l k∈l:=by rw [ctAt_get hk]; exact List.getElem_mem hk
  have:=of_decide_eq_true (ha _ hx)
  omega)
 have HY:Hid ((∀ k,k<l.length→lastI (ctAt l k).ms<n)→covF l n=decide (((memb l l.length).length:Int)=n)):=LH (fun h=>by
  unfold covF
  rw [List.all_eq_true.2 (fun x hx=>by
   obtain ⟨k,hk,rfl⟩:=List.mem_iff_getElem.1 hx
   have:=h k hk
   rw [ctAt_get hk] at this
   exact decide_eq_true this),Bool.true_and,memb_all]
  rfl)
 have HL:Hid (∀ k,k≤l.length→(memb l k).length≤512*k):=LH (fun k=>by
  induction k with
  | zero=>intro _; simp [memb]
  | succ k ih =>
   intro hk
   have h1:=ih (by omega)
   have h2:=HT.out k (by omega)
   have h3:=HM.out k (by omega)
   omega)
 have H0:Hid ((memb l 0).length=0):=LH rfl
 generalize covF l n=r at *
 have hln:(l.length:Int)≤512:=by have:=hg.len; omega
 have hd0:decide (n<0)=false:=decide_eq_false (by omega)
 have hd5:decide (512<n)=false:=decide_eq_false (by omega)
 clear hC hg hm
 obtain ⟨a,cap,rfl,-⟩:=hv
 go_enter Tryz.func12,Tryz.ntmps12
 go_wp2_with fail
 refine HC.out.mono ?_
 rintro e w1 ⟨rfl,hq1⟩
 clear HC
 go_wp2
 go_loopw [20,6] (fun i s wr=>∃ k:Nat,k≤l.length∧i=.int .i64 k∧s=.int .i64 ((memb l k).length:Int)∧Hid (∀ j,j<k→lastI (ctAt l j).ms<n)∧Q w wr) (fun i _ _=>l.length - (intOf i).toNat)
 case atStart=>exact ⟨0,by omega,rfl,by rw [H0.out]; rfl,LH (fun j hj=>absurd hj (Nat.not_lt_zero _)),hq1⟩
 case round =>
  clear hq1
  obtain ⟨k,hk,rfl,rfl,HA,hQ⟩:=hrel
  by_cases hlt:k<l.length
  ·obtain ⟨b,o,a2,c2,rfl,hb,hn,e0,e1,e2,e3⟩:=(HV.out _ hQ).at hlt
   have HTk:=LH (HT.out k hlt)
   have hB:=HL.out k hk
   obtain ⟨hm0,hm5⟩:=HM.out k hlt
   obtain ⟨b2,o2,rfl,hb2,c0⟩:=hn.cell.2 ((ctAt l k).ms.length - 1) (by omega)
   have HXk:=LH (HX.out k hlt)
   have HAk:Hid (lastI (ctAt l k).ms<n→∀ j,j<k+1→lastI (ctAt l j).ms<n):=LH (fun h j hj=>by
    rcases Nat.lt_or_ge j k with h1 | h1
    ·exact HA.out j h1
    ·obtain rfl:j=k:=by omega
     exact h)
   have c1:wr.cell? ⟨b2,o2+((ctAt l k).ms.length - 1),none⟩=some (.int .i64 (lastI (ctAt l k).ms)):=c0
   clear HV HT HM HL H0 hn HX HY HA c0
   generalize lastI (ctAt l k).ms=z at *
   generalize (ctAt l k).ms.length=m at *
   generalize (ctAt l k).w=x1 at *
   generalize (ctAt l k).d=x2 at *
   generalize (ctAt l k).n=x3 at *
   generalize (memb l k).length=s at *
   obtain ⟨m,rfl⟩:∃ j,m=j+1:=⟨m - 1,by omega⟩
   rw [Nat.add_sub_cancel] at c1
   have hkz:(k:Int)<l.length:=by omega
   have hk0:(0:Int)≤k:=by omega
   have hm0':(0:Int)≤m:=by omega
   have hmw:IntKind.i64.wrap (m:Int)=m:=Go.IntWalk.i64_in _ (by omega)
   have hmz:(m:Int)<(m:Int)+1:=by omega
   have hmn:m<m+1:=by omega
   have w2:IntKind.i64.wrap ((s:Int)+((m:Int)+1))=(s:Int)+((m:Int)+1):=Go.IntWalk.i64_in _ (by omega)
   by_cases hz:n≤z
   ·have hd:decide (n≤z)=true:=decide_eq_true hz
    have hr:=HXk.out hz
    clear HXk HAk HTk hz
    subst hr
    go_wp2
    go_ret2
    exact ⟨rfl,bt⟩
   ·have hd:decide (n≤z)=false:=decide_eq_false hz
    have HK:=LH (HAk.out (by omega))
    clear HXk HAk hz
    go_wp2
    go_roundw
    case rel=>exact ⟨k+1,by omega,by go_num,by rw [HTk.out]; push_cast; rfl,HK,bt⟩
    case measure=>simp [intOf]; omega
  ·obtain rfl:k=l.length:=by omega
   have hr:=HY.out HA.out
   clear HV HT HM HL H0 HA HX HY
   subst hr
   go_wp2
   go_ret2
   exact ⟨rfl,hQ⟩
end
section
open Go.RowKit Kp Go.Sort
theorem mine_one {w:World} {b:Nat} {m:Int} (x y z:Int) (h:Blk w b [.int .i64 m] 3):Mine w ((⟨x,y,z,[m]⟩:Ct),.slice (some ⟨b,0,none⟩) 1 1) :=
 ⟨Nat.succ_pos _,rfl,.inr ⟨b,1,_,rfl,Nat.zero_le _,h,Nat.le_refl _,by unfold maxLen; omega,rfl,rfl⟩⟩
theorem splF_take {l:List Ct} {k:Nat} (h:k<l.length):splF (l.take (k+1))=splF (l.take k)++spl (ctAt l k):=by
 rw [List.take_succ_eq_append_getElem h,ctAt_get h]
 unfold splF
 rw [List.flatMap_append,List.flatMap_cons,List.flatMap_nil,List.append_nil]
theorem splF_bound:∀ l:List Ct,(∀ x∈l,x.ms.length≤512)→(splF l).length≤512*l.length
 | [],_=>by simp [splF]
 | x::l,h=>by
  have ih:=splF_bound l (fun y hy=>h y (List.mem_cons_of_mem _ hy))
  have h1:=h x (by simp)
  have e:splF (x::l)=spl x++splF l:=by unfold splF; rw [List.flatMap_cons]
  rw [e,List.length_append,List.length_cons]
  have:(spl x).length=x.ms.length:=by unfold spl; rw [List.length_map]
  omega
set_option maxRecDepth 100000 in
set_option maxHeartbeats 4000000 in
theorem cut_Split (l:List Ct) (hg:Good l) (hm:∀ x∈l,x.ms.length≤512) (v:Value) (w:World) (hv:CtSl w v l) :
  Calls Tryz.prog 9 #[v] w fun e w'=>∃ v' S,e=.returned (.tuple #[v',.int .i64 0])∧Q w w'∧SplOk l S∧CtSl w' v' S:=by
 have hC:=cut_Check l (by have:=hg.len; omega) (fun x hx=>by have:=hm x hx; omega) v w hv
 rw [(good_iff l).2 hg] at hC
 have HC:=LH hC
 have HV:Hid (∀ W,Q w W→CtSl W v l):=LH (fun W hq=>hv.keep hq)
 have HM:Hid (∀ k,k<l.length→(ctAt l k).ms.length≤512):=LH (fun k hk=>hm _ (by rw [ctAt_get hk]; exact List.getElem_mem hk))
 have HT:Hid (∀ k,k<l.length→splF (l.take (k+1))=splF (l.take k)++spl (ctAt l k)):=LH (fun k hk=>splF_take hk)
 have HB:Hid (∀ k,(splF (l.take k)).length≤262144):=LH (fun k=>by
  have h:=splF_bound (l.take k) (fun x hx=>hm x (List.mem_of_mem_take hx))
  have h2:=hg.len
  rw [List.length_take] at h
  omega)
 have HL:=LH (List.take_length (l:=l))
 have hln:(l.length:Int)≤512:=by have:=hg.len; omega
 obtain ⟨c0,ci,cz0,cz1,cz2⟩:=info_parts infoCut
 clear hC hg hm
 obtain ⟨a,cap,rfl,-⟩:=hv
 go_enter Tryz.func9,Tryz.ntmps9
 go_wp2_with fail
 refine HC.out.mono ?_
 rintro e w1 ⟨rfl,hq1⟩
 clear HC
 go_wp2
 go_loopw [15,4] (fun i o wr=>∃ (k:Nat) (L:List CV),k≤l.length∧i=.int .i64 k∧Hid (L.map (·.1)=splF (l.take k))∧Hid (∀ p∈L,Mine wr p)∧wr.ownsRow w.heap.size 42 4 o L.length (rowOf cvC L)∧Q w wr) (fun i _ _=>l.length - (intOf i).toNat)
 case atStart=>exact ⟨0,[],by omega,rfl,LH rfl,LH (fun p hp=>by cases hp),World.ownsRow_nil _ _ _ _,hq1⟩
 case round =>
  clear hq1
  obtain ⟨k,L,hk,rfl,HS,HMi,hown,hQ⟩:=hrel
  by_cases hlt:k<l.length
  ·obtain ⟨b,o,a2,c2,rfl,hb,hn,e0,e1,e2,e3⟩:=(HV.out _ (Q.refl w)).at hlt
   have HN:Hid (∀ W,Q w W→NumSl W (.slice a2 (ctAt l k).ms.length c2) (ctAt l k).ms):=LH (fun W hq=>hn.keep hq)
   replace e0:=qcell hQ e0
   replace e1:=qcell hQ e1
   replace e2:=qcell hQ e2
   replace e3:=qcell hQ e3
   have HTk:=LH (HT.out k hlt)
   have hB:=HB.out k
   have hM:=HM.out k hlt
   rw [← HS.out,List.length_map] at hB
   have hkz:(k:Int)<l.length:=by omega
   have hk0:(0:Int)≤k:=by omega
   clear hn HB HM
   generalize hx:ctAt l k=x at *
   obtain ⟨x1,x2,x3,xm⟩:=x
   simp only at e0 e1 e2 e3 hM HN
   clear hx
   go_wp2_with fail
   have BT:=Blk.new wr [.int .i64 x1,.int .i64 x2,.int .i64 x3,.slice a2 xm.length c2] 42
   have hqa:Q wr (wr.alloc (.cells [.int .i64 x1,.int .i64 x2,.int .i64 x3,.slice a2 xm.length c2].toArray 42)):=(Q.refl wr).alloc (Nat.le_refl _) _
   have HMa:Hid (∀ p∈L,Mine (wr.alloc (.cells [.int .i64 x1,.int .i64 x2,.int .i64 x3,.slice a2 xm.length c2].toArray 42)) p):=LH (fun p hp=>(HMi.out p hp).q hqa)
   have howa:=ownsRow_keep hown hqa
   have hQa:=Q.trans hQ hqa
   have hwT:w.heap.size≤wr.heap.size:=hQ.size
   have hne:u4.ownBlock≠some wr.heap.size:=fun e=>by have:=(hown.lt _ e).2; omega
   obtain ⟨W0,hW0⟩:∃ W0,wr.alloc (.cells [.int .i64 x1,.int .i64 x2,.int .i64 x3,.slice a2 xm.length c2].toArray 42)=W0:=⟨_,rfl⟩
   rw [hW0] at BT HMa howa hQa
   simp only [hW0]
   clear hW0 hqa HMi hown e0 e1 e2 e3 hQ
   generalize wr.heap.size=T at *
   have hxm:(xm.length:Int)≤512:=by omega
   go_loopw [22,4] (fun i o wl=>∃ (m:Nat) (Lm:List CV),m≤xm.length∧i=.int .i64 m∧Hid (Lm.map (·.1)=splF (l.take k)++(xm.take m).map (fun y=>⟨x1,x2,x3,[y]⟩))∧Hid (Lm.length=L.length+m)∧Hid (∀ p∈Lm,Mine wl p)∧wl.ownsRow w.heap.size 42 4 o Lm.length (rowOf cvC Lm)∧o.ownBlock≠some T∧Blk wl T [.int .i64 x1,.int .i64 x2,.int .i64 x3,.slice a2 xm.length c2] 42∧Q w wl) (fun i _ _=>xm.length - (intOf i).toNat)
   case atStart=>exact ⟨0,L,by omega,rfl,LH (by rw [HS.out]; simp),LH rfl,HMa,howa,hne,BT,hQa⟩
   case round =>
    clear HMa howa hne BT hQa HS
    obtain ⟨m,Lm,hm,rfl,HS,HLm,HMi,hown,hne,BT,hQ⟩:=hrel
    have hLb:Lm.length≤262656:=by have:=HLm.out; omega
    by_cases hlm:m<xm.length
    ·obtain ⟨b',o'',he,hb',d0⟩:=(HN.out _ hQ).cell.2 m hlm
     subst he
     have HT2:Hid ((xm.take (m+1)).map (fun y=>(⟨x1,x2,x3,[y]⟩:Ct))=(xm.take m).map (fun y=>⟨x1,x2,x3,[y]⟩)++[⟨x1,x2,x3,[atI xm m]⟩]):=LH (by rw [take_at hlm,List.map_append]; rfl)
     generalize atI xm m=y at *
     have hmz:(m:Int)<xm.length:=by omega
     have hm0:(0:Int)≤m:=by omega
     have t0:=BT.cell 0
     have t1:=BT.cell 1
     have t2:=BT.cell 2
     have t3:=BT.cell 3
     simp only [zs4,zs5] at t0 t1 t2 t3
     have lT:=BT.lt
     clear HTk HV HT HL HN
     have B2:=(Blk.new1 wr (.cells #[.int .i64 x1,.int .i64 x2,.int .i64 x3,.slice (some ⟨wr.heap.size+1,0,none⟩) 1 1] 42) [.int .i64 y] 3).alloc (.cells #[.int .i64 x1,.int .i64 x2,.int .i64 x3,.slice (some ⟨wr.heap.size+1,0,none⟩) 1 1] 42)
     have B3:=Blk.new2 wr (.cells #[.int .i64 x1,.int .i64 x2,.int .i64 x3,.slice (some ⟨wr.heap.size+1,0,none⟩) 1 1] 42) (.cells #[.int .i64 y] 3) [.int .i64 x1,.int .i64 x2,.int .i64 x3,.slice (some ⟨wr.heap.size+1,0,none⟩) 1 1] 42
     have hqn:Q wr (((wr.alloc (.cells #[.int .i64 x1,.int .i64 x2,.int .i64 x3,.slice (some ⟨wr.heap.size+1,0,none⟩) 1 1] 42)).alloc (.cells #[.int .i64 y] 3)).alloc (.cells #[.int .i64 x1,.int .i64 x2,.int .i64 x3,.slice (some ⟨wr.heap.size+1,0,none⟩) 1 1] 42)):=bt
     have how:=ownsRow_keep hown hqn
     have hwr:=hQ.size
     have hBT:=BT.keep hqn lT
     have hsn:(((wr.alloc (.cells #[.int .i64 x1,.int .i64 x2,.int .i64 x3,.slice (some ⟨wr.heap.size+1,0,none⟩) 1 1] 42)).alloc (.cells #[.int .i64 y] 3)).alloc (.cells #[.int .i64 x1,.int .i64 x2,.int .i64 x3,.slice (some ⟨wr.heap.size+1,0,none⟩) 1 1] 42)).heap.size=wr.heap.size+3:=by simp
     have HRw:Hid (rowOf cvC (Lm++[(⟨x1,x2,x3,[y]⟩,.slice (some ⟨wr.heap.size+1,0,none⟩) 1 1)])=rowOf cvC Lm++[.int .i64 x1,.int .i64 x2,.int .i64 x3,.slice (some ⟨wr.heap.size+1,0,none⟩) 1 1]):=LH (rowOf_snoc _ _)
     go_wp2_with (at_builtin; refine wpList_append_own_at _ rfl (.tmp 30) (.tmp 32) 22 rfl w.heap.size 42 c0 _ 4 48 Tryz.underlying22 ci cz0 cz1 cz2 rfl (by decide) _ Lm.length (rowOf cvC Lm) rfl how ⟨wr.heap.size+1+1,0,none⟩ 1 1 [.int .i64 x1,.int .i64 x2,.int .i64 x3,.slice (some ⟨wr.heap.size+1,0,none⟩) 1 1] rfl rfl ?qe2 ?qe3 ?qe4 ?qe5 ?qe6 ?_)
     case qe2 =>
      intro j u hj
      rw [Addr.add_lit,Nat.zero_add]
      exact (B3.cell j).trans hj
     case qe3 =>
      intro z hz
      simp only [List.mem_cons,List.not_mem_nil,or_false] at hz
      rcases hz with rfl | rfl | rfl | rfl <;> rfl
     case qe4=>unfold maxLen; omega
     case qe5=>omega
     case qe6=>rw [hsn]; omega
     intro o' w6 hown6 hgrow6 _ hloc
     have hlt6:=fun k hk=>(how.lt k hk).1
     have hQ6:Q w w6:=Below.trans (Below.trans hQ (hqn.mono hwr)) ((Below.refl _ _).grown hgrow6 (by rw [hsn]; omega) hlt6)
     have HM6:Hid (∀ p∈Lm++[((⟨x1,x2,x3,[y]⟩:Ct),Value.slice (some ⟨wr.heap.size+1,0,none⟩) 1 1)],Mine w6 p):=LH (fun p hp=>by
      rcases List.mem_append.1 hp with h | h
      ·exact ((HMi.out p h).q hqn).grown how hgrow6
      ·rw [List.mem_singleton] at h
       subst h
       exact (mine_one x1 x2 x3 B2).grown how hgrow6)
     have HO6:Hid (w6.ownsRow w.heap.size 42 4 o' (Lm++[((⟨x1,x2,x3,[y]⟩:Ct),Value.slice (some ⟨wr.heap.size+1,0,none⟩) 1 1)]).length (rowOf cvC (Lm++[(⟨x1,x2,x3,[y]⟩,.slice (some ⟨wr.heap.size+1,0,none⟩) 1 1)]))):=LH (by rw [HRw.out,List.length_append]; exact hown6)
     have HS6:Hid ((Lm++[((⟨x1,x2,x3,[y]⟩:Ct),Value.slice (some ⟨wr.heap.size+1,0,none⟩) 1 1)]).map (·.1)=splF (l.take k)++(xm.take (m+1)).map (fun y=>⟨x1,x2,x3,[y]⟩)):=LH (by rw [List.map_append,HS.out,HT2.out,List.append_assoc]; rfl)
     have hne6:o'.ownBlock≠some T:=by
      rcases hloc with h | h
      ·rw [h]; exact hne
      ·rw [h]; intro e; injection e with e; omega
     have hBT6:Blk w6 T [.int .i64 x1,.int .i64 x2,.int .i64 x3,.slice (some ⟨b',o'',none⟩) xm.length c2] 42:=(hgrow6.block T (by rw [hsn]; omega) (fun e=>hne e.symm)).trans hBT
     clear hown6 hgrow6 how hqn hown hloc HRw HS HMi HT2 B2 B3 hBT BT hsn hlt6 hne hQ
     go_wp2
     go_roundw
     case rel=>exact ⟨m+1,_,by omega,by go_num,HS6,LH (by rw [List.length_append,HLm.out]; rfl),HM6,HO6.out,hne6,hBT6,hQ6⟩
     case measure=>simp [intOf]; omega
    ·obtain rfl:m=xm.length:=by omega
     have HS2:Hid (Lm.map (·.1)=splF (l.take (k+1))):=LH (by rw [HS.out,HTk.out,List.take_length]; rfl)
     clear HS BT hne HN HTk
     go_wp2
     go_roundw
     case rel=>exact ⟨k+1,Lm,by omega,by go_num,HS2,HMi,hown,hQ⟩
     case measure=>simp [intOf]; omega
  ·obtain rfl:k=l.length:=by omega
   rw [HL.out] at HS
   have hlL:L.length<4611686018427387904:=by
    have h:=HB.out l.length
    rw [HL.out,← HS.out,List.length_map] at h
    omega
   have HSo:=LH (cut_sort L hlL w.heap.size _ wr hown HMi.out)
   have hform:∃ a cp,u4=.slice a L.length cp:=by
    rcases hown.2 with ⟨rfl,h0⟩ | ⟨g,cap,cur,rfl,_⟩
    ·exact ⟨_,_,by rw [h0]⟩
    ·exact ⟨_,_,rfl⟩
   obtain ⟨ua,ucp,rfl⟩:=hform
   clear HV HT HB HM HL hown HMi ci cz0 cz1 cz2
   go_wp2_with fail
   refine HSo.out.mono ?_
   rintro e w9 ⟨rfl,hb9,L',hpL,hpw,hmn,hrow⟩
   have hQ9:Q w w9:=Below.trans hQ (hb9.mono (Nat.le_refl _))
   have HOk:Hid (SplOk l (L'.map (·.1))):=LH ⟨by rw [← HS.out]; exact hpL.map _,List.pairwise_map.2 hpw⟩
   have HCt:Hid (CtSl w9 (.slice ua L.length ucp) (L'.map (·.1))):=LH (by
    rcases hrow with h | h
    ·subst h
     have:=hpL.eq_nil
     subst this
     exact ⟨ua,ucp,rfl,fun i hi=>absurd hi (Nat.not_lt_zero _)⟩
    ·exact CtSl.of h (fun p hp=>(hmn p hp).num))
   clear hpL hpw hmn hrow HSo HS hb9
   go_wp2
   go_ret2
   exact ⟨_,_,rfl,hQ9,HOk.out,HCt.out⟩
end
end Go.Proofs.YtohlpeicpoaanaaGreatDoor
