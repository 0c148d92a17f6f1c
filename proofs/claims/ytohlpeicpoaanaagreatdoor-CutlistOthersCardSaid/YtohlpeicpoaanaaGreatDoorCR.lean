/-
  Walks of package cutlist: Sections; slices.Equal at sections; slices.ContainsFunc at pieces with one member.
-/
import Derived.Test.YtohlpeicpoaanaaGreatDoorCQ
import Derived.Laws.StructEq
namespace Go.Proofs.YtohlpeicpoaanaaGreatDoor
open Go.RowKit Kp Go.Sort
def sqC (p:Int × Int):List Value:=[.int .i64 0,.int .i64 p.1,.int .i64 p.2]
theorem sqC_len (p:Int × Int):(sqC p).length=3:=rfl
theorem eqSq (p q:Int × Int) (w:World):(binOp .eql 39 (.agg (sqC p).toArray) (.agg (sqC q).toArray)).run Tryz.prog w=.ok (.bool (decide (p=q))) w:=by
 have hS:Tryz.prog.underlying 39=some (.struct (Tryz.prog.fieldsOf 39)):=by kernel_rfl
 have hp:Tryz.prog.stoodInHeld 39=false:=by kernel_rfl
 unfold sqC
 rw [run_eql_struct,show (10000:Nat)=9999+1 from rfl,run_equalIn_agg w 9999 39 _ _ hS hp]
 simp only [Program.fieldsOf,Tryz.underlying39]
 obtain ⟨b,c⟩:=p
 obtain ⟨y,z⟩:=q
 go_simp
 by_cases h2:b=y <;> by_cases h3:c=z <;> simp [h2,h3]
theorem neSq (p:Int × Int) (w:World):(binOp .neq 39 (.agg (sqC p).toArray) (.agg (sqC p).toArray)).run Tryz.prog w=.ok (.bool false) w:=by
 have h:=eqSq p p w
 rw [decide_eq_true (rfl:p=p)] at h
 unfold sqC at *
 rw [run_eql_struct] at h
 rw [run_neq_struct]
 generalize hy:(Value.agg (List.toArray [Value.int .i64 0,Value.int .i64 p.1,Value.int .i64 p.2]))=y at *
 cases hx:(Op.equalIn 10000 39 y y).run Tryz.prog w with
 | ok b w1 =>
  rw [hx] at h
  simp only [Result.andThen_ok,Result.ok.injEq,Value.bool.injEq] at h
  obtain ⟨rfl,rfl⟩:=h
  rfl
 | halt a b=>rw [hx] at h; cases h
def pAt (l:List (Int × Int)) (i:Nat):Int × Int:=l.getD i (0,0)
theorem pAt_get {l:List (Int × Int)} {i:Nat} (h:i<l.length):pAt l i=l[i]:=by unfold pAt; rw [List.getD_eq_getElem?_getD,List.getElem?_eq_getElem h]; rfl
theorem sq_cells {w:World} {a:Option Addr} {n cap:Nat} {l:List (Int × Int)} (h:RowSl 3 sqC w (.slice a n cap) l) {i:Nat} (hi:i<l.length):∃ b o,a=some ⟨b,o,none⟩∧w.cell? ⟨b,o+i*3,none⟩=some (.int .i64 0)∧w.cell? ⟨b,o+i*3+1,none⟩=some (.int .i64 (pAt l i).1)∧w.cell? ⟨b,o+i*3+2,none⟩=some (.int .i64 (pAt l i).2):=by
 obtain ⟨a',cap',he,hc⟩:=h
 injection he with h1 h2 h3
 subst h1 h2 h3
 obtain ⟨b,o,ha,hb,hcell⟩:=hc i hi
 rw [← pAt_get hi] at hcell
 exact ⟨b,o,ha,hcell 0 _ rfl,hcell 1 _ rfl,hcell 2 _ rfl⟩
set_option maxHeartbeats 2000000 in
theorem index_sq (l:List (Int × Int)) (hln:l.length≤1000000) (p:Int × Int) (v:Value) (w:World) (hl:RowSl 3 sqC w v l) :
  Calls Tryz.prog 53 #[v,.agg (sqC p).toArray] w fun e w'=>∃ z:Int,e=.returned (.int .i64 z)∧decide (0≤z)=decide (p∈l)∧Q w w':=by
 have HV:Hid (∀ W,Q w W→RowSl 3 sqC W v l):=LH (fun W hq=>hl.keep hq)
 have HY:Hid (∀ k,k<l.length→p=pAt l k→decide (p∈l)=true):=LH (fun k hk h=>decide_eq_true (by rw [h,pAt_get hk]; exact List.getElem_mem hk))
 have HZ:Hid ((∀ k,k<l.length→p≠pAt l k)→decide (p∈l)=false):=LH (fun h=>decide_eq_false (fun hm=>by
  obtain ⟨k,hk,e⟩:=List.mem_iff_getElem.1 hm
  exact h k hk (by rw [pAt_get hk]; exact e.symm)))
 generalize decide (p∈l)=an at *
 obtain ⟨a,cap,rfl,-⟩:=hl
 have HE:=LH (fun q w=>eqSq p q w)
 have HPe:Hid (∀ k,k<l.length→True):=LH (fun _ _=>trivial)
 obtain ⟨p1,p2⟩:=p
 unfold sqC at HE ⊢
 go_enter Tryz.func53,Tryz.ntmps53
 go_wp2
 go_loopw [8] (fun i wr=>∃ k:Nat,k≤l.length∧i=.int .i64 k∧Hid (∀ j,j<k→((p1,p2):Int × Int)≠pAt l j)∧Blk wr w.heap.size [.int .i64 0,.int .i64 p1,.int .i64 p2] 39∧Q w wr) (fun i _=>l.length - (intOf i).toNat)
 case atStart=>exact ⟨0,by omega,rfl,LH (fun j hj=>absurd hj (Nat.not_lt_zero _)),Blk.new w _ _,(Q.refl w).alloc (Nat.le_refl _) _⟩
 case round =>
  obtain ⟨k,hk,rfl,HA,hB,hQ⟩:=hrel
  by_cases hlt:k<l.length
  ·obtain ⟨b,o,rfl,c0,c1,c2⟩:=sq_cells (HV.out _ hQ) hlt
   have b0:=hB.cell 0
   have b1:=hB.cell 1
   have b2:=hB.cell 2
   simp only [zs4,zs5] at b0 b1 b2
   have HN:=LH (HY.out k hlt)
   have HAk:Hid (((p1,p2):Int × Int)≠pAt l k→∀ j,j<k+1→((p1,p2):Int × Int)≠pAt l j):=LH (fun h j hj=>by
    rcases Nat.lt_or_ge j k with h1 | h1
    ·exact HA.out j h1
    ·obtain rfl:j=k:=by omega
     exact h)
   have hkz:(k:Int)<l.length:=by omega
   have hk0:(0:Int)≤k:=by omega
   have hdk:decide ((0:Int)≤(k:Int))=true:=by simp
   have R:=HE.out (pAt l k)
   generalize pAt l k=q at *
   clear HV HY HZ HE HA HPe
   by_cases heq:((p1,p2):Int × Int)=q
   ·rw [decide_eq_true heq] at R
    have ha:=HN.out heq
    clear HN HAk heq
    subst ha
    go_wp2_with fail
    refine wp_steadily 6 rfl (by kernel_rfl) rfl ?_
    refine svq 0 rfl (by intro w' hq; have hc0:=qcell hq b0; have hc1:=qcell hq b1; have hc2:=qcell hq b2; go_simp; try with_reducible rfl) ?_
    refine svp 1 ?_
    refine svp 2 ?_
    refine svp 3 ?_
    refine svq 4 rfl (by intro w' hq; have hc0:=qcell hq c0; have hc1:=qcell hq c1; have hc2:=qcell hq c2; go_simp; try with_reducible rfl) ?_
    refine svp 5 ?_
    refine steadily_done (by kernel_rfl) (fun w3 hq3=>?_)
    simp only [List.drop_succ_cons,List.drop_zero]
    have hQ3:=Q.trans hQ (Below.trans (Below.drew (Q.refl _)) hq3)
    go_wp2
    go_ret
    exact ⟨_,rfl,hdk,hQ3⟩
   ·rw [decide_eq_false heq] at R
    have HK:=LH (HAk.out heq)
    clear HN HAk heq
    go_wp2_with fail
    refine wp_steadily 6 rfl (by kernel_rfl) rfl ?_
    refine svq 0 rfl (by intro w' hq; have hc0:=qcell hq b0; have hc1:=qcell hq b1; have hc2:=qcell hq b2; go_simp; try with_reducible rfl) ?_
    refine svp 1 ?_
    refine svp 2 ?_
    refine svp 3 ?_
    refine svq 4 rfl (by intro w' hq; have hc0:=qcell hq c0; have hc1:=qcell hq c1; have hc2:=qcell hq c2; go_simp; try with_reducible rfl) ?_
    refine svp 5 ?_
    refine steadily_done (by kernel_rfl) (fun w3 hq3=>?_)
    simp only [List.drop_succ_cons,List.drop_zero]
    have hq13:Q wr w3:=Below.trans (Below.drew (Q.refl _)) hq3
    have hQ3:=Q.trans hQ hq13
    have hB3:=hB.keep hq13 hB.lt
    clear hB b0 b1 b2 c0 c1 c2 hq3 hq13 R
    go_wp2
    go_roundw
    case rel=>exact ⟨k+1,by omega,by go_num,HK,hB3,hQ3⟩
    case measure=>simp [intOf]; omega
  ·obtain rfl:k=l.length:=by omega
   have ha:=HZ.out HA.out
   clear HV HY HZ HE HA HPe
   subst ha
   go_wp2
   go_ret
   exact ⟨_,rfl,rfl,hQ⟩
theorem contains_sq (l:List (Int × Int)) (hln:l.length≤1000000) (p:Int × Int) (v:Value) (w:World) (hl:RowSl 3 sqC w v l) :
  Calls Tryz.prog 32 #[v,.agg (sqC p).toArray] w fun e w'=>e=.returned (.bool (decide (p∈l)))∧Q w w':=by
 have HI:=LH (fun w h=>index_sq l hln p v w h)
 generalize decide (p∈l)=an at *
 obtain ⟨p1,p2⟩:=p
 unfold sqC at *
 go_enter Tryz.func32,Tryz.ntmps32
 go_wp2_with fail
 have hq0:Q w (w.alloc (.cells [.int .i64 0,.int .i64 p1,.int .i64 p2].toArray 39)):=bt
 refine (HI.out _ (hl.keep hq0)).mono ?_
 rintro e w1 ⟨z,rfl,hz,hq1⟩
 subst hz
 go_wp2
 go_ret
 exact ⟨rfl,Q.trans hq0 hq1⟩
set_option maxHeartbeats 1000000 in
theorem equal_sq (l:List (Int × Int)) (hln:l.length≤1000000) (v1 v2:Value) (w:World) (h1:RowSl 3 sqC w v1 l) (h2:RowSl 3 sqC w v2 l) :
  Calls Tryz.prog 14 #[v1,v2] w fun e w'=>e=.returned (.bool true)∧Q w w':=by
 have HV:Hid (∀ W,Q w W→RowSl 3 sqC W v1 l):=LH (fun W hq=>h1.keep hq)
 have HU:Hid (∀ W,Q w W→RowSl 3 sqC W v2 l):=LH (fun W hq=>h2.keep hq)
 obtain ⟨a,cap,rfl,-⟩:=h1
 obtain ⟨a',cap',rfl,-⟩:=h2
 have HE:=LH (fun q w=>neSq q w)
 unfold sqC at HE
 go_enter Tryz.func14,Tryz.ntmps14
 go_wp2
 go_loopw [13] (fun i wr=>∃ k:Nat,k≤l.length∧i=.int .i64 k∧Q w wr) (fun i _=>l.length - (intOf i).toNat)
 case atStart=>exact ⟨0,by omega,rfl,Q.refl _⟩
 case round =>
  obtain ⟨k,hk,rfl,hQ⟩:=hrel
  by_cases hlt:k<l.length
  ·obtain ⟨b,o,rfl,c0,c1,c2⟩:=sq_cells (HV.out _ hQ) hlt
   obtain ⟨b',o',rfl,d0,d1,d2⟩:=sq_cells (HU.out _ hQ) hlt
   have hkz:(k:Int)<l.length:=by omega
   have hk0:(0:Int)≤k:=by omega
   have R:=HE.out (pAt l k)
   generalize pAt l k=q at *
   clear HV HU HE
   go_wp2_with fail
   refine wp_steadily 9 rfl (by kernel_rfl) rfl ?_
   refine svp 0 ?_
   refine svp 1 ?_
   refine svp 2 ?_
   refine svq 3 rfl (by intro w' hq; have hc0:=qcell hq c0; have hc1:=qcell hq c1; have hc2:=qcell hq c2; go_simp; try with_reducible rfl) ?_
   refine svp 4 ?_
   refine svp 5 ?_
   refine svp 6 ?_
   refine svq 7 rfl (by intro w' hq; have hc0:=qcell hq d0; have hc1:=qcell hq d1; have hc2:=qcell hq d2; go_simp; try with_reducible rfl) ?_
   refine svp 8 ?_
   refine steadily_done (by kernel_rfl) (fun w3 hq3=>?_)
   simp only [List.drop_succ_cons,List.drop_zero]
   have hQ3:=Q.trans hQ (Below.trans (Below.drew (Q.refl _)) hq3)
   clear c0 c1 c2 d0 d1 d2 R hq3
   go_wp2
   go_roundw
   case rel=>exact ⟨k+1,by omega,by go_num,hQ3⟩
   case measure=>simp [intOf]; omega
  ·obtain rfl:k=l.length:=by omega
   clear HV HU HE
   go_wp2
   go_ret
   exact ⟨rfl,hQ⟩
theorem secF_snoc:∀ (l:List Ct) (out:List (Int × Int)) (x:Ct),secF out (l++[x])=if (x.w,x.d)∈secF out l then secF out l else secF out l++[(x.w,x.d)]
 | [],out,x=>rfl
 | y::l,out,x=>by rw [List.cons_append,secF,secF_snoc l]; rfl
theorem secF_len:∀ (l:List Ct) (out:List (Int × Int)),(secF out l).length≤out.length+l.length
 | [],out=>Nat.le_refl _
 | x::l,out=>by
  unfold secF
  have:=secF_len l (if (x.w,x.d)∈out then out else out++[(x.w,x.d)])
  split at this
  ·rw [if_pos ‹_›,List.length_cons]; omega
  ·rw [if_neg ‹_›,List.length_cons]; rw [List.length_append,List.length_singleton] at this; omega
theorem infoSq:(Tryz.prog.info? 39).map (fun i=>(i.zero,i.size,i.bytes))=some (some (.agg #[.int .i64 0,.int .i64 0,.int .i64 0]),3,24):=by kernel_rfl
set_option maxRecDepth 100000 in
set_option maxHeartbeats 2000000 in
theorem cut_Sections (l:List Ct) (hg:Good l) (hm:∀ x∈l,x.ms.length≤512) (v:Value) (w:World) (hv:CtSl w v l) :
  Calls Tryz.prog 11 #[v] w fun e w'=>∃ v',e=.returned (.tuple #[v',.int .i64 0])∧Q w w'∧RowSl 3 sqC w' v' (secF [] l):=by
 have hC:=cut_Check l (by have:=hg.len; omega) (fun x hx=>by have:=hm x hx; omega) v w hv
 rw [(good_iff l).2 hg] at hC
 have HC:=LH hC
 have HV:Hid (∀ W,Q w W→CtSl W v l):=LH (fun W hq=>hv.keep hq)
 have HT:Hid (∀ k,k<l.length→secF [] (l.take (k+1))=if ((ctAt l k).w,(ctAt l k).d)∈secF [] (l.take k) then secF [] (l.take k) else secF [] (l.take k)++[((ctAt l k).w,(ctAt l k).d)]):=LH (fun k hk=>by rw [List.take_succ_eq_append_getElem hk,secF_snoc,ctAt_get hk])
 have HB:Hid (∀ k,(secF [] (l.take k)).length≤512):=LH (fun k=>by
  have h:=secF_len (l.take k) []
  have h2:=hg.len
  rw [List.length_take,List.length_nil] at h
  omega)
 have HL:=LH (List.take_length (l:=l))
 have hln:(l.length:Int)≤512:=by have:=hg.len; omega
 obtain ⟨c0,ci,cz0,cz1,cz2⟩:=info_parts infoSq
 clear hC hg hm
 obtain ⟨a,cap,rfl,-⟩:=hv
 go_enter Tryz.func11,Tryz.ntmps11
 go_wp2_with fail
 refine HC.out.mono ?_
 rintro e w1 ⟨rfl,hq1⟩
 clear HC
 go_wp2
 go_loopw [13,4] (fun i o wr=>∃ (k:Nat) (L:List (Int × Int)),k≤l.length∧i=.int .i64 k∧Hid (L=secF [] (l.take k))∧wr.ownsRow w.heap.size 39 3 o L.length (rowOf sqC L)∧Q w wr) (fun i _ _=>l.length - (intOf i).toNat)
 case atStart=>exact ⟨0,[],by omega,rfl,LH rfl,World.ownsRow_nil _ _ _ _,hq1⟩
 case round =>
  clear hq1
  obtain ⟨k,L,hk,rfl,HS,hown,hQ⟩:=hrel
  by_cases hlt:k<l.length
  ·obtain ⟨b,o,a2,c2,rfl,hb,hn,e0,e1,e2,e3⟩:=(HV.out _ hQ).at hlt
   have HTk:=LH (HT.out k hlt)
   have hB:=HB.out k
   rw [← HS.out] at HTk hB
   have hkz:(k:Int)<l.length:=by omega
   have hk0:(0:Int)≤k:=by omega
   have hrs:=RowSl.of_row sqC_len hown
   have HCn:=LH (fun w h=>contains_sq L (by omega) ((ctAt l k).w,(ctAt l k).d) u4 w h)
   clear hn HB HV HT HL HS
   generalize (ctAt l k).ms.length=n at *
   generalize (ctAt l k).w=x1 at *
   generalize (ctAt l k).d=x2 at *
   generalize (ctAt l k).n=x3 at *
   have HRw:Hid (rowOf sqC (L++[(x1,x2)])=rowOf sqC L++[.int .i64 0,.int .i64 x1,.int .i64 x2]):=LH (rowOf_snoc _ _)
   unfold sqC at HCn
   go_wp2_with fail
   have hqa:Q wr ((wr.alloc (.cells #[.int .i64 x1,.int .i64 x2,.int .i64 x3,.slice a2 n c2] 42)).alloc (.cells #[.int .i64 0,.int .i64 x1,.int .i64 x2] 39)):=bt
   have BS:=Blk.new1 wr (.cells #[.int .i64 x1,.int .i64 x2,.int .i64 x3,.slice a2 n c2] 42) [.int .i64 0,.int .i64 x1,.int .i64 x2] 39
   refine (HCn.out _ (hrs.keep hqa)).mono ?_
   rintro e w3 ⟨rfl,hq3⟩
   have hqb:=Q.trans hqa hq3
   have hQ3:=Q.trans hQ hqb
   have how3:=ownsRow_keep hown hqb
   replace BS:=BS.keep hq3 BS.lt
   have s0:=BS.cell 0
   have s1:=BS.cell 1
   have s2:=BS.cell 2
   simp only [zs4,zs5] at s0 s1 s2
   have lS:=BS.lt
   clear HCn hrs hqa hq3 hqb hown BS e0 e1 e2 e3
   by_cases hin:(x1,x2)∈L
   ·have hd:decide ((x1,x2)∈L)=true:=decide_eq_true hin
    have HS2:Hid (L=secF [] (l.take (k+1))):=LH (by rw [HTk.out,if_pos hin])
    rw [hd]
    clear HTk hin hd
    go_wp2
    go_roundw
    case rel=>exact ⟨k+1,L,by omega,by go_num,HS2,how3,hQ3⟩
    case measure=>simp [intOf]; omega
   ·have hd:decide ((x1,x2)∈L)=false:=decide_eq_false hin
    have HS2:Hid (L++[(x1,x2)]=secF [] (l.take (k+1))):=LH (by rw [HTk.out,if_neg hin])
    rw [hd]
    clear HTk hin hd
    have hw3:=hQ3.size
    go_wp2_with (at_builtin; refine wpList_append_own _ rfl (.tmp 26) (.tmp 28) 31 rfl w.heap.size 39 c0 _ 3 24 Tryz.underlying31 ci cz0 cz1 cz2 rfl (by decide) _ L.length (rowOf sqC L) rfl (ownsRow_keep how3 ((Below.refl _ _).alloc (Nat.le_refl _) _)) ⟨w3.heap.size,0,none⟩ 1 1 [.int .i64 0,.int .i64 x1,.int .i64 x2] rfl rfl ?qe2 ?qe3 ?qe4 ?qe5 ?qe6 ?_)
    case qe2 =>
     intro j u hj
     rw [Addr.add_lit,Nat.zero_add]
     exact ((Blk.new w3 [.int .i64 0,.int .i64 x1,.int .i64 x2] 39).cell j).trans hj
    case qe3 =>
     intro z hz
     simp only [List.mem_cons,List.not_mem_nil,or_false] at hz
     rcases hz with rfl | rfl | rfl <;> rfl
    case qe4=>unfold maxLen; omega
    case qe5=>omega
    case qe6=>simp; omega
    intro v' w4 hown4 hgrow4 _
    have hQ4:Q w w4:=(hQ3.alloc hQ3.size _).grown hgrow4 (by simp; omega) (fun k hk=>(how3.lt k hk).1)
    have HO:Hid (w4.ownsRow w.heap.size 39 3 v' (L++[(x1,x2)]).length (rowOf sqC (L++[(x1,x2)]))):=LH (by rw [HRw.out,List.length_append]; exact hown4)
    clear hown4 hgrow4 how3 hQ3 HRw s0 s1 s2
    go_wp2
    go_roundw
    case rel=>exact ⟨k+1,_,by omega,by go_num,HS2,HO.out,hQ4⟩
    case measure=>simp [intOf]; omega
  ·obtain rfl:k=l.length:=by omega
   rw [HL.out] at HS
   have HR:=LH (RowSl.of_row sqC_len hown)
   have hsl:=HS.out
   subst hsl
   have hform:∃ a cp,u4=.slice a (secF [] l).length cp:=by
    rcases hown.2 with ⟨rfl,h0⟩ | ⟨g,cap,cur,rfl,_⟩
    ·exact ⟨_,_,by rw [h0]⟩
    ·exact ⟨_,_,rfl⟩
   obtain ⟨ua,ucp,rfl⟩:=hform
   clear HV HT HB HL hown HS
   go_wp2
   go_ret2
   exact ⟨_,rfl,hQ,HR.out⟩
end Go.Proofs.YtohlpeicpoaanaaGreatDoor
