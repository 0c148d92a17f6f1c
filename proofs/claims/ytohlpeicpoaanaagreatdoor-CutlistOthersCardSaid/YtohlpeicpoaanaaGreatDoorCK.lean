/-
  The example of chapter 42: cutlist.Of.
-/
import Derived.Test.YtohlpeicpoaanaaGreatDoorCH
import Derived.Test.YtohlpeicpoaanaaGreatDoorCL
import Derived.Laws.OwnMore
namespace Go.Proofs.YtohlpeicpoaanaaGreatDoor
open Go.RowKit Kp Go.Sort
def keyS (n:Nat):Value:=.agg #[.int .i64 60,.int .i64 180,.int .i64 ((n:Int)+10)]
def MpS (k:Nat) (w:World) (base M:Nat):Prop :=
 (k=0∧w.heap[M]?=some (.map #[] 0))∨(k=1∧∃ v,w.heap[M]?=some (.map #[⟨K15,v,0⟩] 1)∧w.ownsRow base 3 1 v 1 [.int .i64 0]) ∨
 (k=2∧∃ v,w.heap[M]?=some (.map #[⟨K15,v,0⟩] 1)∧w.ownsRow base 3 1 v 2 [.int .i64 0,.int .i64 1]) ∨
 (k=3∧∃ v v',w.heap[M]?=some (.map #[⟨K15,v,0⟩,⟨K12,v',1⟩] 2)∧w.ownsRow base 3 1 v 2 [.int .i64 0,.int .i64 1]∧w.ownsRow base 3 1 v' 1 [.int .i64 2])
theorem MpS.keep {k base M:Nat} {w w':World} (h:MpS k w base M) (hq:Q w w'):MpS k w' base M:=by
 have hk:∀ o,w.heap[M]?=some o→w'.heap[M]?=some o:=fun o ho=>(hq.block M (Array.getElem?_eq_some_iff.1 ho).1).trans ho
 rcases h with ⟨h1,h2⟩ | ⟨h1,v,h2,h3⟩ | ⟨h1,v,h2,h3⟩ | ⟨h1,v,v',h2,h3,h4⟩
 ·exact .inl ⟨h1,hk _ h2⟩
 ·exact .inr (.inl ⟨h1,v,hk _ h2,ownsRow_keep h3 hq⟩)
 ·exact .inr (.inr (.inl ⟨h1,v,hk _ h2,ownsRow_keep h3 hq⟩))
 ·exact .inr (.inr (.inr ⟨h1,v,v',hk _ h2,ownsRow_keep h3 hq,ownsRow_keep h4 hq⟩))
theorem MpS.step {k base M:Nat} {w:World} (hk:k<3) (h:MpS k w base M):∃ (v0:Value) (n0:Nat) (xs0:List Value) (st:Int) (o0 o1:Obj) (o2:Value→Obj),w.heap[M]?=some o0∧o0.isCells=false∧o1.isCells=false ∧
  (∀ W:World,W.heap[M]?=some o0→(Instr.mapEntry 84 (.map (some M)) (keyS (exN k))).run Tryz.prog W=.ok (.tuple #[v0,.int .i64 st]) (W.putObj M o1)) ∧
  (∀ (W:World) (u:Value),W.heap[M]?=some o1→(Instr.entryStore 84 (.map (some M)) (.int .i64 st) u).run Tryz.prog W=.ok () (W.putObj M (o2 u))) ∧
  w.ownsRow base 3 1 v0 n0 xs0∧n0≤2 ∧
  (∀ (W:World) (u:Value),W.heap[M]?=some (o2 u)→W.ownsRow base 3 1 u (n0+1) (xs0++[.int .i64 k])→(v0=.slice none 0 0→∀ v n xs,w.ownsRow base 3 1 v n xs→W.ownsRow base 3 1 v n xs)→MpS (k+1) W base M):=by
 rcases h with ⟨rfl,h2⟩ | ⟨rfl,v,h2,h3⟩ | ⟨rfl,v,h2,h3⟩ | ⟨rfl,v,v',h2,h3,h4⟩
 ·exact ⟨_,0,[],0,_,_,fun u=>.map #[⟨K15,u,0⟩] 1,h2,rfl,rfl,fun W hW=>me_new0 hW,fun W u hW=>es_0 hW u,World.ownsRow_nil _ _ _ _,by omega,fun W u hW ho _=>.inr (.inl ⟨rfl,u,hW,ho⟩)⟩
 ·exact ⟨_,1,_,0,_,_,fun u=>.map #[⟨K15,u,0⟩] 1,h2,rfl,rfl,fun W hW=>me_old hW,fun W u hW=>es_0 hW u,h3,by omega,fun W u hW ho _=>.inr (.inr (.inl ⟨rfl,u,hW,ho⟩))⟩
 ·exact ⟨_,0,[],1,_,_,fun u=>.map #[⟨K15,v,0⟩,⟨K12,u,1⟩] 2,h2,rfl,rfl,fun W hW=>me_new1 hW,fun W u hW=>es_1 hW u,World.ownsRow_nil _ _ _ _,by omega,fun W u hW ho hkeep=>.inr (.inr (.inr ⟨rfl,v,u,hW,hkeep rfl _ _ _ h3,ho⟩))⟩
 ·omega
set_option maxRecDepth 100000 in
set_option maxHeartbeats 4000000 in
theorem of_ex (B:Nat) (w:World) (hE:Env w) (hx:ExAt w B) :
  Calls Tryz.prog 28 #[.slice (some ⟨B,0,none⟩) 3 3,.int .i64 10] w fun e w'=>∃ v,e=.returned (.tuple #[v,.int .i64 0])∧Q w w'∧CtSl w' v [⟨60,180,15,[0,1]⟩,⟨60,180,12,[2]⟩]:=by
 have HX:Hid (∀ W,Q w W→ExAt W B):=LH (fun W hq=>hx.keep hq)
 have HC:=LH (fun w hw h=>of_contains B w hw h)
 have HI:=LH (fun n hn w hw=>rational_Int_nat n hn w hw)
 clear hx
 obtain ⟨i0,hi,hz0,hz1,hz2⟩:=info_parts infoNum
 obtain ⟨j0,gi,gz0,gz1,gz2⟩:=info_parts infoInt
 go_enter Tryz.func28,Tryz.ntmps28
 go_wp2_with fail
 refine (HC.out _ (hE.ofQ bt) (HX.out _ bt)).mono ?_
 rintro e w1 ⟨rfl,hq1⟩
 clear HC
 go_wp2
 go_loopw [36,6] (fun i v wr=>∃ k:Nat,k≤3∧i=.int .i64 k∧wr.ownsRow w.heap.size 55 1 v k (exL k)∧Q w wr) (fun i _ _=>3 - (intOf i).toNat)
 case atStart=>exact ⟨0,by omega,rfl,World.ownsRow_nil _ _ _ _,hq1⟩
 case round =>
  clear hq1
  obtain ⟨k,hk,rfl,hown,hQ⟩:=hrel
  by_cases hlt:k<3
  ·obtain ⟨x,y,he,hc⟩:=(HX.out _ hQ).2 k hlt
   have c0:wr.cell? ⟨B,k*11,none⟩=some (.int .i64 1):=hc 0 _ rfl
   have c1:=hc 1 _ rfl
   have c2:=hc 2 _ rfl
   have c3:=hc 3 _ rfl
   have c4:=hc 4 _ rfl
   have c5:=hc 5 _ rfl
   have c6:=hc 6 _ rfl
   have c7:=hc 7 _ rfl
   have c8:=hc 8 _ rfl
   have c9:=hc 9 _ rfl
   have c10:=hc 10 _ rfl
   have HU:=LH he.rnd
   have HS:Hid (exL (k+1)=exL k++[.string ⟨(exS k).toArray⟩]):=LH (exL_step k)
   unfold exS at HS
   generalize Lib.itoa (exN k:Int)=S at *
   generalize (⟨#[x]⟩:ByteArray)=X at *
   generalize (⟨#[y]⟩:ByteArray)=Y at *
   have hkz:(k:Int)<3:=by omega
   have hk0:(0:Int)≤k:=by omega
   clear hc HX he gi gz0 gz1 gz2 HI
   go_wp2_with fail
   refine (HU.out _ (hE.ofQ bt)).mono ?_
   rintro e w2 ⟨rfl,hq2⟩
   have hqa:Q wr (wr.alloc (.cells #[.int .i64 1,.int .i64 0,.int .i64 (-1),.string ⟨#[48]⟩,.string ⟨#[48]⟩,.string ⟨#[48]⟩,.string X,.string Y,.string ⟨#[48]⟩,.int .i64 60,.int .i64 180] 59)):=(Q.refl wr).alloc (Nat.le_refl _) _
   have hqb:=Q.trans hqa hq2
   have hown2:=ownsRow_keep hown hqb
   have hQ2:=Q.trans hQ hqb
   clear hqa hqb hq2 hown HU c0 c1 c2 c3 c4 c5 c6 c7 c8 c9 c10
   go_wp2_with (at_builtin; refine wpList_append_own _ rfl (.tmp 48) (.tmp 50) 81 rfl w.heap.size 55 i0 _ 1 16 Tryz.underlying81 hi hz0 hz1 hz2 rfl (by decide) _ k (exL k) rfl (ownsRow_keep hown2 ((Below.refl _ _).alloc (Nat.le_refl _) _)) ⟨w2.heap.size,0,none⟩ 1 1 [.string ⟨S.toArray⟩] rfl rfl ?qc2 ?qc3 ?qc4 ?qc5 ?qc6 ?_)
   case qc2 =>
    intro j u hj
    have hB:=(Blk.new w2 [.string ⟨S.toArray⟩] 55).cell j
    rw [Addr.add_lit,Nat.zero_add]
    exact hB.trans hj
   case qc3 =>
    intro u hu
    simp only [List.mem_cons,List.not_mem_nil,or_false] at hu
    rcases hu with rfl; rfl
   case qc4=>unfold maxLen; omega
   case qc5=>omega
   case qc6=>have:=hQ2.size; simp; omega
   intro v' w4 hown4 hgrow4 _
   have hQ4:Q w w4:=(hQ2.alloc hQ2.size _).grown hgrow4 (by have:=hQ2.size; simp; omega) (fun k hk=>(hown2.lt k hk).1)
   have HO:Hid (w4.ownsRow w.heap.size 55 1 v' (k+1) (exL (k+1))):=LH (by rw [HS.out]; exact hown4)
   clear hown4 hgrow4 hown2 hQ2 HS
   go_wp2
   go_roundw
   case rel=>exact ⟨k+1,by omega,by go_num,HO.out,hQ4⟩
   case measure=>simp [intOf]; omega
  ·have hk3:k=3:=by omega
   have hkz:¬ (k:Int)<3:=by omega
   rw [hk3] at hown
   have hmm:=fun W=>run_makeMap (P:=Tryz.prog) 84 W
   have hown0:=hown
   obtain ⟨g,cap,rfl,hg,hgw⟩:=hown.form (by omega)
   have HL:Hid (∀ j,j<3→wr.cell? ⟨g,j,none⟩=some (.string ⟨(exS j).toArray⟩)):=LH (fun j hj=>by
    rw [World.ownsRow.cellAt hown0 j (by omega)]
    unfold exL
    rw [List.getElem?_map,List.getElem?_range hj]; rfl)
   clear hown hown0 hi hz0 hz1 hz2 hk3 hk
   go_wp2_with fail
   have hM0:MpS 0 (wr.alloc (.map #[] 0)) (wr.heap.size+1) wr.heap.size:=.inl ⟨rfl,World.alloc_heap_new wr _⟩
   have hqm:Q wr (wr.alloc (.map #[] 0)):=(Q.refl wr).alloc (Nat.le_refl _) _
   have hsm:wr.heap.size+1≤(wr.alloc (.map #[] 0)).heap.size:=by simp
   obtain ⟨W0,hW0⟩:∃ W0,wr.alloc (.map #[] 0)=W0:=⟨_,rfl⟩
   rw [hW0] at hM0 hqm hsm
   simp only [hW0]
   have HL0:Hid (∀ W,Below wr.heap.size W0 W→∀ j,j<3→W.cell? ⟨g,j,none⟩=some (.string ⟨(exS j).toArray⟩)):=LH (fun W hq j hj=>(Below.cell (Below.trans hqm hq) (p:=⟨g,j,none⟩) hgw).trans (HL.out j hj))
   have hQ0:=Q.trans hQ hqm
   have hM:w.heap.size≤wr.heap.size:=hQ.size
   clear hmm HL hW0 hqm hQ
   generalize wr.heap.size=M at *
   go_loopw [56] (fun i wr=>∃ k:Nat,k≤3∧i=.int .i64 k∧Hid (MpS k wr (M+1) M)∧Below M W0 wr∧Q w wr) (fun i _=>3 - (intOf i).toNat)
   case atStart=>exact ⟨0,by omega,rfl,LH hM0,Below.refl _ _,hQ0⟩
   case round =>
    clear hM0 hQ0
    obtain ⟨k,hk,rfl,HM,hB0,hQ⟩:=hrel
    by_cases hlt:k<3
    ·obtain ⟨x,y,he,hc⟩:=(HX.out _ hQ).2 k hlt
     have c0:wr.cell? ⟨B,k*11,none⟩=some (.int .i64 1):=hc 0 _ rfl
     have c1:=hc 1 _ rfl
     have c2:=hc 2 _ rfl
     have c3:=hc 3 _ rfl
     have c4:=hc 4 _ rfl
     have c5:=hc 5 _ rfl
     have c6:=hc 6 _ rfl
     have c7:=hc 7 _ rfl
     have c8:=hc 8 _ rfl
     have c9:=hc 9 _ rfl
     have c10:=hc 10 _ rfl
     obtain ⟨v0,n0,xs0,st,o0,o1,o2,hm0,ho0,ho1,hme,hes,hrow,hn0,hnx⟩:=MpS.step hlt HM.out
     clear HM
     have HNX:=LH hnx
     have HRO:=LH hrow
     have hs0:M+1≤wr.heap.size:=Nat.le_trans hsm hB0.size
     have hgr:g<wr.heap.size:=by omega
     have hl:=HL0.out _ hB0 k hlt
     have hn5:exN k≤5:=by unfold exN; split <;> omega
     unfold exS at hl
     unfold keyS at hme
     generalize exN k=n at *
     have HIn:=LH (fun w hw=>HI.out n (Nat.lt_of_le_of_lt hn5 (by decide)) w hw)
     generalize Lib.itoa (n:Int)=S at *
     generalize (⟨#[x]⟩:ByteArray)=X at *
     generalize (⟨#[y]⟩:ByteArray)=Y at *
     have hkz:(k:Int)<3:=by omega
     have hk0:(0:Int)≤k:=by omega
     have hnw:IntKind.i64.wrap ((n:Int)+10)=(n:Int)+10:=Go.IntWalk.i64_in _ (by omega)
     have hnd:decide ((1048576:Int)<(n:Int)+10)=false:=decide_eq_false (by omega)
     clear hc he HI hnx hrow
     go_wp2_with fail
     refine (HIn.out _ (hE.ofQ bt)).mono ?_
     rintro e w3 ⟨rfl,hq3⟩
     have hqa:Q wr (wr.alloc (.cells #[.int .i64 1,.int .i64 0,.int .i64 (-1),.string ⟨#[48]⟩,.string ⟨#[48]⟩,.string ⟨#[48]⟩,.string X,.string Y,.string ⟨#[48]⟩,.int .i64 60,.int .i64 180] 59)):=(Q.refl wr).alloc (Nat.le_refl _) _
     have BT:=(Blk.new wr [.int .i64 1,.int .i64 0,.int .i64 (-1),.string ⟨#[48]⟩,.string ⟨#[48]⟩,.string ⟨#[48]⟩,.string X,.string Y,.string ⟨#[48]⟩,.int .i64 60,.int .i64 180] 59).keep hq3 (by simp)
     have hqb:=Q.trans hqa hq3
     have t9:=BT.cell 9
     have t10:=BT.cell 10
     simp only [zs4,zs5] at t9 t10
     have hlT:=BT.lt
     have hm3:w3.heap[M]?=some o0:=(hqb.block M (by omega)).trans hm0
     have hrow3:=ownsRow_keep HRO.out hqb
     have hs3:=Nat.le_trans hs0 hqb.size
     have hB3:Below M W0 w3:=hB0.trans (hqb.mono (by omega))
     have hQ3:=Q.trans hQ hqb
     have kc3:KC wr w3:=KC.q hqb
     clear hqa hqb hq3 BT c0 c1 c2 c3 c4 c5 c6 c7 c8 c9 c10 hl HIn hm0
     generalize wr.heap.size=T at *
     have hz4:((w3.alloc (.cells #[.int .i64 60,.int .i64 180,.int .i64 ((n:Int)+10)] 87)).alloc (.cells #[.int .i64 (k:Int)] 3)).heap[M]?=some o0:=by
      rw [Below.heap_alloc _ _ _ (by simp; omega),Below.heap_alloc _ _ _ (by omega)]; exact hm3
     have hme4:=hme _ hz4
     obtain ⟨W4,hW4⟩:∃ W4,((w3.alloc (.cells #[.int .i64 60,.int .i64 180,.int .i64 ((n:Int)+10)] 87)).alloc (.cells #[.int .i64 (k:Int)] 3))=W4:=⟨_,rfl⟩
     have hq4:Q w3 W4:=by rw [← hW4]; exact bt
     have BS:Blk W4 (w3.heap.size+1) [.int .i64 (k:Int)] 3:=by rw [← hW4]; exact Blk.new1 w3 _ _ _
     rw [hW4] at hz4 hme4
     have kc4:KC w3 W4:=KC.q hq4
     have kc5:KC W4 (W4.putObj M o1):=KC.put o1 hz4 ho0
     have hb5:Below M W4 (W4.putObj M o1):=below_put (Nat.le_refl _) hz4 o1
     have hm5:(W4.putObj M o1).heap[M]?=some o1:=World.putObj_heap_same (Array.getElem?_eq_some_iff.1 hz4).1
     have hrow5:=ownsRow_kc (ownsRow_kc hrow3 kc4) kc5
     have BS5:=BS.kc kc5
     have hB5:Below M W0 (W4.putObj M o1):=Below.trans (Below.trans hB3 (hq4.mono (by omega))) hb5
     have hQ5:Q w (W4.putObj M o1):=Below.trans (Q.trans hQ3 hq4) (hb5.mono hM)
     have kcA:=KC.trans kc3 (KC.trans kc4 kc5)
     have hs5:M+1≤(W4.putObj M o1).heap.size:=Nat.le_trans hs3 (KC.trans kc4 kc5).1
     obtain ⟨W5,hW5⟩:∃ W5,W4.putObj M o1=W5:=⟨_,rfl⟩
     rw [hW5] at hme4 hm5 hrow5 BS5 hB5 hQ5 kcA hs5
     have hme3:(Instr.mapEntry 84 (.map (some M)) (.agg #[.int .i64 60,.int .i64 180,.int .i64 ((n:Int)+10)])).run Tryz.prog ((w3.alloc (.cells #[.int .i64 60,.int .i64 180,.int .i64 ((n:Int)+10)] 87)).alloc (.cells #[.int .i64 (k:Int)] 3))=.ok (.tuple #[v0,.int .i64 st]) W5:=by rw [hW4]; exact hme4
     clear hme hme4 hz4 hm3 hrow3 hq4 BS kc3 kc4 kc5 hb5 hB3 hQ3 hW4 hW5
     go_wp2_with (at_builtin; refine wpList_append_own _ rfl (.tmp 87) (.tmp 89) 40 rfl (M+1) 3 j0 _ 1 8 Tryz.underlying40 gi gz0 gz1 gz2 rfl (by decide) _ n0 xs0 rfl hrow5 ⟨w3.heap.size+1,0,none⟩ 1 1 [.int .i64 (k:Int)] rfl rfl ?qd2 ?qd3 ?qd4 ?qd5 ?qd6 ?_)
     case qd2 =>
      intro j u hj
      rw [Addr.add_lit,Nat.zero_add]
      exact (BS5.cell j).trans hj
     case qd3 =>
      intro u hu
      simp only [List.mem_cons,List.not_mem_nil,or_false] at hu
      rcases hu with rfl; rfl
     case qd4=>unfold maxLen; omega
     case qd5=>omega
     case qd6=>omega
     intro v' w6 hown6 hgrow6 _
     have hne:∀ g,v0.ownBlock=some g→M+1≤g:=fun g hg=>(hrow5.lt g hg).1
     have hm6:w6.heap[M]?=some o1:=(hgrow6.block M (by omega) (fun e=>by have:=hne M e.symm; omega)).trans hm5
     have hb6:Below M W5 w6:=(Below.refl _ _).grown hgrow6 (by omega) (fun g hg=>by have:=hne g hg; omega)
     have hes6:=hes _ v' hm6
     have kc7:KC w6 (w6.putObj M (o2 v')):=KC.put _ hm6 ho1
     have hb7:Below M W5 (w6.putObj M (o2 v')):=Below.trans hb6 (below_put (Nat.le_refl _) hm6 _)
     have HM7:Hid (MpS (k+1) (w6.putObj M (o2 v')) (M+1) M):=LH (HNX.out _ v' (World.putObj_heap_same (Array.getElem?_eq_some_iff.1 hm6).1) (ownsRow_kc hown6 kc7) (fun h0 u n xs hu=>by
      subst h0
      exact ownsRow_kc (ownsRow_kc (ownsRow_kc hu kcA) (KC.of (B:=0) hgrow6 (fun r e=>by cases e))) kc7))
     have hB7:Below M W0 (w6.putObj M (o2 v')):=Below.trans hB5 hb7
     have hQ7:Q w (w6.putObj M (o2 v')):=Below.trans hQ5 (hb7.mono hM)
     clear hes hme3 hown6 hgrow6 hne HNX HRO hrow5 BS5 hB5 hQ5 hb6 hb7 kc7 kcA
     go_wp2
     go_roundw
     case rel=>exact ⟨k+1,by omega,by go_num,HM7,hB7,hQ7⟩
     case measure=>simp [intOf]; omega
    ·have hk3:k=3:=by omega
     have hkz:¬ (k:Int)<3:=by omega
     have HM3:Hid (MpS 3 wr (M+1) M):=LH (by rw [← hk3]; exact HM.out)
     clear HM hk3 hk
     rcases HM3.out with ⟨h3,_⟩ | ⟨h3,_⟩ | ⟨h3,_⟩ | ⟨_,v1,v2,hm,ho1,ho2⟩
     ·omega
     ·omega
     ·omega
     have hmine1:Mine wr (pc1 v1):=⟨Nat.succ_pos _,Joins.ownsRow_le ho1 (Nat.zero_le _)⟩
     have hmine2:Mine wr (pc2 v2):=⟨Nat.succ_pos _,Joins.ownsRow_le ho2 (Nat.zero_le _)⟩
     have hrg:=run_range_map hm
     obtain ⟨c0,ci,cz0,cz1,cz2⟩:=info_parts infoCut
     clear HM3 HX HL0 ho1 ho2 gi gz0 gz1 gz2 HI
     go_wp2_with fail
     have hqi:Q wr (wr.alloc (.mapIter (some M) 2 #[] 2)):=(Q.refl wr).alloc (Nat.le_refl _) _
     have hiI:(wr.alloc (.mapIter (some M) 2 #[] 2)).heap[wr.heap.size]?=some (.mapIter (some M) 2 #[] 2):=World.alloc_heap_new wr _
     have hMI:M<wr.heap.size:=(Array.getElem?_eq_some_iff.1 hm).1
     have hsI:wr.heap.size+1≤(wr.alloc (.mapIter (some M) 2 #[] 2)).heap.size:=by simp
     have hwI:w.heap.size≤wr.heap.size:=hQ.size
     have hmI:=(hqi.block M hMI).trans hm
     have hn1:=hmine1.q hqi
     have hn2:=hmine2.q hqi
     have hQI:=Q.trans hQ hqi
     clear hrg hm hmine1 hmine2 hQ hB0
     generalize (wr.alloc (.mapIter (some M) 2 #[] 2))=WI at *
     generalize wr.heap.size=I at *
     go_loopw [17] (fun o wr=>∃ (L:List CV) (seen:Array Nat),Seen (pc1 v1) (pc2 v2) L seen∧wr.heap[I]?=some (.mapIter (some M) 2 seen 2)∧wr.heap[M]?=some (.map #[⟨K15,v1,0⟩,⟨K12,v2,1⟩] 2)∧Mine wr (pc1 v1)∧Mine wr (pc2 v2)∧wr.ownsRow (I+1) 42 4 o L.length (rowOf cvC L)∧I+1≤wr.heap.size∧Q w wr) (fun o _=>match o with | .slice _ n _=>3 - n | _=>0)
     case atStart=>exact ⟨[],#[],.inl ⟨rfl,rfl⟩,hiI,hmI,hn1,hn2,World.ownsRow_nil _ _ _ _,hsI,hQI⟩
     case round =>
      clear hiI hmI hn1 hn2 hsI hQI
      obtain ⟨L,seen,hS,hI,hM',hn1,hn2,hown,hsz,hQ⟩:=hrel
      have hmem:∀ p∈L,p=pc1 v1∨p=pc2 v2:=by
       intro p hp
       rcases hS with ⟨rfl,_⟩ | ⟨rfl,_⟩ | ⟨rfl,_⟩ | ⟨rfl,_⟩ | ⟨rfl,_⟩
       ·cases hp
       ·exact .inl (List.mem_singleton.1 hp)
       ·exact .inr (List.mem_singleton.1 hp)
       ·rcases List.mem_cons.1 hp with h | h
        ·exact .inl h
        ·exact .inr (List.mem_singleton.1 h)
       ·rcases List.mem_cons.1 hp with h | h
        ·exact .inr h
        ·exact .inl (List.mem_singleton.1 h)
      have hperm:L.length=2→L.Perm [pc1 v1,pc2 v2]:=by
       intro h2
       rcases hS with ⟨rfl,_⟩ | ⟨rfl,_⟩ | ⟨rfl,_⟩ | ⟨rfl,_⟩ | ⟨rfl,_⟩
       ·cases h2
       ·cases h2
       ·cases h2
       ·exact .refl _
       ·exact List.Perm.swap _ _ []
      rcases seen_next hS 0 hI hM' with ⟨hl2,hr⟩ | ⟨d,u,c,i,wn,hl2,hw,hcc,⟨g1,g2,g3,g4⟩,hr,hent,hS2⟩
      ·have HSo:=LH (cut_sort L (by omega) (I+1) u17 wr hown (fun p hp=>by rcases hmem p hp with rfl | rfl; exact hn1; exact hn2))
       have HPm:=LH (hperm hl2)
       have hne:L≠[]:=fun e=>by rw [e] at hl2; cases hl2
       rcases hown.2 with ⟨rfl,hn0⟩ | ⟨gg,cp,cur,rfl,_⟩
       ·omega
       clear hS hmem hperm hown hn1 hn2 hI hM' ci cz0 cz1 cz2 hl2
       go_wp2_with fail
       refine HSo.out.mono ?_
       rintro e w9 ⟨rfl,hb9,L',hpL,hpw,hmn,hrow⟩
       have hrow':=hrow.resolve_left hne
       have hL':L'=[pc1 v1,pc2 v2]:=by
        rcases perm_two (hpL.trans HPm.out) with h | h
        ·exact h
        ·rw [h] at hpw
         have h1:=(List.pairwise_cons.1 hpw).1 (pc1 v1) (by simp)
         have h2:behF (pc1 v1).1 (pc2 v2).1=true:=(beh_iff _ _).2 (.inr ⟨rfl,.inr ⟨rfl,.inl (show (12:Int)<15 by decide)⟩⟩)
         rw [h1] at h2; cases h2
       subst hL'
       have HCt:=LH (CtSl.of hrow' (fun p hp=>(hmn p hp).num))
       have hQ9:Q w w9:=Below.trans hQ (hb9.mono (by omega))
       clear hpL hpw hmn hrow hrow' HSo HPm hb9
       go_wp2
       go_ret2
       exact ⟨_,rfl,hQ9,HCt.out⟩
      ·obtain ⟨cc,cu⟩:=c
       obtain ⟨cw,cd,cn,cms⟩:=cc
       simp only at g1 g2 g3 g4
       subst g1 g2 g3 g4
       have hwn:wn.heap[I]?=some (.mapIter (some M) 2 seen 2):=by rcases hw with rfl | rfl <;> exact hI
       have kcn:KC wr wn:=by rcases hw with rfl | rfl; exact KC.q (Q.refl _); exact KC.q (Below.drew (Q.refl _))
       have hbn:Below I wr wn:=by rcases hw with rfl | rfl; exact Below.refl _ _; exact Below.drew (Below.refl _ _)
       have kc2:KC wn (wn.putObj I (.mapIter (some M) 2 (seen.push i) 2)):=KC.put _ hwn rfl
       have hb2:Below I wr (wn.putObj I (.mapIter (some M) 2 (seen.push i) 2)):=Below.trans hbn (below_put (Nat.le_refl _) hwn _)
       have hI2:(wn.putObj I (.mapIter (some M) 2 (seen.push i) 2)).heap[I]?=some (.mapIter (some M) 2 (seen.push i) 2):=World.putObj_heap_same (Array.getElem?_eq_some_iff.1 hwn).1
       have hM2:=(hb2.block M hMI).trans hM'
       have kcx:=KC.trans kcn kc2
       have hm1:=hn1.kc kcx
       have hm2:=hn2.kc kcx
       have how2:=ownsRow_kc hown kcx
       have hs2:I+1≤(wn.putObj I (.mapIter (some M) 2 (seen.push i) 2)).heap.size:=Nat.le_trans hsz kcx.1
       have hQ2:Q w (wn.putObj I (.mapIter (some M) 2 (seen.push i) 2)):=Below.trans hQ (hb2.mono hwI)
       generalize (wn.putObj I (.mapIter (some M) 2 (seen.push i) 2))=W2 at *
       obtain ⟨sb,sn,scp,rfl⟩:∃ sb sn scp,cu=.slice sb sn scp:=by
        rcases hcc with h | h
        ·injection h with _ h2
         obtain ⟨_,_,_,hv,_⟩:=hm1.block
         exact ⟨_,_,_,by rw [h2,show v1=(pc1 v1).2 from rfl,hv]⟩
        ·injection h with _ h2
         obtain ⟨_,_,_,hv,_⟩:=hm2.block
         exact ⟨_,_,_,by rw [h2,show v2=(pc2 v2).2 from rfl,hv]⟩
       have hen:=hent W2 hI2 hM2
       have hlz:(L.length:Int)<2:=by omega
       clear hent hb2 kc2 hwn kcn hbn hw hS hmem hperm hn1 hn2 hown hI hM' hsz hQ kcx
       have hqa:Q W2 (W2.alloc (.cells #[.int .i64 60,.int .i64 180,.int .i64 cn] 87)):=(Q.refl _).alloc (Nat.le_refl _) _
       have how3:=ownsRow_keep how2 (Q.trans hqa ((Q.refl _).alloc (Nat.le_refl _) (.cells #[.int .i64 60,.int .i64 180,.int .i64 cn,.slice sb sn scp] 42)))
       have HRw:Hid (rowOf cvC (L++[(⟨60,180,cn,cms⟩,.slice sb sn scp)])=rowOf cvC L++[.int .i64 60,.int .i64 180,.int .i64 cn,.slice sb sn scp]):=LH (rowOf_snoc _ _)
       go_wp2_with (at_builtin; refine wpList_append_own _ rfl (.tmp 101) (.tmp 110) 22 rfl (I+1) 42 c0 _ 4 48 Tryz.underlying22 ci cz0 cz1 cz2 rfl (by decide) _ L.length (rowOf cvC L) rfl how3 ⟨W2.heap.size+1,0,none⟩ 1 1 [.int .i64 60,.int .i64 180,.int .i64 cn,.slice sb sn scp] rfl rfl ?qe2 ?qe3 ?qe4 ?qe5 ?qe6 ?_)
       case qe2 =>
        intro j u hj
        rw [Addr.add_lit,Nat.zero_add]
        exact ((Blk.new1 W2 _ [.int .i64 60,.int .i64 180,.int .i64 cn,.slice sb sn scp] 42).cell j).trans hj
       case qe3 =>
        intro z hz
        simp only [List.mem_cons,List.not_mem_nil,or_false] at hz
        rcases hz with rfl | rfl | rfl | rfl
        ·rfl
        ·rfl
        ·rfl
        ·rfl
       case qe4=>unfold maxLen; omega
       case qe5=>omega
       case qe6=>simp; omega
       intro o' w6 hown6 hgrow6 _
       have hqc:Q W2 ((W2.alloc (.cells #[.int .i64 60,.int .i64 180,.int .i64 cn] 87)).alloc (.cells #[.int .i64 60,.int .i64 180,.int .i64 cn,.slice sb sn scp] 42)):=Q.trans hqa ((Q.refl _).alloc (Nat.le_refl _) _)
       have hb6:Below (I+1) W2 w6:=Below.trans (hqc.mono hs2) ((Below.refl _ _).grown hgrow6 (by have:=hqc.size; omega) (fun k hk=>(how3.lt k hk).1))
       have hI6:=(hb6.block I (by omega)).trans hI2
       have hM6:=(hb6.block M (by omega)).trans hM2
       have hn6:=(hm1.q hqc).grown how3 hgrow6
       have hp6:=(hm2.q hqc).grown how3 hgrow6
       have hQ6:Q w w6:=Below.trans hQ2 (hb6.mono (by omega))
       have hs6:I+1≤w6.heap.size:=Nat.le_trans hs2 hb6.size
       have HO6:Hid (w6.ownsRow (I+1) 42 4 o' (L++[((⟨60,180,cn,cms⟩:Ct),Value.slice sb sn scp)]).length (rowOf cvC (L++[(⟨60,180,cn,cms⟩,.slice sb sn scp)]))):=LH (by rw [HRw.out,List.length_append]; exact hown6)
       have hform:∃ a cp,o'=.slice a (L.length+1) cp:=by
        rcases hown6.2 with ⟨rfl,h0⟩ | ⟨g,cap,cur,rfl,_⟩
        ·omega
        ·exact ⟨_,_,rfl⟩
       obtain ⟨oa,ocp,rfl⟩:=hform
       have hua:∃ a cp,u17=.slice a L.length cp:=by
        rcases how2.2 with ⟨rfl,h0⟩ | ⟨g,cap,cur,rfl,_⟩
        ·exact ⟨_,_,by rw [h0]⟩
        ·exact ⟨_,_,rfl⟩
       obtain ⟨ua,ucp,rfl⟩:=hua
       clear hown6 hgrow6 how3 hqc hqa hb6 how2 hm1 hm2 hQ2 hI2 hM2 HRw hen
       go_wp2
       go_roundw
       case rel=>exact ⟨L++[(⟨60,180,cn,cms⟩,.slice sb sn scp)],seen.push i,hS2,hI6,hM6,hn6,hp6,HO6.out,hs6,hQ6⟩
       case measure=>show 3 - (L.length+1)<3 - L.length; omega
end Go.Proofs.YtohlpeicpoaanaaGreatDoor
