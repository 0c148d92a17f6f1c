/-
  Walks of package bevel: the backings of a hip.; Walks of package bevel: the bevels of a hip, where no line is given.; The example of chapter 33: its plan, its members, their numbers.; slices.Equal at surds of one term that read the same.
-/
import Derived.Test.YtagkadlaeeoblaaGreatDoorBM21
import Derived.Test.YtagkadlaeeoblaaGreatDoorBM24
set_option maxRecDepth 100000
set_option maxHeartbeats 8000000
namespace Go.Proofs.YtagkadlaeeoblaaGreatDoor
section
open Go.RowKit Go.Shelf Kp
open Go.Lib (decDigits)
attribute [local go_sem] Oper.semAt_some
theorem zjC{w:World}{b g:Nat}(h:b≠g)(i:Nat)(v:Value):(w.setCell ⟨g,i,none⟩ v).heap[b]? = w.heap[b]?:=by
 have:=h.symm
 simp[World.setCell,Array.getElem?_modify,this]
theorem zj6(k F O W D:Int)(X1 X2 X3 X4 X5 X6:Str)(a:Option Addr)(nn cp:Nat)(ob:Nat)(c0 c1 c2 c3 c4:Value)(L1 L2:List (Rat × Nat))(w:World)(hE:Env w)(hob:ng≤ob)(hb:Blk w ob [c0,c1,c2,c3,c4] 56)
  (H1:Hid (∀ W',Env W'→Below ob w W'→Calls Tryz.prog 329 #[.agg #[.slice a nn cp],.agg #[.int .i64 k,.int .i64 F,.int .i64 O,.string ⟨X1.toArray⟩,.string ⟨X2.toArray⟩,.string ⟨X3.toArray⟩,.string ⟨X4.toArray⟩,.string ⟨X5.toArray⟩,.string ⟨X6.toArray⟩,.int .i64 W,.int .i64 D],.int .i64 F] W' (zpC W' L1)))
  (H2:Hid (∀ W',Env W'→Below ob w W'→Calls Tryz.prog 329 #[.agg #[.slice a nn cp],.agg #[.int .i64 k,.int .i64 F,.int .i64 O,.string ⟨X1.toArray⟩,.string ⟨X2.toArray⟩,.string ⟨X3.toArray⟩,.string ⟨X4.toArray⟩,.string ⟨X5.toArray⟩,.string ⟨X6.toArray⟩,.int .i64 W,.int .i64 D],.int .i64 O] W' (zpC W' L2))) :
  Calls Tryz.prog 327 #[.agg #[.slice a nn cp,.slice none 0 0,.slice none 0 0,.slice none 0 0],.agg #[.int .i64 k,.int .i64 F,.int .i64 O,.string ⟨X1.toArray⟩,.string ⟨X2.toArray⟩,.string ⟨X3.toArray⟩,.string ⟨X4.toArray⟩,.string ⟨X5.toArray⟩,.string ⟨X6.toArray⟩,.int .i64 W,.int .i64 D],.pointer (some ⟨ob,0,none⟩)] w
   fun e w'=>∃ v3 v4,e=.returned (.int .i64 0)∧Below ob w w'∧(∀ b,b<w.heap.size→b≠ob→w'.heap[b]? = w.heap[b]?)∧Blk w' ob [c0,c1,c2,v3,v4] 56∧zM w' w.heap.size v3 L1∧zM w' w.heap.size v4 L2:=by
 have hlt:=hb.lt
 obtain⟨W0,hW0⟩:∃ W0,(w.alloc (.cells #[.slice a nn cp,.slice none 0 0,.slice none 0 0,.slice none 0 0] 63)).alloc (.cells #[.int .i64 k,.int .i64 F,.int .i64 O,.string ⟨X1.toArray⟩,.string ⟨X2.toArray⟩,.string ⟨X3.toArray⟩,.string ⟨X4.toArray⟩,.string ⟨X5.toArray⟩,.string ⟨X6.toArray⟩,.int .i64 W,.int .i64 D] 33)=W0:=⟨_,rfl⟩
 have hq0:Q w W0:=by rw[← hW0];exact bt
 have BR:Blk W0 w.heap.size [.slice a nn cp,.slice none 0 0,.slice none 0 0,.slice none 0 0] 63:=by rw[← hW0];exact(Blk.new w _ _).alloc _
 have BM:Blk W0 (w.heap.size+1) [.int .i64 k,.int .i64 F,.int .i64 O,.string ⟨X1.toArray⟩,.string ⟨X2.toArray⟩,.string ⟨X3.toArray⟩,.string ⟨X4.toArray⟩,.string ⟨X5.toArray⟩,.string ⟨X6.toArray⟩,.int .i64 W,.int .i64 D] 33:=by rw[← hW0];exact Blk.new1 w _ _ _
 go_enter Tryz.func327,Tryz.ntmps327
 have hQ0:=Q.refl W0
 replace r0:=BR.cell
 replace lBR:=BR.lt
 replace m0:=BM.cell 0
 replace m1:=BM.cell 1
 replace m2:=BM.cell 2
 replace m3:=BM.cell 3
 replace m4:=BM.cell 4
 replace m5:=BM.cell 5
 replace m6:=BM.cell 6
 replace m7:=BM.cell 7
 replace m8:=BM.cell 8
 replace m9:=BM.cell 9
 replace m10:=BM.cell 10
 simp only[zs4,zs5]at m0 m1 m2 m3 m4 m5 m6 m7 m8 m9 m10
 replace lBM:=BM.lt
 go_wp2_with fail
 refine zm 15 rfl (by kernel_rfl) rfl ?_
 refine svp 0 ?_
 refine svq 1 rfl (by intro w' hq;have hc0:=za hq m1;go_simp;try with_reducible rfl) ?_
 refine svp 2 ?_
 refine svp 3 ?_
 refine svp 4 ?_
 refine svp 5 ?_
 refine svp 6 ?_
 refine svq 7 rfl (by intro w' hq;have hc0:=za hq m2;go_simp;try with_reducible rfl) ?_
 refine svp 8 ?_
 refine svp 9 ?_
 refine svp 10 ?_
 refine svp 11 ?_
 refine svp 14 ?_
 refine zaX (i:=12) (fun w'=>.slice (some ⟨w'.heap.size,0,none⟩) 2 2) (.cells #[.int .i64 F,.pointer (some ⟨ob,3,none⟩),.int .i64 O,.pointer (some ⟨ob,4,none⟩)] 402) rfl rfl (by kernel_rfl) (by rfl) (fun w' hq=>by go_simp;try with_reducible rfl) (fun w2 hq2=>?_)
 simp only[Act.put,zs1,zs2,zs3]
 have BT:=Blk.new w2 [.int .i64 F,.pointer (some ⟨ob,3,none⟩),.int .i64 O,.pointer (some ⟨ob,4,none⟩)] 402
 refine svp 13 ?_
 refine zi (by kernel_rfl) (fun w3 hq3=>?_)
 simp only[List.drop_succ_cons,List.drop_nil]
 have hq03:Q W0 w3:=Q.trans (Below.drew (Q.refl W0)) (Q.trans hq2 (Q.trans ((Below.refl _ w2).alloc (Nat.le_refl _) _) hq3))
 have hgt:w.heap.size+1<w2.heap.size:=Nat.lt_of_lt_of_le BM.lt (Q.trans (Below.drew (Q.refl W0)) hq2).size
 replace BT:=BT.keep hq3 (by simp)
 replace BR:=BR.keep hq03 BR.lt
 replace BM:=BM.keep hq03 BM.lt
 have BB:=hb.keep (Q.trans hq0 hq03) hb.lt
 have hQ:Q w w3:=Q.trans hq0 hq03
 generalize w2.heap.size=tb at *
 clear hq2 hq3 hq03 hq0 hQ0 hb r0 lBR m0 m1 m2 m3 m4 m5 m6 m7 m8 m9 m10 lBM hW0
 have hQ0:=Q.refl w3
 replace r0:=BR.cell
 replace lBR:=BR.lt
 replace m0:=BM.cell 0
 replace m1:=BM.cell 1
 replace m2:=BM.cell 2
 replace m3:=BM.cell 3
 replace m4:=BM.cell 4
 replace m5:=BM.cell 5
 replace m6:=BM.cell 6
 replace m7:=BM.cell 7
 replace m8:=BM.cell 8
 replace m9:=BM.cell 9
 replace m10:=BM.cell 10
 simp only[zs4,zs5]at m0 m1 m2 m3 m4 m5 m6 m7 m8 m9 m10
 replace lBM:=BM.lt
 replace t0:=BT.cell
 replace lBT:=BT.lt
 replace b0:=BB.cell
 replace lBB:=BB.lt
 go_wp2
 refine wp_loop_rounds 3 ?_
 rw[rounds_succ]
 go_wp2_with fail
 obtain⟨W4,hW4⟩:∃ W4,w3.alloc (.cells #[.int .i64 F,.pointer (some ⟨ob,3,none⟩)] 402)=W4:=⟨_,rfl⟩
 have BX:Blk W4 w3.heap.size [.int .i64 F,.pointer (some ⟨ob,3,none⟩)] 402:=by rw[← hW4];exact Blk.new w3 _ _
 have hq34:Q w3 W4:=by rw[← hW4];exact bt
 rw[hW4]
 have hwW:w.heap.size≤W4.heap.size:=(Q.trans hQ hq34).size
 have hB4lt:ob≤W4.heap.size:=Nat.le_trans (Nat.le_of_lt hlt) hwW
 have hB4:Below ob w W4:=(Q.trans hQ hq34).mono (Nat.le_of_lt hlt)
 refine(H1.out W4 (hE.below hob hB4) hB4).mono ?_
 rintro e V1⟨v3,rfl,hv1,hs3⟩
 obtain⟨g3,cap3,rfl,-⟩:=hs3.form
 have hq3v:Q w3 V1:=Q.trans hq34 hv1
 replace BX:=BX.keep hv1 BX.lt
 replace BR:=BR.keep hq3v BR.lt
 replace BM:=BM.keep hq3v BM.lt
 replace BT:=BT.keep hq3v BT.lt
 replace BB:=BB.keep hq3v BB.lt
 have hxb:w3.heap.size≠ob:=by have:=hQ.size;omega
 clear hW4 r0 lBR m0 m1 m2 m3 m4 m5 m6 m7 m8 m9 m10 lBM t0 lBT b0 lBB
 have hQ0:=Q.refl V1
 replace x0:=BX.cell
 replace lBX:=BX.lt
 replace b0:=BB.cell
 replace lBB:=BB.lt
 have fb:=BB.frozen
 go_wp2
 obtain⟨X,hX⟩:∃ X,V1.setCell ⟨ob,3,none⟩ (.slice g3 L1.length cap3)=X:=⟨_,rfl⟩
 have h1b:ob≠w.heap.size:=by omega
 have h2b:ob≠w.heap.size+1:=by omega
 have h3b:ob≠tb:=by omega
 have BBX:=BB.set 3 (.slice g3 L1.length cap3)
 simp only[List.set_cons_zero,List.set_cons_succ]at BBX
 replace BR:=BR.setOther h1b 3 (.slice g3 L1.length cap3)
 replace BM:=BM.setOther h2b 3 (.slice g3 L1.length cap3)
 replace BT:=BT.setOther h3b 3 (.slice g3 L1.length cap3)
 have hBX:Below ob w (V1.setCell ⟨ob,3,none⟩ (.slice g3 L1.length cap3)):=Below.setCell (p:=⟨ob,3,none⟩) (Below.trans hB4 (hv1.mono hB4lt)) (Nat.le_refl _) _
 have hs3X:zM (V1.setCell ⟨ob,3,none⟩ (.slice g3 L1.length cap3)) w.heap.size (.slice g3 L1.length cap3) L1:=zaL (Joins.ownsRow_le hs3 hwW) (g:=ob) (by omega) 3 _
 have hK1:∀ b,b<w.heap.size→b≠ob→(V1.setCell ⟨ob,3,none⟩ (.slice g3 L1.length cap3)).heap[b]? = w.heap[b]?:=fun b h1 h2=>by
  rw[zjC h2,(Q.trans hQ hq3v).block b h1]
 rw[hX]at BBX BR BM BT hBX hs3X hK1 ⊢
 have hszX:w.heap.size≤X.heap.size:=by rw[← hX];simp;exact Nat.le_trans hwW hv1.size
 clear hX fb BB b0 lBB BX x0 lBX hs3 hv1 hB4 hQ0
 have hQ0:=Q.refl X
 replace r0:=BR.cell
 replace lBR:=BR.lt
 replace m0:=BM.cell 0
 replace m1:=BM.cell 1
 replace m2:=BM.cell 2
 replace m3:=BM.cell 3
 replace m4:=BM.cell 4
 replace m5:=BM.cell 5
 replace m6:=BM.cell 6
 replace m7:=BM.cell 7
 replace m8:=BM.cell 8
 replace m9:=BM.cell 9
 replace m10:=BM.cell 10
 simp only[zs4,zs5]at m0 m1 m2 m3 m4 m5 m6 m7 m8 m9 m10
 replace lBM:=BM.lt
 replace t0:=BT.cell
 replace lBT:=BT.lt
 rw[rounds_succ]
 go_wp2_with fail
 obtain⟨W5,hW5⟩:∃ W5,X.alloc (.cells #[.int .i64 O,.pointer (some ⟨ob,4,none⟩)] 402)=W5:=⟨_,rfl⟩
 have BX:Blk W5 X.heap.size [.int .i64 O,.pointer (some ⟨ob,4,none⟩)] 402:=by rw[← hW5];exact Blk.new X _ _
 have hq5:Q X W5:=by rw[← hW5];exact bt
 rw[hW5]
 have hwW5:w.heap.size≤W5.heap.size:=Nat.le_trans hszX hq5.size
 have hB5:Below ob w W5:=Below.trans hBX (hq5.mono (by omega))
 refine(H2.out W5 (hE.below hob hB5) hB5).mono ?_
 rintro e V2⟨v4,rfl,hv2,hs4⟩
 obtain⟨g4,cap4,rfl,-⟩:=hs4.form
 have hqv:Q X V2:=Q.trans hq5 hv2
 have hs3':=zM.keep hs3X hqv
 replace BX:=BX.keep hv2 BX.lt
 replace BB:=BBX.keep hqv BBX.lt
 clear hW5 BR BM BT r0 lBR m0 m1 m2 m3 m4 m5 m6 m7 m8 m9 m10 lBM t0 lBT BBX hs3X H1 H2
 have hQ0:=Q.refl V2
 replace x0:=BX.cell
 replace lBX:=BX.lt
 replace b0:=BB.cell
 replace lBB:=BB.lt
 have fb:=BB.frozen
 have hBe:Below ob w (V2.setCell ⟨ob,4,none⟩ (.slice g4 L2.length cap4)):=Below.setCell (p:=⟨ob,4,none⟩) (Below.trans hB5 (hv2.mono (by omega))) (Nat.le_refl _) _
 have BBe:=BB.set 4 (.slice g4 L2.length cap4)
 simp only[List.set_cons_zero,List.set_cons_succ]at BBe
 have e3:zM (V2.setCell ⟨ob,4,none⟩ (.slice g4 L2.length cap4)) w.heap.size (.slice g3 L1.length cap3) L1:=zaL hs3' (g:=ob) (by omega) 4 _
 have e4:zM (V2.setCell ⟨ob,4,none⟩ (.slice g4 L2.length cap4)) w.heap.size (.slice g4 L2.length cap4) L2:=zaL (Joins.ownsRow_le hs4 hwW5) (g:=ob) (by omega) 4 _
 have hK:∀ b,b<w.heap.size→b≠ob→(V2.setCell ⟨ob,4,none⟩ (.slice g4 L2.length cap4)).heap[b]? = w.heap[b]?:=fun b h1 h2=>by
  rw[zjC h2,hqv.block b (by omega),hK1 b h1 h2]
 clear hs3' hs4 hK1
 go_wp2
 rw[rounds_succ]
 go_wp2
 go_ret
 exact⟨_,_,rfl,hBe,hK,BBe,e3,e4⟩
end
section
open Go.RowKit Go.Shelf Kp
open Go.Lib (decDigits)
attribute [local go_sem] Oper.semAt_some
def zjJ(w:World):Prop:=0<w.heap.size∧∃ bm,bm<w.heap.size∧w.cell? ⟨0,0,none⟩=some (.map (some bm)) ∧
 ∃ o,w.heap[bm]? = some o∧∀ W:World,W.heap[bm]? = some o→(Instr.lookup 99 (.map (some bm)) (.int .i64 6) false).run Tryz.prog W=.ok (.func (.func 327) #[] #[]) W
theorem zjJ.q{w w':World}(h:zjJ w)(hq:Q w w'):zjJ w':=by
 obtain⟨hg,bm,hb,hc,o,ho,hl⟩:=h
 exact⟨Nat.lt_of_lt_of_le hg hq.size,bm,Nat.lt_of_lt_of_le hb hq.size,by rw[hq.cell (p:=⟨0,0,none⟩) hg];exact hc,o,by rw[hq.block bm hb];exact ho,hl⟩
theorem znt(w:World):CR 85 #[.slice none 0 0,.func (.func 45) #[] #[]] w (.int .i64 (-1)):=by
 go_enter Tryz.func85,Tryz.ntmps85
 go_wp2
 refine wp_loop_rounds 1 ?_
 rw[rounds_succ]
 go_wp2
 go_ret
 exact⟨rfl,bt⟩
theorem zj5(w:World):CR 44 #[.slice none 0 0,.func (.func 45) #[] #[]] w (.bool false):=by
 have HI:=LH (znt w)
 go_enter Tryz.func44,Tryz.ntmps44
 go_wp2_with fail
 refine HI.out.mono ?_
 rintro e w1⟨rfl,hq1⟩
 go_wp2
 go_ret
 exact⟨rfl,hq1⟩
theorem zm7{W:World}{b:Nat}{c0 c1 c2 c3 c4:Value}(h:Blk W b [c0,c1,c2,c3,c4] 56)(fn:Func)(m k:Nat)(hf:fn.results=#[.cell m 56,.tmp k])(tmps:Array Value)(u:Value)(hp:tmps.getD m undef=.pointer (some ⟨b,0,none⟩))(hk:tmps.getD k undef=u) :
  (results fn tmps).run Tryz.prog W=.ok (.tuple #[.agg #[c0,c1,c2,c3,c4],u]) W:=by
 have e0:=h.cell
 simp only[Array.getD_eq_getD_getElem?]at hp hk
 simp[results,hf,go_sem,hp,hk,e0]
theorem zr5(F O W D:Int)(X1 X2 X3 X4 X5 X6:Str)(a:Option Addr)(nn cp:Nat)(L0 L1 L2:List (Rat × Nat))(w:World)(hE:Env w)(hA:zjJ w)
  (HCP:Hid (∀ b cap ty W',Env W'→Q w W'→Blk W' b [.int .i64 6,.int .i64 F,.int .i64 O,.string ⟨X1.toArray⟩,.string ⟨X2.toArray⟩,.string ⟨X3.toArray⟩,.string ⟨X4.toArray⟩,.string ⟨X5.toArray⟩,.string ⟨X6.toArray⟩,.int .i64 W,.int .i64 D] ty→CR 40 #[.agg #[.slice a nn cp],.slice (some ⟨b,0,none⟩) 1 cap] W' (.int .i64 0)))
  (HSE:Hid (∀ W',Env W'→Q w W'→Calls Tryz.prog 17 #[.agg #[.int .i64 6,.int .i64 F,.int .i64 O,.string ⟨X1.toArray⟩,.string ⟨X2.toArray⟩,.string ⟨X3.toArray⟩,.string ⟨X4.toArray⟩,.string ⟨X5.toArray⟩,.string ⟨X6.toArray⟩,.int .i64 W,.int .i64 D]] W' (zpC W' L0)))
  (H1:Hid (∀ W',Env W'→Q w W'→Calls Tryz.prog 329 #[.agg #[.slice a nn cp],.agg #[.int .i64 6,.int .i64 F,.int .i64 O,.string ⟨X1.toArray⟩,.string ⟨X2.toArray⟩,.string ⟨X3.toArray⟩,.string ⟨X4.toArray⟩,.string ⟨X5.toArray⟩,.string ⟨X6.toArray⟩,.int .i64 W,.int .i64 D],.int .i64 F] W' (zpC W' L1)))
  (H2:Hid (∀ W',Env W'→Q w W'→Calls Tryz.prog 329 #[.agg #[.slice a nn cp],.agg #[.int .i64 6,.int .i64 F,.int .i64 O,.string ⟨X1.toArray⟩,.string ⟨X2.toArray⟩,.string ⟨X3.toArray⟩,.string ⟨X4.toArray⟩,.string ⟨X5.toArray⟩,.string ⟨X6.toArray⟩,.int .i64 W,.int .i64 D],.int .i64 O] W' (zpC W' L2))) :
  Calls Tryz.prog 21 #[.agg #[.slice a nn cp,.slice none 0 0,.slice none 0 0,.slice none 0 0],.agg #[.int .i64 6,.int .i64 F,.int .i64 O,.string ⟨X1.toArray⟩,.string ⟨X2.toArray⟩,.string ⟨X3.toArray⟩,.string ⟨X4.toArray⟩,.string ⟨X5.toArray⟩,.string ⟨X6.toArray⟩,.int .i64 W,.int .i64 D]] w
   fun e w'=>∃ v0 v3 v4,e=.returned (.tuple #[.agg #[v0,.slice none 0 0,.slice none 0 0,v3,v4],.int .i64 0])∧Q w w'∧zM w' w.heap.size v0 L0∧zM w' w.heap.size v3 L1∧zM w' w.heap.size v4 L2:=by
 have HL:=LH zj5
 have HBK:=LH (fun ob c0 W' (hW:Env W') (hq:Q w W') (h1:w.heap.size≤ob) hb=>zj6 6 F O W D X1 X2 X3 X4 X5 X6 a nn cp ob c0 (.slice none 0 0) (.slice none 0 0) (.slice none 0 0) (.slice none 0 0) L1 L2 W' hW (Nat.le_trans hE.size h1) hb
  (LH (fun V hV hB=>H1.out V hV (Below.trans hq (hB.mono h1)))) (LH (fun V hV hB=>H2.out V hV (Below.trans hq (hB.mono h1)))))
 clear H1 H2
 obtain⟨W0,hW0⟩:∃ W0,((w.alloc (.cells #[.slice a nn cp,.slice none 0 0,.slice none 0 0,.slice none 0 0] 63)).alloc (.cells #[.int .i64 6,.int .i64 F,.int .i64 O,.string ⟨X1.toArray⟩,.string ⟨X2.toArray⟩,.string ⟨X3.toArray⟩,.string ⟨X4.toArray⟩,.string ⟨X5.toArray⟩,.string ⟨X6.toArray⟩,.int .i64 W,.int .i64 D] 33)).alloc (.cells #[.slice none 0 0,.slice none 0 0,.slice none 0 0,.slice none 0 0,.slice none 0 0] 56)=W0:=⟨_,rfl⟩
 have hq0:Q w W0:=by rw[← hW0];exact bt
 have BR:Blk W0 w.heap.size [.slice a nn cp,.slice none 0 0,.slice none 0 0,.slice none 0 0] 63:=by rw[← hW0];exact((Blk.new w _ _).alloc _).alloc _
 have BM:Blk W0 (w.heap.size+1) [.int .i64 6,.int .i64 F,.int .i64 O,.string ⟨X1.toArray⟩,.string ⟨X2.toArray⟩,.string ⟨X3.toArray⟩,.string ⟨X4.toArray⟩,.string ⟨X5.toArray⟩,.string ⟨X6.toArray⟩,.int .i64 W,.int .i64 D] 33:=by rw[← hW0];exact(Blk.new1 w _ _ _).alloc _
 have BZ:Blk W0 (w.heap.size+2) [.slice none 0 0,.slice none 0 0,.slice none 0 0,.slice none 0 0,.slice none 0 0] 56:=by rw[← hW0];exact Blk.new2 w _ _ _ _
 go_enter Tryz.func21,Tryz.ntmps21
 have hQ0:=Q.refl W0
 replace r0:=BR.cell
 replace lBR:=BR.lt
 replace m0:=BM.cell
 replace lBM:=BM.lt
 go_wp2_with fail
 clear hW0
 have BS:=Blk.new W0 [.int .i64 6,.int .i64 F,.int .i64 O,.string ⟨X1.toArray⟩,.string ⟨X2.toArray⟩,.string ⟨X3.toArray⟩,.string ⟨X4.toArray⟩,.string ⟨X5.toArray⟩,.string ⟨X6.toArray⟩,.int .i64 W,.int .i64 D] 33
 refine cx (HCP.out _ _ _ _ (hE.ofQ (Q.trans hq0 bt)) (Q.trans hq0 bt) BS) fun G1 hg1=>?_
 have hQ1:Q W0 G1:=Q.trans bt hg1
 replace BR:=BR.keep hQ1 BR.lt
 replace BM:=BM.keep hQ1 BM.lt
 clear BS hg1 HCP r0 lBR m0 lBM
 replace r0:=BR.cell
 replace lBR:=BR.lt
 replace m0:=BM.cell
 replace lBM:=BM.lt
 go_wp2_with fail
 refine cx (HL.out _) fun G2 hg2=>?_
 have hQ2:Q W0 G2:=Q.trans hQ1 hg2
 replace BR:=BR.keep hg2 BR.lt
 replace BM:=BM.keep hg2 BM.lt
 clear HL r0 lBR m0 lBM hQ1 hg2
 replace r0:=BR.cell
 replace lBR:=BR.lt
 replace m0:=BM.cell
 replace lBM:=BM.lt
 go_wp2_with fail
 have BO:=Blk.new G2 [.slice none 0 0,.slice none 0 0,.slice none 0 0,.slice none 0 0,.slice none 0 0] 56
 have hqa:Q G2 (G2.alloc (.cells ([.slice none 0 0,.slice none 0 0,.slice none 0 0,.slice none 0 0,.slice none 0 0]:List Value).toArray 56)):=bt
 have hw2:=Q.trans hq0 hQ2
 refine(HSE.out _ (hE.ofQ (Q.trans hw2 hqa)) (Q.trans hw2 hqa)).mono ?_
 rintro e G3⟨v0,rfl,hg3,hs0⟩
 obtain⟨g0,cap0,rfl,-⟩:=hs0.form
 have hq23:Q G2 G3:=Q.trans hqa hg3
 have hz0b:=BZ.lt
 replace BO:=BO.keep hg3 BO.lt
 replace BR:=BR.keep hq23 BR.lt
 replace BM:=BM.keep hq23 BM.lt
 replace BZ:=BZ.keep (Q.trans hQ2 hq23) BZ.lt
 have hz0:=hq0.size
 have hz2:=hQ2.size
 have ho0:w.heap.size+2<G2.heap.size:=Nat.lt_of_lt_of_le hz0b hz2
 have hs0':zM G3 (G2.heap.size+1) (.slice g0 L0.length cap0) L0:=by rw[World.size_alloc]at hs0;exact hs0
 generalize G2.heap.size=ob at *
 clear HSE hs0 hg3 r0 lBR m0 lBM
 have hQ0:=Q.refl G3
 replace r0:=BR.cell
 replace lBR:=BR.lt
 replace m0:=BM.cell
 replace lBM:=BM.lt
 replace o0:=BO.cell
 replace lBO:=BO.lt
 have fo:=BO.frozen
 have hw3:Q w G3:=Q.trans hw2 hq23
 obtain⟨X,hX⟩:∃ X,G3.setCell ⟨ob,0,none⟩ (.slice g0 L0.length cap0)=X:=⟨_,rfl⟩
 have hwX:Q w (G3.setCell ⟨ob,0,none⟩ (.slice g0 L0.length cap0)):=Below.setCell (p:=⟨ob,0,none⟩) hw3 (show w.heap.size≤ob by omega) _
 have BOX:=BO.set 0 (.slice g0 L0.length cap0)
 simp only[List.set_cons_zero]at BOX
 have BRX:=BR.setOther (show ob≠w.heap.size by omega) 0 (.slice g0 L0.length cap0)
 have BMX:=BM.setOther (show ob≠w.heap.size+1 by omega) 0 (.slice g0 L0.length cap0)
 have BZX:=BZ.setOther (show ob≠w.heap.size+2 by omega) 0 (.slice g0 L0.length cap0)
 have hsX:zM (G3.setCell ⟨ob,0,none⟩ (.slice g0 L0.length cap0)) (ob+1) (.slice g0 L0.length cap0) L0:=zaL hs0' (g:=ob) (by omega) 0 _
 obtain⟨hga,bm,hbm,hca,ob2,hob2,hlk⟩:=hA.q hwX
 have hlk':=hlk _ hob2
 rw[hX]at hwX BOX BRX BMX BZX hsX hca hlk'
 clear hga hbm hob2 hlk hs0' BZ
 have hnf:∀ w,(binOp BinOp.neq 98 (Value.func (Fn.func 327) #[] #[]) Value.nilFunc).run Tryz.prog w=.ok (.bool true) w:=fun w=>by kernel_rfl
 replace x0:=BRX.cell
 replace lBRX:=BRX.lt
 replace y0:=BMX.cell
 replace lBMX:=BMX.lt
 go_wp2_with fail
 refine(HBK.out ob _ X (hE.ofQ hwX) hwX (by omega) BOX).mono ?_
 rintro e V⟨v3,v4,rfl,hBV,hKV,BV,h3,h4⟩
 obtain⟨g3,cap3,rfl,-⟩:=h3.form
 obtain⟨g4,cap4,rfl,-⟩:=h4.form
 have BZV:=BZX.keep hBV (by omega)
 have hwV:Q w V:=Below.trans hwX (hBV.mono (by omega))
 have hs0V:zM V (ob+1) (.slice g0 L0.length cap0) L0:=by
  refine⟨hsX.1,hsX.2.elim .inl ?_⟩
  rintro⟨g,cap,cur,hv,hg,hc,r⟩
  exact .inr ⟨g,cap,cur,hv,hg,(hKV g (Array.getElem?_eq_some_iff.1 hc).1 (by omega)).trans hc,r⟩
 have hVw:w.heap.size≤X.heap.size:=hwX.size
 have b0:w.heap.size≤w.heap.size+2:=by omega
 have hQe:Q w (((((V.setCell ⟨w.heap.size+2,0,none⟩ (.slice g0 L0.length cap0)).setCell ⟨w.heap.size+2,1,none⟩ (.slice none 0 0)).setCell ⟨w.heap.size+2,2,none⟩ (.slice none 0 0)).setCell ⟨w.heap.size+2,3,none⟩ (.slice g3 L1.length cap3)).setCell ⟨w.heap.size+2,4,none⟩ (.slice g4 L2.length cap4)) :=
  ((((hwV.setCell (p:=⟨w.heap.size+2,0,none⟩) b0 _).setCell (p:=⟨w.heap.size+2,1,none⟩) b0 _).setCell (p:=⟨w.heap.size+2,2,none⟩) b0 _).setCell (p:=⟨w.heap.size+2,3,none⟩) b0 _).setCell (p:=⟨w.heap.size+2,4,none⟩) b0 _
 have up5:∀ {B:Nat} {v:Value} {L:List (Rat × Nat)},w.heap.size+3≤B→zM V B v L→zM (((((V.setCell ⟨w.heap.size+2,0,none⟩ (.slice g0 L0.length cap0)).setCell ⟨w.heap.size+2,1,none⟩ (.slice none 0 0)).setCell ⟨w.heap.size+2,2,none⟩ (.slice none 0 0)).setCell ⟨w.heap.size+2,3,none⟩ (.slice g3 L1.length cap3)).setCell ⟨w.heap.size+2,4,none⟩ (.slice g4 L2.length cap4)) w.heap.size v L:=fun hB h=>by
  refine Joins.ownsRow_le (zaL (zaL (zaL (zaL (zaL h (g:=w.heap.size+2) ?_ 0 _) (g:=w.heap.size+2) ?_ 1 _) (g:=w.heap.size+2) ?_ 2 _) (g:=w.heap.size+2) ?_ 3 _) (g:=w.heap.size+2) ?_ 4 _) (by omega) <;> omega
 have hXb:w.heap.size+3≤X.heap.size:=by have:=BOX.lt;omega
 have e0:=up5 (by omega) hs0V
 have e3:=up5 hXb h3
 have e4:=up5 hXb h4
 have fz:=BZV.frozen
 have hov:=BV.cell
 have BZe:=((((BZV.set 0 (.slice g0 L0.length cap0)).set 1 (.slice none 0 0)).set 2 (.slice none 0 0)).set 3 (.slice g3 L1.length cap3)).set 4 (.slice g4 L2.length cap4)
 simp only[List.set_cons_zero,List.set_cons_succ]at BZe
 clear HBK hlk' hca BRX BMX BZX BOX x0 lBRX y0 lBMX
 have hzc:=BZV.cell
 clear up5 hs0V h3 h4 hBV hKV
 go_wp2_with fail
 exact bodyPost_ret (zm7 BZe Tryz.f21 4 5 rfl _ _ rfl rfl) rfl ⟨_,_,_,rfl,hQe,e0,e3,e4⟩
end
section
open Go.RowKit Go.Shelf Kp
open Go.Lib (decDigits)
attribute [local go_sem] Oper.semAt_some
def sqr:List Sd:=[⟨0,0,1,1,false,0,0⟩,⟨10,0,3,4,false,0,0⟩,⟨10,10,1,1,false,0,0⟩,⟨0,10,1,1,false,0,0⟩]
theorem zsf:zdE [sqr]=0:=by kernel_rfl
theorem zpP:zaF [sqr]≤1000:=by
 rw[show zaF [sqr]=4 from by kernel_rfl]
 decide
def ex0:Fr:=⟨false,0,1,1,0⟩
def ex1:Fr:=⟨true,10,-1,4 / 3,0⟩
def ex3:Fr:=⟨true,0,1,1,0⟩
theorem ztB:(zb6 [sqr])[0]? = some ex0:=by kernel_rfl
theorem ztA:(zb6 [sqr])[1]? = some ex1:=by kernel_rfl
theorem ztz:(zb6 [sqr])[3]? = some ex3:=by kernel_rfl
theorem ztb:zrb ex0=[.string ⟨(zh 0).toArray⟩,.string ⟨(zh 1).toArray⟩,.string ⟨(zh 0).toArray⟩]:=by kernel_rfl
theorem zta:zrb ex1=[.string ⟨(zh (-3 / 4)).toArray⟩,.string ⟨(zh 0).toArray⟩,.string ⟨(zh (15 / 2)).toArray⟩]:=by kernel_rfl
theorem zs9:zrb ex3=[.string ⟨(zh 1).toArray⟩,.string ⟨(zh 0).toArray⟩,.string ⟨(zh 0).toArray⟩]:=by kernel_rfl
def exm:Vm:=⟨2,1,-1,⟨10,5,0⟩,⟨6,5,3⟩,50,100⟩
def exh:Vm:=⟨6,3,0,⟨0,0,0⟩,⟨4,4,4⟩,50,100⟩
theorem zt3:exm.c=[.int .i64 2,.int .i64 1,.int .i64 (-1),.string ⟨#[49,48]⟩,.string ⟨#[53]⟩,.string ⟨#[48]⟩,.string ⟨#[54]⟩,.string ⟨#[53]⟩,.string ⟨#[51]⟩,.int .i64 50,.int .i64 100]:=by kernel_rfl
theorem ztP:exh.c=[.int .i64 6,.int .i64 3,.int .i64 0,.string ⟨#[48]⟩,.string ⟨#[48]⟩,.string ⟨#[48]⟩,.string ⟨#[52]⟩,.string ⟨#[52]⟩,.string ⟨#[52]⟩,.int .i64 50,.int .i64 100]:=by kernel_rfl
theorem zif(z:Int)(h:z.natAbs<100:=by decide):Bd 12 (z:Rat):=zft (by omega) (by decide)
theorem zof:VmOk exm:=⟨⟨by decide,by decide,by decide,by decide,by decide,by decide⟩,⟨by decide,by decide⟩,⟨zif 10,zif 5,zif 0⟩,⟨zif 6,zif 5,zif 3⟩,by decide⟩
theorem zku:VmOk exh:=⟨⟨by decide,by decide,by decide,by decide,by decide,by decide⟩,⟨by decide,by decide⟩,⟨zif 0,zif 0,zif 0⟩,⟨zif 4,zif 4,zif 4⟩,by decide⟩
def exd:P3:=⟨-4,0,3⟩
def exv:P3:=⟨4,4,4⟩
theorem znz:exm.t.sub exm.f=exd:=by kernel_rfl
theorem zmJ:exh.t.sub exh.f=exv:=by kernel_rfl
theorem zs7:zaU (zlX exd)=some [(3 / 4,1)]:=by kernel_rfl
theorem zrP:zaU (ziY exd)=some [(4 / 3,1)]:=by kernel_rfl
theorem zrS:zaU (zjB (-3 / 4) 0 exd exv)=some [(5 / 4,1)]:=by kernel_rfl
theorem zrT:zaU (zlC 1 0 exv)=some [(1 / 3,3)]:=by kernel_rfl
theorem zrU:zaU (zlC 0 1 exv)=some [(1 / 3,3)]:=by kernel_rfl
theorem zrQ:zaU (zlX exv)=some [(1 / 2,2)]:=by kernel_rfl
theorem MkP.a{W:World}{T:List (Rat × Rat)}{C:List (Rat × Nat)}{e:Ending}{w':World}(h:MkP W T e w')(hm:zaU T=some C):zpC W (zf8 C) e w':=by
 obtain⟨v,E,rfl,hq,h | ⟨rfl,C',h1,h2⟩⟩:=h
 ·rw[hm]at h;cases h.1
 ·rw[hm]at h1
  cases h1
  exact⟨v,rfl,hq,h2⟩
theorem zlt(l:List Vm)(hl:∀ m∈l,VmOk m)(h2:l.length≤2)(a:Option Addr)(nn cp:Nat)(w:World)(hv:zjG w (.slice a nn cp) [sqr])(b cap:Nat)(ty:TypeId)(W:World)(hE:Env W)(hq:Q w W)(hb:Blk W b (l.flatMap Vm.c) ty) :
  CR 40 #[.agg #[.slice a nn cp],.slice (some ⟨b,0,none⟩) l.length cap] W (.int .i64 0) :=
 zjD [sqr] zsf (by decide) zpP a nn cp l hl h2 b cap ty W hE (hv.keep hq) hb
theorem zqO(i:Nat)(F:Fr)(A B C:Rat)(hi:i<[sqr].flatten.length)(hg:(zcG [sqr].flatten i).gable=false)(hF:(zb6 [sqr])[i]? = some F)(hs:F.speed≠0)(hp:zrb F=[.string ⟨(zh A).toArray⟩,.string ⟨(zh B).toArray⟩,.string ⟨(zh C).toArray⟩])(a:Option Addr)(nn cp:Nat)(w:World)(hv:zjG w (.slice a nn cp) [sqr])(W:World)(hE:Env W)(hq:Q w W) :
  CR 41 #[.agg #[.slice a nn cp],.int .i64 i] W (.tuple #[.agg #[.string ⟨(zh A).toArray⟩,.string ⟨(zh B).toArray⟩,.string ⟨(zh C).toArray⟩],.int .i64 0]):=by
 have h:=zpz [sqr] zsf (by decide) a nn cp i hi hg F hF hs W hE (hv.keep hq)
 rw[hp]at h
 exact h
theorem ztT(z:Int)(h:z.natAbs<100:=by decide):Bd 10 (z:Rat):=zft (by omega) (by decide)
theorem zrW(a:Option Addr)(nn cp:Nat)(w:World)(hE:Env w)(hv:zjG w (.slice a nn cp) [sqr]) :
  Calls Tryz.prog 19 #[.agg #[.slice a nn cp],.agg exm.c.toArray,.agg exh.c.toArray] w (zpC w [(5 / 4,1)]):=by
 have h:=znJ exm exh zof zku (by decide) (by decide) (-3 / 4) 0 (15 / 2) ⟨by decide +kernel,by decide +kernel⟩ (ztT 0) (by rw[znz,zmJ];decide +kernel) (by rw[znz];decide +kernel) (by rw[zmJ];decide +kernel) a nn cp w hE
  (LH (fun b cap ty W hW hq hb=>zlt [exm,exh] (by intro x hx;simp only[List.mem_cons,List.not_mem_nil,or_false]at hx;rcases hx with rfl | rfl;exact zof;exact zku) (by decide) a nn cp w hv b cap ty W hW hq (by rw[List.flatMap_cons,List.flatMap_cons,List.flatMap_nil,List.append_nil];exact hb)))
  (LH (fun W hW hq=>zqO 1 ex1 (-3 / 4) 0 (15 / 2) (by decide) (by decide) ztA (by decide +kernel) zta a nn cp w hv W hW hq))
 rw[znz,zmJ]at h
 exact h.mono fun _ _ h=>h.a zrS
theorem zkv(i:Nat)(F:Fr)(A B C:Rat)(bA:Bd 10 A)(bB:Bd 10 B)(hi:i<[sqr].flatten.length)(hg:(zcG [sqr].flatten i).gable=false)(hF:(zb6 [sqr])[i]? = some F)(hs:F.speed≠0)(hp:zrb F=[.string ⟨(zh A).toArray⟩,.string ⟨(zh B).toArray⟩,.string ⟨(zh C).toArray⟩])(hr:A*exv.x+B*exv.y=exv.z)(hm:zaU (zlC A B exv)=some [(1 / 3,3)])(a:Option Addr)(nn cp:Nat)(w:World)(hv:zjG w (.slice a nn cp) [sqr])(W:World)(hE:Env W)(hq:Q w W) :
  Calls Tryz.prog 329 #[.agg #[.slice a nn cp],.agg exh.c.toArray,.int .i64 i] W (zpC W [(1 / 3,3)]):=by
 have h:=zlA exh zku A B C bA bB (by rw[zmJ];exact hr) (by rw[zmJ];decide +kernel) a nn cp i W hE
  (LH (fun b cap ty W' hW hq' hb=>zlt [exh] (by intro x hx;rw[List.mem_singleton]at hx;rw[hx];exact zku) (by decide) a nn cp w hv b cap ty W' hW (Q.trans hq hq') (by rw[List.flatMap_cons,List.flatMap_nil,List.append_nil];exact hb)))
  (LH (fun W' hW hq'=>zqO i F A B C hi hg hF hs hp a nn cp w hv W' hW (Q.trans hq hq')))
 rw[zmJ]at h
 exact h.mono fun _ _ h=>h.a hm
theorem zs8(w:World)(hE:Env w):Calls Tryz.prog 17 #[.agg exm.c.toArray] w (zpC w [(3 / 4,1)]):=by
 have h:=zkD exm zof (by rw[znz];decide +kernel) w hE
 rw[znz]at h
 exact h.mono fun _ _ h=>h.a zs7
theorem zrR(w:World)(hE:Env w):Calls Tryz.prog 17 #[.agg exh.c.toArray] w (zpC w [(1 / 2,2)]):=by
 have h:=zkD exh zku (by rw[zmJ];decide +kernel) w hE
 rw[zmJ]at h
 exact h.mono fun _ _ h=>h.a zrQ
theorem zrV(w:World)(hE:Env w):Calls Tryz.prog 18 #[.agg exm.c.toArray] w (zpC w [(4 / 3,1)]):=by
 have h:=znI exm zof (by rw[znz];decide +kernel) w hE
 rw[znz]at h
 exact h.mono fun _ _ h=>h.a zrP
theorem zt4(a:Option Addr)(nn cp:Nat)(w:World)(hE:Env w)(hA:zjJ w)(hv:zjG w (.slice a nn cp) [sqr]) :
  Calls Tryz.prog 21 #[.agg #[.slice a nn cp,.slice none 0 0,.slice none 0 0,.slice none 0 0],.agg exh.c.toArray] w
   fun e w'=>∃ v0 v3 v4,e=.returned (.tuple #[.agg #[v0,.slice none 0 0,.slice none 0 0,v3,v4],.int .i64 0])∧Q w w'∧zM w' w.heap.size v0 [(1 / 2,2)]∧zM w' w.heap.size v3 [(1 / 3,3)]∧zM w' w.heap.size v4 [(1 / 3,3)]:=by
 have hc:=fun b cap ty W hW hq hb=>zlt [exh] (by intro x hx;rw[List.mem_singleton]at hx;rw[hx];exact zku) (by decide) a nn cp w hv b cap ty W hW hq hb
 have hs:=fun W hW=>zrR W hW
 have h3:=fun W hW hq=>zkv 3 ex3 1 0 0 (ztT 1) (ztT 0) (by decide) (by decide) ztz (by decide +kernel) zs9 (by decide +kernel) zrT a nn cp w hv W hW hq
 have h0:=fun W hW hq=>zkv 0 ex0 0 1 0 (ztT 0) (ztT 1) (by decide) (by decide) ztB (by decide +kernel) ztb (by decide +kernel) zrU a nn cp w hv W hW hq
 simp only[List.flatMap_cons,List.flatMap_nil,List.append_nil]at hc
 rw[ztP]at hc hs h3 h0 ⊢
 exact zr5 3 0 50 100 [48] [48] [48] [52] [52] [52] a nn cp [(1 / 2,2)] [(1 / 3,3)] [(1 / 3,3)] w hE hA (LH hc) (LH (fun W hW _=>hs W hW)) (LH h3) (LH h0)
theorem zoN{W:World}{b:Nat}{c0 c1 c2 c3 c4 c5 c6:Value}(h:Blk W b [c0,c1,c2,c3,c4,c5,c6] 90)(fn:Func)(m:Nat)(hf:fn.results=#[.cell m 90])(tmps:Array Value)(hp:tmps.getD m undef=.pointer (some ⟨b,0,none⟩)) :
  (results fn tmps).run Tryz.prog W=.ok (.agg #[c0,c1,c2,c3,c4,c5,c6]) W :=
 results_cell_row hf tmps W b _ #[c0,c1,c2,c3,c4,c5,c6] (0,0) _ hp h Tryz.underlying90 rfl (by kernel_rfl)
theorem zoE(x y r n:Int)(w:World):CR 43 #[.int .i64 x,.int .i64 y,.int .i64 r,.int .i64 n] w (.agg #[.int .i64 x,.int .i64 y,.int .i64 r,.int .i64 n,.bool false,.int .i64 0,.int .i64 0]):=by
 go_enter Tryz.func43,Tryz.ntmps43
 go_wp2_with fail
 exact bodyPost_ret (zoN (Blk.new w [.int .i64 x,.int .i64 y,.int .i64 r,.int .i64 n,.bool false,.int .i64 0,.int .i64 0] 90) Tryz.f43 8 rfl _ rfl) rfl ⟨rfl,bt⟩
theorem zl2{W:World}{b:Nat}{c0:Value}(h:Blk W b [c0] 53)(fn:Func)(m:Nat)(hf:fn.results=#[.cell m 53])(tmps:Array Value)(hp:tmps.getD m undef=.pointer (some ⟨b,0,none⟩)) :
  (results fn tmps).run Tryz.prog W=.ok (.agg #[c0]) W :=
 results_cell_row hf tmps W b _ #[c0] (0,0) _ hp h Tryz.underlying53 rfl (by kernel_rfl)
theorem zmy(w:World):Calls Tryz.prog 20 #[] w fun e w'=>∃ a n c,e=.returned (.agg #[.slice a n c])∧Q w w'∧zjG w' (.slice a n c) [sqr]:=by
 have HS:=LH zoE
 have BZ:=Blk.new w [.slice none 0 0] 53
 have hq0:Q w (w.alloc (.cells ([.slice none 0 0]:List Value).toArray 53)):=bt
 go_enter Tryz.func20,Tryz.ntmps20
 go_wp2_with fail
 refine cx (HS.out _ _ _ _ _) fun w1 hq1=>?_
 go_wp2_with fail
 refine cx (HS.out _ _ _ _ _) fun w2 hq2=>?_
 go_wp2_with fail
 refine cx (HS.out _ _ _ _ _) fun w3 hq3=>?_
 go_wp2_with fail
 refine cx (HS.out _ _ _ _ _) fun w4 hq4=>?_
 have hz4:Q (w.alloc (.cells ([.slice none 0 0]:List Value).toArray 53)) w4:=Q.trans hq1 (Q.trans hq2 (Q.trans hq3 hq4))
 have BS:=(Blk.new w4 [.int .i64 0,.int .i64 0,.int .i64 1,.int .i64 1,.bool false,.int .i64 0,.int .i64 0,.int .i64 10,.int .i64 0,.int .i64 3,.int .i64 4,.bool false,.int .i64 0,.int .i64 0,.int .i64 10,.int .i64 10,.int .i64 1,.int .i64 1,.bool false,.int .i64 0,.int .i64 0,.int .i64 0,.int .i64 10,.int .i64 1,.int .i64 1,.bool false,.int .i64 0,.int .i64 0] 90).alloc (.cells #[.slice (some ⟨w4.heap.size,0,none⟩) 4 4] 92)
 have BL:=Blk.new1 w4 (.cells ([.int .i64 0,.int .i64 0,.int .i64 1,.int .i64 1,.bool false,.int .i64 0,.int .i64 0,.int .i64 10,.int .i64 0,.int .i64 3,.int .i64 4,.bool false,.int .i64 0,.int .i64 0,.int .i64 10,.int .i64 10,.int .i64 1,.int .i64 1,.bool false,.int .i64 0,.int .i64 0,.int .i64 0,.int .i64 10,.int .i64 1,.int .i64 1,.bool false,.int .i64 0,.int .i64 0]:List Value).toArray 90) [.slice (some ⟨w4.heap.size,0,none⟩) 4 4] 92
 have BZ4:=((BZ.keep hz4 BZ.lt).alloc (.cells ([.int .i64 0,.int .i64 0,.int .i64 1,.int .i64 1,.bool false,.int .i64 0,.int .i64 0,.int .i64 10,.int .i64 0,.int .i64 3,.int .i64 4,.bool false,.int .i64 0,.int .i64 0,.int .i64 10,.int .i64 10,.int .i64 1,.int .i64 1,.bool false,.int .i64 0,.int .i64 0,.int .i64 0,.int .i64 10,.int .i64 1,.int .i64 1,.bool false,.int .i64 0,.int .i64 0]:List Value).toArray 90)).alloc (.cells #[.slice (some ⟨w4.heap.size,0,none⟩) 4 4] 92)
 have hQ:Q w ((w4.alloc (.cells ([.int .i64 0,.int .i64 0,.int .i64 1,.int .i64 1,.bool false,.int .i64 0,.int .i64 0,.int .i64 10,.int .i64 0,.int .i64 3,.int .i64 4,.bool false,.int .i64 0,.int .i64 0,.int .i64 10,.int .i64 10,.int .i64 1,.int .i64 1,.bool false,.int .i64 0,.int .i64 0,.int .i64 0,.int .i64 10,.int .i64 1,.int .i64 1,.bool false,.int .i64 0,.int .i64 0]:List Value).toArray 90)).alloc (.cells #[.slice (some ⟨w4.heap.size,0,none⟩) 4 4] 92)):=Q.trans hq0 (Q.trans hz4 bt)
 have hlt4:w.heap.size<w4.heap.size:=Nat.lt_of_lt_of_le BZ.lt hz4.size
 generalize hW:World.alloc (w4.alloc _) _=W at *
 have hzc:=BZ4.cell
 have hzf:=BZ4.frozen
 have BZe:=BZ4.set 0 (.slice (some ⟨w4.heap.size+1,0,none⟩) 1 1)
 simp only[List.set_cons_zero]at BZe
 have BSe:=BS.setOther (show w.heap.size≠w4.heap.size by omega) 0 (.slice (some ⟨w4.heap.size+1,0,none⟩) 1 1)
 have BLe:=BL.setOther (show w.heap.size≠w4.heap.size+1 by omega) 0 (.slice (some ⟨w4.heap.size+1,0,none⟩) 1 1)
 have hQe:Q w (W.setCell ⟨w.heap.size,0,none⟩ (.slice (some ⟨w4.heap.size+1,0,none⟩) 1 1)):=Below.setCell (p:=⟨w.heap.size,0,none⟩) hQ (Nat.le_refl _) _
 have hrow:zcY 7 sdC (W.setCell ⟨w.heap.size,0,none⟩ (.slice (some ⟨w4.heap.size+1,0,none⟩) 1 1)) (.slice (some ⟨w4.heap.size,0,none⟩) 4 4) sqr :=
  zcY.of_row (B:=0) ziI (l:=sqr) ⟨rfl,.inr ⟨w4.heap.size,4,_,rfl,Nat.zero_le _,BSe,by decide,by unfold maxLen;decide,rfl,rfl⟩⟩
 go_wp2_with fail
 refine bodyPost_ret (zl2 BZe Tryz.f20 0 rfl _ rfl) rfl ⟨_,_,_,rfl,hQe,⟨_,_,rfl,fun i hi=>?_⟩⟩
 simp only[List.length_cons,List.length_nil]at hi
 obtain rfl:i=0:=by omega
 exact⟨w4.heap.size+1,0,_,rfl,BLe.lt,BLe.cell 0,hrow⟩
end
section
open Go.RowKit Go.Shelf Kp
open Go.Lib (decDigits)
attribute [local go_sem] Oper.semAt_some
theorem znA(A B:Str)(w:World):(Op.equalIn 10000 42 (.agg #[.string ⟨A.toArray⟩,.string ⟨B.toArray⟩]) (.agg #[.string ⟨A.toArray⟩,.string ⟨B.toArray⟩])).run Tryz.prog w=.ok true w:=by
 have u3:=Tryz.underlying23
 have a3:=Tryz.isAgg23
 have z3:=Tryz.sizeOf23
 rw[show (10000:Nat)=9999+1 from rfl,Op.equalIn]
 simp only[Sem.run_bind,run_underlying Tryz.underlying42,Result.andThen_ok]
 go_simp
theorem zqP(s1 s2:Str)(B1 B2:Nat)(v1 v2:Value)(w:World)(h1:TSl w B1 v1 [(s1,s2)])(h2:TSl w B2 v2 [(s1,s2)]) :
  CR 22 #[v1,v2] w (.bool true):=by
 obtain⟨a1,c1,rfl,-,k1⟩:=h1
 obtain⟨a2,c2,rfl,-,k2⟩:=h2
 obtain⟨b1,o1,rfl,l1,e1,e2⟩:=k1 0 (by simp)
 obtain⟨b2,o2,rfl,l2,f1,f2⟩:=k2 0 (by simp)
 rw[Nat.zero_mul,Nat.add_zero]at e1 e2 f1 f2
 have hq:=fun w=>znA s1 s2 w
 simp only[List.getD_cons_zero]at e1 e2 f1 f2
 clear k1 k2
 go_enter Tryz.func22,Tryz.ntmps22
 go_wp2
 refine wp_loop_rounds 2 ?_
 rw[rounds_succ]
 go_wp2_with fail
 have d1:w.drew.cell? ⟨b1,o1,none⟩=some (.string ⟨s1.toArray⟩):=e1
 have d2:w.drew.cell? ⟨b1,o1+1,none⟩=some (.string ⟨s2.toArray⟩):=e2
 have g1:w.drew.cell? ⟨b2,o2,none⟩=some (.string ⟨s1.toArray⟩):=f1
 have g2:w.drew.cell? ⟨b2,o2+1,none⟩=some (.string ⟨s2.toArray⟩):=f2
 refine zm 9 rfl (by kernel_rfl) rfl ?_
 refine svp 0 ?_
 refine svp 1 ?_
 refine svp 2 ?_
 refine svq 3 rfl (by intro w' hq;have hc0:=za hq d1;have hc1:=za hq d2;go_simp;try with_reducible rfl) ?_
 refine svp 4 ?_
 refine svp 5 ?_
 refine svp 6 ?_
 refine svq 7 rfl (by intro w' hq;have hc0:=za hq g1;have hc1:=za hq g2;go_simp;try with_reducible rfl) ?_
 refine svp 8 ?_
 refine zi (by kernel_rfl) (fun w3 hq3=>?_)
 simp only[List.drop_succ_cons,List.drop_nil]
 have hQ:Q w w3:=Q.trans (Below.drew (Q.refl w)) hq3
 clear d1 d2 g1 g2 e1 e2 f1 f2
 go_wp2
 rw[rounds_succ]
 go_wp2
 go_ret
 exact⟨rfl,hQ⟩
end
end Go.Proofs.YtagkadlaeeoblaaGreatDoor
